/- the choice. the choice of the document. sameness of choices. a made book of the chapter's example. the chapter's example. plain laws of rates of exchange. rates of exchange: prices and legs; no condition. -/
import Derived.Test.YtjkgmglmgndaoaaGreatDoorP29
set_option maxRecDepth 100000
set_option maxHeartbeats 4000000
namespace Go.Proofs.YtjkgmglmgndaoaaGreatDoor
open Go Go.RowKit Go.SX
theorem cands_mem {xs:List QC} {k:Int} {p:PL} {ins:List UInt8} {day:Int} {z:QC} (hin:∀ y∈xs,y.In) (hz:z∈cands xs k p ins day):z.In∧payOk z.price=true∧z.src≠[]∧polOk p=true:=by
 unfold cands at hz
 split at hz
 ·rename_i h0
  obtain ⟨h1,-⟩:=candL_mem hz
  obtain ⟨h2,h3,h4⟩:=visQs_mem h1
  obtain ⟨h5,-⟩:=right_price h3 h4
  refine ⟨hin z h2,h5,?_,?_⟩
  ·have:=(usable_len (right_facts h3).1).1
   intro h6;rw [h6] at this;cases this
  ·unfold candC at h0
   split at h0
   ·rename_i h7;exact absurd h0 h7
   ·split at h0
    ·rename_i h7;exact h7
    ·cases h0
 ·cases hz
theorem cands_len {xs:List QC} {k:Int} {p:PL} {ins:List UInt8} {day:Int}:(cands xs k p ins day).length≤8:=by
 unfold cands
 split
 ·rename_i h0
  unfold candC at h0
  split at h0
  ·rename_i h7;exact absurd h0 h7
  ·split at h0
   ·rename_i h7
    unfold polOk at h7
    simp only [Bool.and_eq_true,decide_eq_true_eq] at h7
    exact Nat.le_trans (candL_len _ _ _ _ _) h7.1.2
   ·cases h0
 ·simp
theorem polOk_tol {p:PL} (h:polOk p=true):pctB p.tol=true∧betQ p.tol 0 1=true:=by
 unfold polOk at h
 simp only [Bool.and_eq_true] at h
 exact h.2.2.1
theorem yard_mid {L:List QC} {z:QC} (h:(sortedQ (cmpbl L))[((cmpbl L).length - 1) / 2]? = some z):yardQ L=z.price∧z∈L:=by
 have e1:sortR ltP ((cmpbl L).map QC.price)=(sortR ltQ (cmpbl L)).map QC.price:=(sortR_map QC.price (fun _ _=>rfl) _).symm
 have e2:(sortR ltQ (cmpbl L)).length=(cmpbl L).length:=sortR_len _ _
 refine ⟨?_,?_⟩
 ·unfold yardQ midR
  rw [e1,List.length_map,e2,← List.map_reverse,List.getElem?_map]
  unfold sortedQ at h
  rw [h];rfl
 ·have:=List.mem_of_getElem? h
  unfold sortedQ at this
  rw [List.mem_reverse,sortR_mem] at this
  exact (List.mem_filter.1 this).1
theorem yard_ex {L:List QC} (h:0 < L.length):∃ z,(sortedQ (cmpbl L))[((cmpbl L).length - 1) / 2]? = some z∧0 < (cmpbl L).length:=by
 have hp:0 < (cmpbl L).length:=by
  cases L with
  | nil=>cases h
  | cons y r =>
   have:y∈cmpbl (y :: r):=by
    rw [cmpbl_eq,List.mem_filter]
    exact ⟨by simp,decide_eq_true rfl⟩
   exact List.length_pos_of_mem this
 exact ⟨_,List.getElem?_eq_getElem (by rw [sortedQ_len];omega),hp⟩
theorem big_a:2000000000000000000000*100000000000000 < BB ^ 32:=by decide
theorem big_b:100000000000000000000000*1000000000000 < BB ^ 32:=by decide
theorem near_both {L:List QC} {tol:RQ} (ht:tol.In) (h1:pctB tol=true) (h2:betQ tol 0 1=true) (hL:∀ z∈L,z.In∧payOk z.price=true) {z:QC} (hz:z∈L):Pure Tryz.prog 59 [SV.c (.agg z.price.A),SV.c (.agg (yardQ L).A),SV.c (.agg tol.A)] (.bool (nearQ z.price (yardQ L) tol))∧Pure Tryz.prog 121 [SV.c (.agg z.price.A),SV.c (.agg (yardQ L).A),SV.c (.agg tol.A)] (.bool (nearQ z.price (yardQ L) tol))∧payOk (yardQ L)=true:=by
 obtain ⟨y,hy,-⟩:=yard_ex (L:=L) (List.length_pos_of_mem hz)
 obtain ⟨e1,hyL⟩:=yard_mid hy
 obtain ⟨k1,k2⟩:=hL z hz
 obtain ⟨k3,k4⟩:=hL y hyL
 rw [e1]
 obtain ⟨o1,o2,o3,b1,b2,b3,b4⟩:=near_ok k2 k4 h1 h2
 refine ⟨near_z k1.price k3.price ht o2 o3,near_r k1.price k3.price ht ?_ ?_,k4⟩
 ·rw [Int.natAbs_mul]
  exact Nat.lt_of_le_of_lt (Nat.mul_le_mul b1 b4) big_a
 ·rw [Int.natAbs_mul]
  exact Nat.lt_of_le_of_lt (Nat.mul_le_mul b3 b2) big_b
theorem CH.size (h:CH) (v:Value):(h.A v).size=70:=by simp [CH.A,RQ.A_size]
theorem chZero_A:chZero.A (.slice none 0 0)=ti57.zero:=by kernel_rfl
theorem CH.g0 (h:CH) (v:Value):(h.A v)[0]? = some (.string (S h.src)):=by kernel_rfl
theorem CH.g4 (h:CH) (v:Value):(h.A v)[69]? = some v:=by
 have h1:h.A v=((#[.string (S h.src),.string (S h.cur),.int .i64 h.day]:Array Value)++h.price.A)++#[v]:=by simp [CH.A]
 have h2:((#[.string (S h.src),.string (S h.cur),.int .i64 h.day]:Array Value)++h.price.A).size=69:=by simp [RQ.A_size]
 rw [h1,Array.getElem?_append_right (by omega),h2]
 rfl
theorem CH.fits (h:CH) {a:Option Addr} {n c:Nat}:Fits (h.A (.slice a n c)) 70:=⟨h.size _,by
 rw [CH.A,Array.all_append,Array.all_append,h.price.A_fits.one]
 simp [Value.oneCell']⟩
theorem CH.set0 (h:CH) (v:Value) (l:List UInt8):(h.A v).setIfInBounds (0+0) (.string (S l))=({ h with src:=l }:CH).A v:=by kernel_rfl
theorem CH.set1 (h:CH) (v:Value) (l:List UInt8):(h.A v).setIfInBounds (0+1) (.string (S l))=({ h with cur:=l }:CH).A v:=by kernel_rfl
theorem CH.set2 (h:CH) (v:Value) (n:Int):(h.A v).setIfInBounds (0+2) (.int .i64 n)=({ h with day:=n }:CH).A v:=by kernel_rfl
theorem CH.set3 (h:CH) (v:Value) (r:RQ):splice (h.A v) (0+3) r.A.toList=({ h with price:=r }:CH).A v:=by kernel_rfl
theorem CH.set4 (h:CH) (v u:Value):(h.A v).setIfInBounds (0+69) u=h.A u:=by kernel_rfl
theorem runs_pri {E:Env} (hE:E.P=Tryz.prog) (a:QC):Runs E (Instr.field 51 (.agg a.A) 4) (.agg a.price.A):=fun w _=>by
 rw [hE]
 have h:=part_agg (P:=Tryz.prog) tok29 rfl a.A 4 w
 have e:a.A.extract 4 (4+ti29.size)=a.price.A:=a.gpri
 rw [e] at h
 simp [Instr.field,Sem.run_bind,run_underlying Tryz.underlying51,asAgg,h]
theorem clone_own {E:Env} (hE:E.P=Tryz.prog) {x:Value} {n:Nat} {L:List QC} (_hn:n=L.length) (h0:0 < n) (hm:n≤1000000000):OwnC E 55 [SV.c x] [(4000,Blk.own x 51 72 n (cat QC.A L))] (fun r U=>(IsL r n∧capOk r)∧U=[(4000,Blk.own x 51 72 n (cat QC.A L)),(6000,Blk.own r 51 72 n (cat QC.A L))]):=by
 have h1:(cat QC.A L).all (·.oneCell')=true:=Go.SX.cat_all (fun a=>a.one) L
 refine (OwnC.caps (OwnC.with_own (k:=4000) (v:=x) (e:=51) (sz:=72) (n:=n) (A:=cat QC.A L) (pre:=[]) rfl rfl h1 (by rw [hE];exact at55.enters) (fun E0 h hl=>clone_q (h.trans hE) hl h0 hm) (fun x U h=>by rw [h.2];rfl))).mono ?_
 rintro y U ⟨⟨U0,⟨h1,rfl⟩,rfl⟩,h3⟩
 exact ⟨⟨h1,h3 6000 _ _ _ _ _ rfl⟩,rfl⟩
theorem delete_own {E:Env} (hE:E.P=Tryz.prog) {x s:Value} {L M:List QC} {n l:Nat} (hnM:n=M.length) (hl:l=L.length) (hM:M.length≤1000) (hn:0 < L.length) (hx:IsL x n) (hcap:capOk x):OwnC E 54 [SV.c x,SV.clo 56 [7000]] [(4000,Blk.own s 51 72 l (cat QC.A L)),(7000,Blk.row 22 1 #[s]),(6000,Blk.own x 51 72 n (cat QC.A M))] (fun r U=>∃ m,m=(M.filter (sameCur L)).length∧IsL r m∧U=[(4000,Blk.own s 51 72 l (cat QC.A L)),(7000,Blk.row 22 1 #[s]),(6000,Blk.own r 51 72 m (cat QC.A (M.filter (sameCur L))))]):=by
 subst hl
 have h1:(cat QC.A L).all (·.oneCell')=true:=Go.SX.cat_all (fun a=>a.one) L
 refine (OwnC.with_own (k:=4000) (v:=s) (e:=51) (sz:=72) (n:=L.length) (A:=cat QC.A L) (pre:=[(7000,Blk.row 22 1 #[s]),(6000,Blk.own x 51 72 n (cat QC.A M))]) rfl rfl h1 (by rw [hE];exact at54.enters) (fun E0 h hl=>delete_q (h.trans hE) hnM hM hl hn hx hcap) (fun x U ⟨m,_,_,hU⟩=>by rw [hU];rfl)).mono ?_
 rintro y U ⟨U0,⟨m,h1,h2,rfl⟩,rfl⟩
 exact ⟨m,h1,h2,rfl⟩
theorem median_own {E:Env} (hE:E.P=Tryz.prog) {x:Value} {M:List QC} {n:Nat} (hnM:n=M.length) (hn:0 < n) (hM:n < 20) (hok:∀ z∈M,z.In∧z.price.ok=true):OwnC E 57 [SV.c x,SV.c (fnV 58)] [(6000,Blk.own x 51 72 n (cat QC.A M))] (fun r U=>(∃ z,(sortedQ M)[(M.length - 1) / 2]? = some z∧r=.agg z.A)∧U=[(6000,Blk.own x 51 72 n (cat QC.A M))]):=by
 subst hnM
 have h1:(cat QC.A M).all (·.oneCell')=true:=Go.SX.cat_all (fun a=>a.one) M
 refine (OwnC.with_own (k:=6000) (v:=x) (e:=51) (sz:=72) (n:=M.length) (A:=cat QC.A M) (pre:=[]) rfl rfl h1 (by rw [hE];exact at57.enters) (fun E0 h hl=>median_q (h.trans hE) hl hn hM hok) (fun x U h=>by rw [h.2];rfl)).mono ?_
 rintro y U ⟨U0,⟨h1,rfl⟩,rfl⟩
 exact ⟨h1,rfl⟩
def sfound (L:List QC) (tol:RQ) (i:Nat):Option QC:=(L.take i).find? (isGood (curH L) (yardQ L) tol)
def sbad (L:List QC) (tol:RQ) (i:Nat):List (List UInt8):=((L.take i).filter (fun q=>!isGood (curH L) (yardQ L) tol q)).map QC.src
theorem sbad_len (L:List QC) (tol:RQ) (i:Nat):(sbad L tol i).length≤i:=by
 unfold sbad
 rw [List.length_map]
 exact Nat.le_trans (List.length_filter_le _ _) (by simp;omega)
theorem sbad_bad {L:List QC} {tol:RQ} {i:Nat} {z:QC} (hz:L[i]? = some z) (h:isGood (curH L) (yardQ L) tol z=false):sbad L tol (i+1)=sbad L tol i++[z.src]:=by
 unfold sbad
 rw [List.take_add_one,hz,List.filter_append]
 simp [h]
theorem sbad_good {L:List QC} {tol:RQ} {i:Nat} {z:QC} (hz:L[i]? = some z) (h:isGood (curH L) (yardQ L) tol z=true):sbad L tol (i+1)=sbad L tol i:=by
 unfold sbad
 rw [List.take_add_one,hz,List.filter_append]
 simp [h]
theorem sfound_bad {L:List QC} {tol:RQ} {i:Nat} {z:QC} (hz:L[i]? = some z) (h:isGood (curH L) (yardQ L) tol z=false):sfound L tol (i+1)=sfound L tol i:=by
 unfold sfound
 rw [List.take_add_one,hz,List.find?_append]
 simp [h]
theorem sfound_good {L:List QC} {tol:RQ} {i:Nat} {z:QC} (hz:L[i]? = some z) (h:isGood (curH L) (yardQ L) tol z=true):sfound L tol (i+1)=some ((sfound L tol i).getD z):=by
 unfold sfound
 rw [List.take_add_one,hz,List.find?_append]
 simp only [Option.toList,List.find?_cons,h]
 cases List.find? (isGood (curH L) (yardQ L) tol) (List.take i L)<;>rfl
theorem CH.fill4 (h:CH) (v:Value) (z:QC):∃ A1 A2 A3,(h.A v).setIfInBounds (0+0) (.string (S z.src))=A1∧A1.setIfInBounds (0+1) (.string (S z.cur))=A2∧A2.setIfInBounds (0+2) (.int .i64 z.day)=A3∧splice A3 (0+3) z.price.A.toList=(chOf (some z)).A v :=
 ⟨_,_,_,CH.set0 h v z.src,CH.set1 _ v z.cur,CH.set2 _ v z.day,CH.set3 _ v z.price⟩
theorem fill_str1 (l:List UInt8):Instr.fill (fun k=>some (k*ti9.size,ti9.size)) (madeCells ti9.zero (1*ti9.size)) [(0,.string (S l))]=some (strA l):=by kernel_rfl
theorem strA_ext (l:List UInt8):(strA l).extract 0 (0+1*1)=strA l:=rfl
theorem strA_one (l:List UInt8):(strA l).all (·.oneCell')=true:=by simp [strA,Value.oneCell']
theorem info_str:∃ q,Tryz.prog.info? 9=some q∧q.bytes=16:=info_of (by kernel_rfl)
def SelQ (xs:List QC) (k:Int) (p:PL) (ins:List UInt8) (day:Int) (x:Value) (U:MemL):Prop:=∃ s n,n=(selBad (cands xs k p ins day) p.tol).length∧x=.tuple #[.agg ((selCh (cands xs k p ins day) p.tol).A s),.int .i64 (selE xs k p ins day)]∧IsL s n∧U=[(9000,Blk.own s 9 1 n (cat strA (selBad (cands xs k p ins day) p.tol)))]
theorem sel_none {xs:List QC} {k:Int} {p:PL} {ins:List UInt8} {day:Int} {e:Int} (h:cands xs k p ins day=[]) (he:selE xs k p ins day=e):SelQ xs k p ins day (mkRes [.agg (chZero.A (.slice none 0 0)),.int .i64 e]) [(9000,Blk.own (.slice none 0 0) 9 1 0 #[])]:=⟨.slice none 0 0,0,by rw [h];rfl,by rw [h,he];rfl,.nil,by rw [h];rfl⟩
theorem cands_err {xs:List QC} {k:Int} {p:PL} {ins:List UInt8} {day:Int} (h:candC xs k p day≠0):cands xs k p ins day=[]:=by unfold cands;rw [if_neg h]
theorem select_q {E:Env} (hE:E.P=Tryz.prog) {v:Value} {k:Int} {xs:List QC} (hv:Lst E v 72 xs.length (cat QC.A xs)) (hn:xs.length≤1000000000000) (hin:∀ y∈xs,y.In) {vp:Value} {p:PL} (hp:Lst E vp 1 p.srcs.length (cat strA p.srcs)) (hpn:p.srcs.length≤1000000000000000) (hpin:p.In) (ins:List UInt8) (day:Int):OwnC E 28 [SV.c v,SV.c (.agg (p.A vp)),SV.c (.int .i64 k),SV.c (.string (S ins)),SV.c (.int .i64 day)] [] (SelQ xs k p ins day):=by
 refine sx_ownC [] tt_ok mixed at28 E hE [SV.c v,SV.c (.agg (p.A vp)),SV.c (.int .i64 k),SV.c (.string (S ins)),SV.c (.int .i64 day)] [] _ rfl rfl fun w X β hT=>?_
 have hv':=hv.of_old hT
 have hp':=hp.of_old hT
 have C1:=cand_q (k:=k) rfl hv' hn hin hp' hpn hpin ins day
 obtain ⟨a,cap,rfl,hc,h4⟩:=id hp'.shape
 have F1:=p.size (.slice a p.srcs.length cap)
 have G1:=p.g1 (.slice a p.srcs.length cap)
 generalize p.A (.slice a p.srcs.length cap)=PA at *
 refine ⟨F1,?_⟩
 refine .inr (.inr (.inr ⟨[],[4000],[_,_,_,_,_],[],_,C1,rfl,trivial,rfl,trivial,?_⟩))
 rintro r U ⟨s,n,hsn,rfl,hs,rfl⟩
 obtain ⟨sa,sc,rfl⟩:=hs.len
 have hlen:=cands_len (xs:=xs) (k:=k) (p:=p) (ins:=ins) (day:=day)
 have hmem:=fun z hz=>cands_mem (k:=k) (p:=p) (ins:=ins) (day:=day) (z:=z) hin hz
 refine ⟨rfl,by decide,rfl,#[.slice sa n sc],rfl,fun c1=>?_,fun c1=>?_⟩
 ·have c1:(candC xs k p day != 0)=true:=c1
  have c1:candC xs k p day≠0:=by simpa using c1
  exact ⟨chZero.A (.slice none 0 0),(by kernel_rfl),CH.fits _,[(9000,Blk.own (.slice none 0 0) 9 1 0 #[])],[],sel_none (cands_err c1) (by unfold selE;rw [if_pos c1]),⟨.inr ⟨rfl,rfl,rfl⟩,trivial⟩,rfl⟩
 have c1:(candC xs k p day != 0)=false:=c1
 have c1:candC xs k p day=0:=by simpa using c1
 refine ⟨_,rfl,_,fun w' _=>run_len_sl Tryz.underlying22 w',fun c2=>?_,fun c2=>?_⟩
 ·have c2:((n:Int) == 0)=true:=c2
  have c2:n=0:=by have:=of_decide_eq_true c2;omega
  have e1:cands xs k p ins day=[]:=List.eq_nil_of_length_eq_zero (by omega)
  exact ⟨chZero.A (.slice none 0 0),(by kernel_rfl),CH.fits _,[(9000,Blk.own (.slice none 0 0) 9 1 0 #[])],[],sel_none e1 (by unfold selE;rw [if_neg (by rw [c1];decide),if_pos e1]),⟨.inr ⟨rfl,rfl,rfl⟩,trivial⟩,rfl⟩
 have c2:((n:Int) == 0)=false:=c2
 have c2:n≠0:=fun h=>by rw [h] at c2;cases c2
 have eE:selE xs k p ins day=0:=by
  unfold selE
  rw [if_neg (by rw [c1];decide),if_neg]
  intro h;rw [h] at hsn;exact c2 hsn
 unfold SelQ
 rw [eE,c1]
 clear eE
 generalize cands xs k p ins day=L at *
 have K1:=clone_own (E:=(envC Tryz.prog tt Tryz.f28.ntmps w X (tiedK [] β)).toEnv) rfl (x:=.slice sa n sc) (L:=L) hsn (by omega) (by omega)
 refine ⟨_,rfl,.inr (.inr (.inr ⟨[],[6000],[_],[_],_,K1,rfl,⟨.inl rfl,trivial⟩,rfl,trivial,?_⟩))⟩
 rintro y U ⟨⟨hy,hycap⟩,rfl⟩
 refine ⟨rfl,?_⟩
 have D1:=delete_own (E:=(envC Tryz.prog tt Tryz.f28.ntmps w X (tiedK [] β)).toEnv) rfl (x:=y) (s:=.slice sa n sc) (L:=L) (M:=L) hsn hsn (by omega) (by omega) hy hycap
 refine .inr (.inr (.inr ⟨[(7000,12)],[],[_,_],[_,_,_],_,D1,rfl,⟨.inl rfl,rfl,.inl rfl,trivial⟩,rfl,trivial,?_⟩))
 rintro z U ⟨m,hm,hz,rfl⟩
 refine ⟨rfl,?_⟩
 have hpos:0 < L.length:=by omega
 obtain ⟨mid,hmid,hcp⟩:=yard_ex hpos
 obtain ⟨ey,hmidL⟩:=yard_mid hmid
 have hcl:(cmpbl L).length≤L.length:=List.length_filter_le _ _
 have M1:=median_own (E:=(envC Tryz.prog tt Tryz.f28.ntmps w X (tiedK [] β)).toEnv) rfl (x:=z) (M:=cmpbl L) (n:=m) hm (by rw [hm];exact hcp) (by rw [hm,← cmpbl_eq];omega) (fun q hq=>⟨(hmem q (List.mem_filter.1 hq).1).1,(pay_ok (hmem q (List.mem_filter.1 hq).1).2.1).1⟩)
 refine .inr (.inr (.inr ⟨[],[],[_,_],[_],_,M1,rfl,⟨.inl rfl,trivial⟩,rfl,trivial,?_⟩))
 rintro r U ⟨⟨mid',hmid',rfl⟩,rfl⟩
 obtain rfl:mid'=mid:=by rw [hmid] at hmid';exact (Option.some.inj hmid').symm
 refine ⟨rfl,_,runs_pri rfl mid',?_⟩
 rw [← ey]
 have hrs:∀ q∈L,Pure Tryz.prog 59 [SV.c (.agg q.price.A),SV.c (.agg (yardQ L).A),SV.c (.agg p.tol.A)] (.bool (nearQ q.price (yardQ L) p.tol)):=fun q hq=>by
  obtain ⟨t1,t2⟩:=polOk_tol (hmem q hq).2.2.2
  exact (near_both hpin.tol t1 t2 (fun z hz=>⟨(hmem z hz).1,(hmem z hz).2.1⟩) hq).1
 clear K1 D1 M1 C1
 have YF:=(yardQ L).A_fits
 have hsb:∀ i,(sbad L p.tol i).length≤i:=sbad_len L p.tol
 have eb:selBad L p.tol=sbad L p.tol L.length:=by unfold sbad selBad;rw [List.take_length]
 have ef:selCh L p.tol=chOf (sfound L p.tol L.length):=by unfold sfound selCh;rw [List.take_length]
 rw [eb,ef]
 refine ⟨YF,_,rfl,_,fun w' _=>run_len_sl Tryz.underlying22 w',?_⟩
 generalize hYA:(yardQ L).A=YA at *
 refine ⟨fun q f m=>∃ (i:Nat) (y:Value) (N:Nat),q=L.length - i∧i≤L.length∧N=(sbad L p.tol i).length∧IsL y N∧f=[(6,SV.ptr 6 0),(10,SV.ptr 10 0),(12,SV.ptr 12 0),(15,SV.ptr 15 0),(16,SV.ptr 16 0),(45,SV.c (.slice sa n sc)),(46,SV.c (.int .i64 (n:Nat))),(47,SV.c (.int .i64 (i:Nat)))]∧m=[(9000,Blk.own y 9 1 N (cat strA (sbad L p.tol i))),(16,Blk.row 57 70 ((chOf (sfound L p.tol i)).A y)),(15,Blk.row 29 66 YA),(12,Blk.row 22 1 #[.slice sa n sc]),(10,Blk.row 57 70 (chZero.A (.slice none 0 0))),(6,Blk.row 31 68 PA),(4000,Blk.own (.slice sa n sc) 51 72 n (cat QC.A L))],L.length,⟨_,_,⟨0,.slice none 0 0,0,by omega,by omega,rfl,.nil,rfl,rfl⟩,⟨rfl,rfl,rfl,rfl,rfl,rfl,rfl,rfl,trivial⟩,⟨.inr ⟨rfl,rfl,rfl⟩,congrArg (fun A=>some (Blk.row 57 70 A)) chZero_A.symm,rfl,rfl,congrArg (fun A=>some (Blk.row 57 70 A)) chZero_A.symm,rfl,.inl rfl,trivial⟩,rfl⟩,?_⟩
 rintro q f m ⟨i,y,N,rfl,hi,hN,hy,rfl,rfl⟩
 refine ⟨fun h=>?_,fun h=>?_⟩
 ·have h:i < n:=by have:=of_decide_eq_true h;omega
  obtain ⟨z,hz⟩:∃ z,L[i]? = some z:=⟨_,List.getElem?_eq_getElem (by omega)⟩
  have hzL:=List.mem_of_getElem? hz
  have hNl:N≤i:=by rw [hN];exact hsb i
  obtain ⟨y0,hy0⟩:∃ z,L[0]? = some z:=⟨_,List.getElem?_eq_getElem (by omega)⟩
  have ec:curH L=y0.cur:=by
   unfold curH
   cases L with
   | nil=>cases hy0
   | cons z0 r=>simp at hy0;subst hy0;rfl
  rcases hs with ⟨hs1,hs2⟩ | ⟨g0,c0,hs1⟩
  ·omega
  cases hs1
  have L2:=cat_extract QC.size hz
  have j2:i*72+72≤(cat QC.A L).size:=by rw [Go.SX.cat_size QC.size];omega
  have L0:(cat QC.A L)[0+2]? = some (.string (S y0.cur)):=by
   have:=cat_get QC.size L 0 y0 2 hy0 (by omega)
   rw [y0.g2] at this
   simpa using this
  have K9:=hrs z hzL
  have Z0:=z.g0
  have Z2:=z.g2
  have Z3:=z.g3
  have ZP:=z.gpri
  have ZF:=z.fits
  have C0:=CH.g0 (chOf (sfound L p.tol i)) y
  have C4:=CH.g4 (chOf (sfound L p.tol i)) y
  have S4:=fun u=>CH.set4 (chOf (sfound L p.tol i)) y u
  obtain ⟨A1,A2,A3,T1,T2,T3,T4⟩:=CH.fill4 (chOf (sfound L p.tol i)) y z
  have PF:=z.price.A_fits
  generalize hC:(chOf (sfound L p.tol i)).A y=CA at *
  generalize hD:(chOf (some z)).A y=DA at *
  generalize hX:cat QC.A L=XA at *
  generalize hY:z.A=ZA at *
  refine ⟨by omega,by omega,.inr ⟨4000,g0,_,n,_,_,_,_,rfl,rfl,(by rw [off72];exact j2),ZA,(by rw [off72];exact L2),ZF,?_⟩⟩
  refine ⟨_,Z2,_,rfl,by decide,by omega,.inr ⟨4000,g0,_,n,_,_,_,_,rfl,rfl,_,L0,?_⟩⟩
  refine ⟨fun k1=>?_,fun k1=>?_⟩
  ·have k1:(!((S z.cur).toList == (S y0.cur).toList))=false:=k1
   rw [S_beq] at k1
   have k1:decide (z.cur=curH L)=true:=by rw [ec];simpa using k1
   refine ⟨by decide,_,ZP,by decide,_,G1,.inl ⟨_,K9,by kernel_rfl,fun k2=>?_,fun k2=>?_⟩⟩
   ·have k2:=bnot_t k2
    have hg:isGood (curH L) (yardQ L) p.tol z=false:=by unfold isGood;rw [k1,k2];rfl
    refine ⟨_,C4,_,Z0,.inl ⟨by decide,by decide,_,fill_str1 z.src,rfl,by decide,9000,N,_,.inl rfl,by decide,strA_one z.src,rfl,_,strA_ext z.src,?_⟩⟩
    obtain ⟨q,hq,hb⟩:=info_str
    refine ⟨by omega,by unfold maxLen;omega,⟨q,hq,by rw [hb];omega⟩,trivial,fun g2 cap2=>?_⟩
    refine ⟨by decide,rfl,_,S4 _,?_⟩
    exact ⟨L.length - (i+1),_,_,by omega,⟨i+1,_,N+1,rfl,by omega,by rw [sbad_bad hz hg,List.length_append,← hN];rfl,.some,rfl,rfl⟩,⟨rfl,rfl,rfl,rfl,rfl,rfl,rfl,c_int (i64_succ (by omega)),trivial⟩,⟨.inl (own_eq (by rw [sbad_bad hz hg,cat_append,cat_one])),congrArg (fun B=>some (Blk.row 57 70 ((chOf B).A _))) (sfound_bad hz hg).symm,rfl,rfl,rfl,rfl,.inl rfl,trivial⟩,rfl⟩
   ·have k2:=bnot_f k2
    have hg:isGood (curH L) (yardQ L) p.tol z=true:=by unfold isGood;rw [k1,k2];rfl
    have eb:=sbad_good hz hg
    have ef:=sfound_good hz hg
    refine ⟨_,C0,fun k3=>?_,fun k3=>?_⟩
    ·have k3:(chOf (sfound L p.tol i)).src=[]:=str_eq k3
     have e0:sfound L p.tol i=none:=by
      cases e:sfound L p.tol i with
      | none=>rfl
      | some q =>
       rw [e] at k3
       have hq:q∈L:=by
        unfold sfound at e
        exact List.mem_of_mem_take (List.mem_of_find?_eq_some e)
       exact absurd k3 (hmem q hq).2.2.1
     rw [e0] at ef
     refine ⟨_,Z0,_,Z2,_,Z3,by decide,_,ZP,by decide,rfl,A1,T1,by decide,rfl,A2,T2,by decide,rfl,A3,T3,by decide,PF,DA,T4,?_⟩
     exact ⟨by kernel_rfl,L.length - (i+1),_,_,by omega,⟨i+1,y,N,rfl,by omega,by rw [eb];exact hN,hy,rfl,rfl⟩,⟨rfl,rfl,rfl,rfl,rfl,rfl,rfl,c_int (i64_succ (by omega)),trivial⟩,⟨.inl (own_eq (by rw [eb])),(by rw [ef,← hD];rfl),rfl,rfl,rfl,rfl,.inl rfl,trivial⟩,rfl⟩
    ·have k3:(chOf (sfound L p.tol i)).src≠[]:=str_ne k3
     have e0:sfound L p.tol (i+1)=sfound L p.tol i:=by
      rw [ef]
      cases e:sfound L p.tol i with
      | none=>rw [e] at k3;exact absurd rfl k3
      | some q=>rfl
     exact ⟨L.length - (i+1),_,_,by omega,⟨i+1,y,N,rfl,by omega,by rw [eb];exact hN,hy,rfl,rfl⟩,⟨rfl,rfl,rfl,rfl,rfl,rfl,rfl,c_int (i64_succ (by omega)),trivial⟩,⟨.inl (own_eq (by rw [eb])),(by rw [e0,hC];rfl),rfl,rfl,rfl,rfl,.inl rfl,trivial⟩,rfl⟩
  ·have k1:(!((S z.cur).toList == (S y0.cur).toList))=true:=k1
   rw [S_beq] at k1
   have k1:decide (z.cur=curH L)=false:=by rw [ec];simpa using k1
   have hg:isGood (curH L) (yardQ L) p.tol z=false:=by unfold isGood;rw [k1];rfl
   refine ⟨by kernel_rfl,fun _=>?_,nofun⟩
   refine ⟨_,C4,_,Z0,.inl ⟨by decide,by decide,_,fill_str1 z.src,rfl,by decide,9000,N,_,.inl rfl,by decide,strA_one z.src,rfl,_,strA_ext z.src,?_⟩⟩
   obtain ⟨q,hq,hb⟩:=info_str
   refine ⟨by omega,by unfold maxLen;omega,⟨q,hq,by rw [hb];omega⟩,trivial,fun g2 cap2=>?_⟩
   refine ⟨by decide,rfl,_,S4 _,?_⟩
   exact ⟨L.length - (i+1),_,_,by omega,⟨i+1,_,N+1,rfl,by omega,by rw [sbad_bad hz hg,List.length_append,← hN];rfl,.some,rfl,rfl⟩,⟨rfl,rfl,rfl,rfl,rfl,rfl,rfl,c_int (i64_succ (by omega)),trivial⟩,⟨.inl (own_eq (by rw [sbad_bad hz hg,cat_append,cat_one])),congrArg (fun B=>some (Blk.row 57 70 ((chOf B).A _))) (sfound_bad hz hg).symm,rfl,rfl,rfl,rfl,.inl rfl,trivial⟩,rfl⟩
 ·have h:i=n:=by have:=of_decide_eq_false h;omega
  obtain rfl:i=L.length:=by omega
  have CF:Fits ((chOf (sfound L p.tol L.length)).A y) 70:=by obtain ⟨ya,yc,rfl⟩:=hy.len;exact CH.fits _
  generalize hC:(chOf (sfound L p.tol L.length)).A y=CA at *
  refine ⟨CF,[(9000,Blk.own y 9 1 N (cat strA (sbad L p.tol L.length)))],[],⟨y,N,hN,by rw [hC];rfl,hy,rfl⟩,⟨.inl rfl,trivial⟩,rfl⟩
theorem yard_own {E:Env} (hE:E.P=Tryz.prog) {x:Value} {L:List QC} {n:Nat} (hn:n=L.length) (h0:0 < n) (hM:n < 20) (hok:∀ z∈L,z.In∧payOk z.price=true):OwnC E 120 [SV.c x] [(4000,Blk.own x 51 72 n (cat QC.A L))] (fun r U=>r=.agg (yardQ L).A∧U=[(4000,Blk.own x 51 72 n (cat QC.A L))]):=by
 subst hn
 have h1:(cat QC.A L).all (·.oneCell')=true:=Go.SX.cat_all (fun a=>a.one) L
 refine (OwnC.with_own (k:=4000) (v:=x) (e:=51) (sz:=72) (n:=L.length) (A:=cat QC.A L) (pre:=[]) rfl rfl h1 (by rw [hE];exact at120.enters) (fun E0 h hl=>yard_r (h.trans hE) hl h0 hM hok) (fun x U h=>by rw [h.2];rfl)).mono ?_
 rintro y U ⟨U0,⟨h1,rfl⟩,rfl⟩
 exact ⟨h1,rfl⟩
theorem select_qr {E:Env} (hE:E.P=Tryz.prog) {v:Value} {k:Int} {xs:List QC} (hv:Lst E v 72 xs.length (cat QC.A xs)) (hn:xs.length≤1000000000000) (hin:∀ y∈xs,y.In) {vp:Value} {p:PL} (hp:Lst E vp 1 p.srcs.length (cat strA p.srcs)) (hpn:p.srcs.length≤1000000000000000) (hpin:p.In) (ins:List UInt8) (day:Int):OwnC E 77 [SV.c v,SV.c (.agg (p.A vp)),SV.c (.int .i64 k),SV.c (.string (S ins)),SV.c (.int .i64 day)] [] (SelQ xs k p ins day):=by
 refine sx_ownC [] tt_ok mixed at77 E hE [SV.c v,SV.c (.agg (p.A vp)),SV.c (.int .i64 k),SV.c (.string (S ins)),SV.c (.int .i64 day)] [] _ rfl rfl fun w X β hT=>?_
 have hv':=hv.of_old hT
 have hp':=hp.of_old hT
 have C1:=cand_qr (k:=k) rfl hv' hn hin hp' hpn hpin ins day
 obtain ⟨a,cap,rfl,hc,h4⟩:=id hp'.shape
 have F1:=p.size (.slice a p.srcs.length cap)
 have G1:=p.g1 (.slice a p.srcs.length cap)
 generalize p.A (.slice a p.srcs.length cap)=PA at *
 refine ⟨F1,?_⟩
 refine .inr (.inr (.inr ⟨[],[4000],[_,_,_,_,_],[],_,C1,rfl,trivial,rfl,trivial,?_⟩))
 rintro r U ⟨s,n,hsn,rfl,hs,rfl⟩
 obtain ⟨sa,sc,rfl⟩:=hs.len
 have hlen:=cands_len (xs:=xs) (k:=k) (p:=p) (ins:=ins) (day:=day)
 have hmem:=fun z hz=>cands_mem (k:=k) (p:=p) (ins:=ins) (day:=day) (z:=z) hin hz
 refine ⟨rfl,fun c1=>?_,fun c1=>?_⟩
 ·have c1:(candC xs k p day != 0)=true:=c1
  have c1:candC xs k p day≠0:=by simpa using c1
  exact ⟨chZero.A (.slice none 0 0),(by kernel_rfl),CH.fits _,[(9000,Blk.own (.slice none 0 0) 9 1 0 #[])],[],sel_none (cands_err c1) (by unfold selE;rw [if_pos c1]),⟨.inr ⟨rfl,rfl,rfl⟩,trivial⟩,rfl⟩
 have c1:(candC xs k p day != 0)=false:=c1
 have c1:candC xs k p day=0:=by simpa using c1
 refine ⟨_,fun w' _=>run_len_sl Tryz.underlying22 w',fun c2=>?_,fun c2=>?_⟩
 ·have c2:((n:Int) == 0)=true:=c2
  have c2:n=0:=by have:=of_decide_eq_true c2;omega
  have e1:cands xs k p ins day=[]:=List.eq_nil_of_length_eq_zero (by omega)
  exact ⟨chZero.A (.slice none 0 0),(by kernel_rfl),CH.fits _,[(9000,Blk.own (.slice none 0 0) 9 1 0 #[])],[],sel_none e1 (by unfold selE;rw [if_neg (by rw [c1];decide),if_pos e1]),⟨.inr ⟨rfl,rfl,rfl⟩,trivial⟩,rfl⟩
 have c2:((n:Int) == 0)=false:=c2
 have c2:n≠0:=fun h=>by rw [h] at c2;cases c2
 have eE:selE xs k p ins day=0:=by
  unfold selE
  rw [if_neg (by rw [c1];decide),if_neg]
  intro h;rw [h] at hsn;exact c2 hsn
 unfold SelQ
 rw [eE,c1]
 clear eE C1
 generalize cands xs k p ins day=L at *
 have Y1:=yard_own (E:=(envC Tryz.prog tt Tryz.f77.ntmps w X (tiedK [] β)).toEnv) rfl (x:=.slice sa n sc) (L:=L) hsn (by omega) (by omega) (fun z hz=>⟨(hmem z hz).1,(hmem z hz).2.1⟩)
 have hrs:∀ q∈L,Pure Tryz.prog 121 [SV.c (.agg q.price.A),SV.c (.agg (yardQ L).A),SV.c (.agg p.tol.A)] (.bool (nearQ q.price (yardQ L) p.tol)):=fun q hq=>by
  obtain ⟨t1,t2⟩:=polOk_tol (hmem q hq).2.2.2
  exact (near_both hpin.tol t1 t2 (fun z hz=>⟨(hmem z hz).1,(hmem z hz).2.1⟩) hq).2.1
 have YF:=(yardQ L).A_fits
 have hsb:∀ i,(sbad L p.tol i).length≤i:=sbad_len L p.tol
 have eb:selBad L p.tol=sbad L p.tol L.length:=by unfold sbad selBad;rw [List.take_length]
 have ef:selCh L p.tol=chOf (sfound L p.tol L.length):=by unfold sfound selCh;rw [List.take_length]
 rw [eb,ef]
 generalize hYA:(yardQ L).A=YA at *
 refine .inr (.inr (.inl ⟨[],[_],[_],_,[_],Y1,rfl,⟨.inl rfl,trivial⟩,rfl,rfl,YF,?_⟩))
 clear Y1
 refine ⟨fun q f m=>∃ (i:Nat) (y:Value) (N:Nat),q=L.length - i∧i≤L.length∧N=(sbad L p.tol i).length∧IsL y N∧f=[(6,SV.ptr 6 0),(10,SV.ptr 10 0),(12,SV.c (.slice sa n sc)),(14,SV.ptr 14 0),(15,SV.ptr 15 0),(16,SV.c (.bool (sfound L p.tol i).isSome)),(17,SV.c (.int .i64 (i:Nat)))]∧m=[(9000,Blk.own y 9 1 N (cat strA (sbad L p.tol i))),(15,Blk.row 57 70 ((chOf (sfound L p.tol i)).A y)),(14,Blk.row 29 66 YA),(10,Blk.row 57 70 (chZero.A (.slice none 0 0))),(6,Blk.row 31 68 PA),(4000,Blk.own (.slice sa n sc) 51 72 n (cat QC.A L))],L.length,⟨_,_,⟨0,.slice none 0 0,0,by omega,by omega,rfl,.nil,rfl,rfl⟩,⟨rfl,rfl,rfl,rfl,rfl,rfl,rfl,trivial⟩,⟨.inr ⟨rfl,rfl,rfl⟩,congrArg (fun A=>some (Blk.row 57 70 A)) chZero_A.symm,rfl,congrArg (fun A=>some (Blk.row 57 70 A)) chZero_A.symm,rfl,.inl rfl,trivial⟩,rfl⟩,?_⟩
 rintro q f m ⟨i,y,N,rfl,hi,hN,hy,rfl,rfl⟩
 refine ⟨_,fun w' _=>run_len_sl Tryz.underlying22 w',fun h=>?_,fun h=>?_⟩
 ·have h:i < n:=by have:=of_decide_eq_true h;omega
  obtain ⟨z,hz⟩:∃ z,L[i]? = some z:=⟨_,List.getElem?_eq_getElem (by omega)⟩
  have hzL:=List.mem_of_getElem? hz
  have hNl:N≤i:=by rw [hN];exact hsb i
  obtain ⟨y0,hy0⟩:∃ z,L[0]? = some z:=⟨_,List.getElem?_eq_getElem (by omega)⟩
  have ec:curH L=y0.cur:=by
   unfold curH
   cases L with
   | nil=>cases hy0
   | cons z0 r=>simp at hy0;subst hy0;rfl
  rcases hs with ⟨hs1,hs2⟩ | ⟨g0,c0,hs1⟩
  ·omega
  cases hs1
  have L2:=cat_extract QC.size hz
  have j2:i*72+72≤(cat QC.A L).size:=by rw [Go.SX.cat_size QC.size];omega
  have L0:(cat QC.A L)[0+2]? = some (.string (S y0.cur)):=by
   have:=cat_get QC.size L 0 y0 2 hy0 (by omega)
   rw [y0.g2] at this
   simpa using this
  have K9:=hrs z hzL
  have Z0:=z.g0
  have Z2:=z.g2
  have Z3:=z.g3
  have ZP:=z.gpri
  have ZF:=z.fits
  have C0:=CH.g0 (chOf (sfound L p.tol i)) y
  have C4:=CH.g4 (chOf (sfound L p.tol i)) y
  have S4:=fun u=>CH.set4 (chOf (sfound L p.tol i)) y u
  obtain ⟨A1,A2,A3,T1,T2,T3,T4⟩:=CH.fill4 (chOf (sfound L p.tol i)) y z
  have PF:=z.price.A_fits
  generalize hC:(chOf (sfound L p.tol i)).A y=CA at *
  generalize hD:(chOf (some z)).A y=DA at *
  generalize hX:cat QC.A L=XA at *
  generalize hY:z.A=ZA at *
  refine ⟨by omega,by omega,.inr ⟨4000,g0,_,n,_,_,_,_,rfl,rfl,(by rw [off72];exact j2),ZA,(by rw [off72];exact L2),ZF,?_⟩⟩
  refine ⟨_,Z2,by decide,by omega,.inr ⟨4000,g0,_,n,_,_,_,_,rfl,rfl,_,L0,?_⟩⟩
  refine ⟨fun k1=>?_,fun k1=>?_⟩
  ·have k1:(!((S z.cur).toList == (S y0.cur).toList))=false:=k1
   rw [S_beq] at k1
   have k1:decide (z.cur=curH L)=true:=by rw [ec];simpa using k1
   refine ⟨by decide,_,ZP,by decide,_,G1,.inl ⟨_,K9,by kernel_rfl,fun k2=>?_,fun k2=>?_⟩⟩
   ·have k2:=bnot_t k2
    have hg:isGood (curH L) (yardQ L) p.tol z=false:=by unfold isGood;rw [k1,k2];rfl
    refine ⟨_,C4,_,Z0,.inl ⟨by decide,by decide,_,fill_str1 z.src,rfl,by decide,9000,N,_,.inl rfl,by decide,strA_one z.src,rfl,_,strA_ext z.src,?_⟩⟩
    obtain ⟨q,hq,hb⟩:=info_str
    refine ⟨by omega,by unfold maxLen;omega,⟨q,hq,by rw [hb];omega⟩,trivial,fun g2 cap2=>?_⟩
    refine ⟨by decide,rfl,_,S4 _,?_⟩
    exact ⟨L.length - (i+1),_,_,by omega,⟨i+1,_,N+1,rfl,by omega,by rw [sbad_bad hz hg,List.length_append,← hN];rfl,.some,rfl,rfl⟩,⟨rfl,rfl,rfl,rfl,rfl,(by rw [sfound_bad hz hg];rfl),c_int (i64_succ (by omega)),trivial⟩,⟨.inl (own_eq (by rw [sbad_bad hz hg,cat_append,cat_one])),congrArg (fun B=>some (Blk.row 57 70 ((chOf B).A _))) (sfound_bad hz hg).symm,rfl,rfl,rfl,.inl rfl,trivial⟩,rfl⟩
   ·have k2:=bnot_f k2
    have hg:isGood (curH L) (yardQ L) p.tol z=true:=by unfold isGood;rw [k1,k2];rfl
    have eb:=sbad_good hz hg
    have ef:=sfound_good hz hg
    refine ⟨fun k3=>?_,fun k3=>?_⟩
    ·have k3:=bnot_t k3
     have e0:sfound L p.tol i=none:=by
      cases e:sfound L p.tol i with
      | none=>rfl
      | some q=>rw [e] at k3;cases k3
     rw [e0] at ef
     refine ⟨_,Z0,_,Z2,_,Z3,by decide,_,ZP,by decide,rfl,A1,T1,by decide,rfl,A2,T2,by decide,rfl,A3,T3,by decide,PF,DA,T4,?_⟩
     exact ⟨by kernel_rfl,L.length - (i+1),_,_,by omega,⟨i+1,y,N,rfl,by omega,by rw [eb];exact hN,hy,rfl,rfl⟩,⟨rfl,rfl,rfl,rfl,rfl,(by rw [ef];rfl),c_int (i64_succ (by omega)),trivial⟩,⟨.inl (own_eq (by rw [eb])),(by rw [ef,← hD];rfl),rfl,rfl,rfl,.inl rfl,trivial⟩,rfl⟩
    ·have k3:=bnot_f k3
     have e0:sfound L p.tol (i+1)=sfound L p.tol i:=by
      rw [ef]
      obtain ⟨q,e⟩:=Option.isSome_iff_exists.1 k3
      rw [e];rfl
     exact ⟨L.length - (i+1),_,_,by omega,⟨i+1,y,N,rfl,by omega,by rw [eb];exact hN,hy,rfl,rfl⟩,⟨rfl,rfl,rfl,rfl,rfl,(by rw [e0];rfl),c_int (i64_succ (by omega)),trivial⟩,⟨.inl (own_eq (by rw [eb])),(by rw [e0,hC];rfl),rfl,rfl,rfl,.inl rfl,trivial⟩,rfl⟩
  ·have k1:(!((S z.cur).toList == (S y0.cur).toList))=true:=k1
   rw [S_beq] at k1
   have k1:decide (z.cur=curH L)=false:=by rw [ec];simpa using k1
   have hg:isGood (curH L) (yardQ L) p.tol z=false:=by unfold isGood;rw [k1];rfl
   refine ⟨by kernel_rfl,fun _=>?_,nofun⟩
   refine ⟨_,C4,_,Z0,.inl ⟨by decide,by decide,_,fill_str1 z.src,rfl,by decide,9000,N,_,.inl rfl,by decide,strA_one z.src,rfl,_,strA_ext z.src,?_⟩⟩
   obtain ⟨q,hq,hb⟩:=info_str
   refine ⟨by omega,by unfold maxLen;omega,⟨q,hq,by rw [hb];omega⟩,trivial,fun g2 cap2=>?_⟩
   refine ⟨by decide,rfl,_,S4 _,?_⟩
   exact ⟨L.length - (i+1),_,_,by omega,⟨i+1,_,N+1,rfl,by omega,by rw [sbad_bad hz hg,List.length_append,← hN];rfl,.some,rfl,rfl⟩,⟨rfl,rfl,rfl,rfl,rfl,(by rw [sfound_bad hz hg];rfl),c_int (i64_succ (by omega)),trivial⟩,⟨.inl (own_eq (by rw [sbad_bad hz hg,cat_append,cat_one])),congrArg (fun B=>some (Blk.row 57 70 ((chOf B).A _))) (sfound_bad hz hg).symm,rfl,rfl,rfl,.inl rfl,trivial⟩,rfl⟩
 ·have h:i=n:=by have:=of_decide_eq_false h;omega
  obtain rfl:i=L.length:=by omega
  have CF:Fits ((chOf (sfound L p.tol L.length)).A y) 70:=by obtain ⟨ya,yc,rfl⟩:=hy.len;exact CH.fits _
  generalize hC:(chOf (sfound L p.tol L.length)).A y=CA at *
  refine ⟨CF,[(9000,Blk.own y 9 1 N (cat strA (sbad L p.tol L.length)))],[],⟨y,N,hN,by rw [hC];rfl,hy,rfl⟩,⟨.inl rfl,trivial⟩,rfl⟩
def QC.beq (a b:QC):Bool:=decide (a.src=b.src) && (decide (a.ins=b.ins) && (decide (a.cur=b.cur) && ((a.day == b.day) && (a.price.beq b.price && ((a.known == b.known) && ((a.void == b.void) && true))))))
theorem QC.beq_self (a:QC):a.beq a=true:=by simp [QC.beq,RQ.beq_self]
theorem CH.g1 (h:CH) (v:Value):(h.A v)[1]? = some (.string (S h.cur)):=by kernel_rfl
theorem CH.g2 (h:CH) (v:Value):(h.A v)[2]? = some (.int .i64 h.day):=by kernel_rfl
theorem CH.g3 (h:CH) (v:Value):(h.A v).extract 3 (3+66)=h.price.A:=by
 have h2:h.price.A.size=66:=RQ.A_size _
 rw [CH.A,Array.extract_append]
 have e:(#[.string (S h.src),.string (S h.cur),.int .i64 h.day]:Array Value).size=3:=rfl
 rw [e,Array.extract_append,h2]
 have e2:h.price.A.extract (3 - 3) (3+66 - 3)=h.price.A:=by
  rw [show (3+66 - 3:Nat)=h.price.A.size by omega,Nat.sub_self,Array.extract_size]
 rw [e2]
 apply Array.ext'
 simp
def src4:List (List UInt8):=[[97],[98],[99],[100,52]]
theorem fill_src4:Instr.fill (fun k=>some (k*ti9.size,ti9.size)) (madeCells ti9.zero (4*ti9.size)) [(0,.string (S [97])),(1,.string (S [98])),(2,.string (S [99])),(3,.string (S [100,52]))]=some (cat strA src4):=by kernel_rfl
theorem sources_o (E0:Env) (hP:E0.P=Tryz.prog) (key:Key):Own E0 46 [] [] (SV.sl key 0 4 4) [(key,Blk.row 9 4 (cat strA src4))]:=by
 refine sx_newS tt_ok mixed at46 E0 hP [] 0 4 key 1 9 4 (cat strA src4) rfl rfl rfl fun w=>?_
 exact ⟨by decide,by decide,_,fill_src4,rfl,rfl,rfl⟩
def acme:List UInt8:=[65,67,77,69]
def SelO (x y:Value) (nx ny:Nat) (xs:List QC) (srcs:List (List UInt8)) (Q:Value→MemL→Prop) (r:Value) (U:MemL):Prop:=∃ U0,Q r U0∧U=(9200,Blk.own x 51 72 nx (cat QC.A xs)) :: (9101,Blk.own y 9 1 ny (cat strA srcs)) :: U0
theorem read2 {E:Env} {f:FuncId} {sv:List SV} {x y:Value} {xs:List QC} {srcs:List (List UInt8)} {nx ny:Nat} (hx:nx=xs.length) (hy:ny=srcs.length) (hent:Go.SX.Enters E.P f) {Q:Value→MemL→Prop} (hQ:∀ r U,Q r U→getM U 9200=none∧getM U 9101=none)
    (h:∀ E0:Env,E0.P=E.P→(∀ w,OldW E0 w→OldW E w)→Lst E0 x 72 xs.length (cat QC.A xs)→Lst E0 y 1 srcs.length (cat strA srcs)→OwnC E0 f sv [] Q):OwnC E f sv [(9200,Blk.own x 51 72 nx (cat QC.A xs)),(9101,Blk.own y 9 1 ny (cat strA srcs))] (SelO x y nx ny xs srcs Q):=by
 subst hx hy
 have h2:∀ E0:Env,E0.P=E.P→(∀ w,OldW E0 w→OldW E w)→Lst E0 x 72 xs.length (cat QC.A xs)→OwnC E0 f sv [(9101,Blk.own y 9 1 srcs.length (cat strA srcs))] (fun r U=>∃ U0,Q r U0∧U=(9101,Blk.own y 9 1 srcs.length (cat strA srcs)) :: U0):=fun E0 h0 ho hl =>
  OwnC.with_own2 (k:=9101) (v:=y) (e:=9) (sz:=1) (n:=srcs.length) (A:=cat strA srcs) (pre:=[]) (Q:=Q) rfl rfl (Go.SX.cat_all strA_one srcs) (by rw [h0];exact hent) (fun E1 h1 ho1 hl1=>h E1 (h1.trans h0) (fun w hw=>ho w (ho1 w hw)) (hl.of_old ho1) hl1) (fun r U hq=>(hQ r U hq).2)
 refine (OwnC.with_own2 (k:=9200) (v:=x) (e:=51) (sz:=72) (n:=xs.length) (A:=cat QC.A xs) rfl rfl (Go.SX.cat_all QC.all1 xs) hent h2 (fun r U ⟨U0,hq,hU⟩=>by rw [hU];exact (hQ r U0 hq).1)).mono ?_
 rintro r U ⟨U1,⟨U0,h1,rfl⟩,rfl⟩
 exact ⟨U0,h1,rfl⟩
theorem select_own {E:Env} (hE:E.P=Tryz.prog) {x y:Value} {xs:List QC} {p:PL} {nx ny:Nat} (hx:nx=xs.length) (hy:ny=p.srcs.length) (hn:nx≤1000000000000) (hm:ny≤1000000000000000) (hin:∀ y∈xs,y.In) (hpin:p.In) (k:Int) (ins:List UInt8) (day:Int):OwnC E 28 [SV.c x,SV.c (.agg (p.A y)),SV.c (.int .i64 k),SV.c (.string (S ins)),SV.c (.int .i64 day)] [(9200,Blk.own x 51 72 nx (cat QC.A xs)),(9101,Blk.own y 9 1 ny (cat strA p.srcs))] (SelO x y nx ny xs p.srcs (SelQ xs k p ins day)) :=
 read2 hx hy (by rw [hE];exact at28.enters) (fun r U ⟨s,n,_,_,_,hU⟩=>by rw [hU];exact ⟨rfl,rfl⟩) fun E0 h0 _ hl1 hl2=>select_q (h0.trans hE) hl1 (by omega) hin hl2 (by omega) hpin ins day
theorem s_self (l:List UInt8):((S l).toList == (S l).toList)=true:=by simp
theorem mk_coprime {x y:Int} (hy:0 < y) (hg:Int.gcd x y=1) (h1:bl x.natAbs≤480) (h2:bl y.natAbs≤480):mkQ x y=(.of x y,0):=by
 have hs:sgn y=1:=by unfold sgn;rw [if_neg (by omega),if_neg (by omega)]
 have e:sgn y*((Int.gcd x y:Nat):Int)=1:=by rw [hs,hg];rfl
 unfold mkQ
 rw [if_neg (by omega),e,Int.ediv_one,Int.ediv_one,if_pos ⟨h1,h2⟩]
def quoQ (r s:RQ):RQ×Int:=if r.ok && s.ok then mkQ (r.p*s.q) (r.q*s.p) else (.of 0 0,20)
def oneQ:RQ:=.of 1 1
theorem one_ok:oneQ.ok=true:=by decide
theorem one_in:oneQ.In:=RQ.of_in (Nat.lt_of_lt_of_le (by decide:1 < 18446744073709551616) two64) (Nat.lt_of_lt_of_le (by decide:1 < 18446744073709551616) two64)
structure Leg (r:RQ):Prop where
 ok:r.ok=true
 p0:0 < r.p
 p1:r.p.natAbs≤1000000000000000
 q1:r.q.natAbs≤1000000000000000
theorem Leg.in_ {r:RQ} (h:Leg r):r.In:=by
 obtain ⟨k1,k2,k3,k4,k5⟩:=RQ.ok_bits h.ok
 rw [k5]
 have hp:2 ^ e480 < BB ^ 32:=hp480
 have key:∀ z:Int,bl z.natAbs≤480→z.natAbs < BB ^ 32:=fun z h=>Nat.lt_trans (Nat.lt_of_lt_of_le (bl_bits _).1 (Nat.pow_le_pow_right (j:=e480) (by omega) h)) hp
 exact RQ.of_in (key _ k1) (key _ k2)
theorem leg_price {r:RQ} (h:payOk r=true) (h0:0 < r.p):Leg r:=by
 obtain ⟨h1,h2⟩:=pay_bd h
 exact ⟨(pay_ok h).1,h0,h2,by omega⟩
theorem inv_one {r:RQ} (h:Leg r):quoQ oneQ r=(.of r.q r.p,0):=by
 obtain ⟨k1,k2,k3,k4,k5⟩:=RQ.ok_bits h.ok
 unfold quoQ
 rw [one_ok,h.ok,show oneQ.p=1 from rfl,show oneQ.q=1 from rfl,Int.one_mul,Int.one_mul]
 exact mk_coprime h.p0 (by rw [Int.gcd_comm];exact k4) k2 k1
theorem leg_inv {r:RQ} (h:Leg r):Leg (quoQ oneQ r).1:=by
 obtain ⟨k1,k2,k3,k4,k5⟩:=RQ.ok_bits h.ok
 rw [inv_one h]
 refine ⟨RQ.ok_of k2 k1 h.p0 (by rw [Int.gcd_comm];exact k4),?_,?_,?_⟩
 ·show 0 < (RQ.of r.q r.p).p;rw [RQ.of_p];exact k3
 ·show (RQ.of r.q r.p).p.natAbs≤_;rw [RQ.of_p];exact h.q1
 ·show (RQ.of r.q r.p).q.natAbs≤_;rw [RQ.of_q];exact h.p1
theorem one_mulQ {r:RQ} (h:r.ok=true):mulQ oneQ r=(r,0):=by
 obtain ⟨k1,k2,k3,k4,k5⟩:=RQ.ok_bits h
 unfold mulQ
 rw [one_ok,h,show oneQ.p=1 from rfl,show oneQ.q=1 from rfl,Int.one_mul,Int.one_mul]
 refine (mk_coprime k3 k4 k1 k2).trans ?_
 rw [← k5]
theorem mul_leg {r s:RQ} (h:Leg r) (g:Leg s):∃ t,mulQ r s=(t,0)∧t.ok=true∧t.In∧0 < t.p∧t.p*(r.q*s.q)=r.p*s.p*t.q:=by
 have hq:=(RQ.ok_bits h.ok).2.2.1
 have gq:=(RQ.ok_bits g.ok).2.2.1
 have b1:(r.p*s.p).natAbs < 2 ^ e480:=by
  rw [Int.natAbs_mul]
  exact Nat.lt_of_le_of_lt (Nat.mul_le_mul h.p1 g.p1) (by decide +kernel)
 have b2:(r.q*s.q).natAbs < 2 ^ e480:=by
  rw [Int.natAbs_mul]
  exact Nat.lt_of_le_of_lt (Nat.mul_le_mul h.q1 g.q1) (by decide +kernel)
 have hy:0 < r.q*s.q:=Int.mul_pos hq gq
 obtain ⟨t,e,h1,h2,-,-⟩:=mkQ_val hy b1 b2
 have em:mulQ r s=(t,0):=by unfold mulQ;rw [h.ok,g.ok];exact e
 refine ⟨t,em,h1,?_,?_,h2⟩
 ·have:=mkQ_in (r.p*s.p) (r.q*s.q);rw [e] at this;exact this
 ·have tq:=(RQ.ok_bits h1).2.2.1
  have:0 < t.p*(r.q*s.q):=by rw [h2];exact Int.mul_pos (Int.mul_pos h.p0 g.p0) tq
  exact Int.pos_of_mul_pos_left this hy
def mktC (xs:List QC) (p:PL) (day:Int) (cs:List (List UInt8)):Int:=if chkQ xs≠0 then chkQ xs else if polOk p then (if day < 0∨day > 73048 then 50 else if cs.all curOk then 0 else 160) else 150
def dirQ (xs:List QC) (k:Int) (p:PL) (day:Int) (a b:List UInt8):RQ×Bool:=((selCh (cands xs k p (a++b) day) p.tol).price,decide (selE xs k p (a++b) day=0) && decide ((selCh (cands xs k p (a++b) day) p.tol).cur=b))
def legO (xs:List QC) (k:Int) (p:PL) (day:Int) (a b:List UInt8):Option RQ :=
 if (dirQ xs k p day a b).2 then some (dirQ xs k p day a b).1 else if (dirQ xs k p day b a).2 then some (quoQ oneQ (dirQ xs k p day b a).1).1 else none
def legQ (xs:List QC) (k:Int) (p:PL) (day:Int) (a b:List UInt8):Option RQ:=if a=b then none else legO xs k p day a b
def rateQ (xs:List QC) (k:Int) (p:PL) (day:Int) (v a b:List UInt8):RQ×Int :=
 if mktC xs p day [v,a,b]≠0 then (zeroQ,mktC xs p day [v,a,b]) else if a=b then (oneQ,0) else
 match legO xs k p day a b with
 | some r=>(r,0)
 | none=>if v=a∨v=b then (zeroQ,161) else match legO xs k p day a v,legO xs k p day v b with
  | some x,some y=>mulQ x y
  | _,_=>(zeroQ,161)
theorem cands_pos {xs:List QC} {k:Int} {p:PL} {ins:List UInt8} {day:Int} {z:QC} (hz:z∈cands xs k p ins day):payOk z.price=true∧0 < z.price.p:=by
 unfold cands at hz
 split at hz
 ·obtain ⟨h1,-⟩:=candL_mem hz
  obtain ⟨h2,h3,h4⟩:=visQs_mem h1
  exact right_price h3 h4
 ·cases hz
theorem cur_ne {l:List UInt8} (h:curOk l=true):l≠[]:=by
 rintro rfl;simp [curOk] at h
theorem cur_len {l:List UInt8} (h:curOk l=true):l.length=3:=by
 unfold curOk at h
 simp only [Bool.and_eq_true,decide_eq_true_eq] at h
 omega
theorem dir_leg {xs:List QC} {k:Int} {p:PL} {day:Int} {a b:List UInt8} (hb:b≠[]) (h:(dirQ xs k p day a b).2=true):Leg (dirQ xs k p day a b).1:=by
 unfold dirQ at h ⊢
 simp only [Bool.and_eq_true,decide_eq_true_eq] at h
 have h2:=h.2
 show Leg (selCh (cands xs k p (a++b) day) p.tol).price
 unfold selCh at h2 ⊢
 cases e:(cands xs k p (a++b) day).find? (isGood (curH (cands xs k p (a++b) day)) (yardQ (cands xs k p (a++b) day)) p.tol) with
 | none=>rw [e] at h2;exact absurd h2.symm hb
 | some q =>
  have:=cands_pos (List.mem_of_find?_eq_some e)
  exact leg_price this.1 this.2
theorem legO_leg {xs:List QC} {k:Int} {p:PL} {day:Int} {a b:List UInt8} (ha:a≠[]) (hb:b≠[]) {r:RQ} (h:legO xs k p day a b=some r):Leg r:=by
 unfold legO at h
 split at h
 ·rename_i h1;cases h;exact dir_leg hb h1
 ·split at h
  ·rename_i h1;cases h;exact leg_inv (dir_leg ha h1)
  ·cases h
theorem mktC_ok {xs:List QC} {p:PL} {day:Int} {cs:List (List UInt8)} (h:mktC xs p day cs=0):chkQ xs=0∧polOk p=true∧0≤day∧day≤73048∧∀ c∈cs,curOk c=true:=by
 unfold mktC at h
 split at h
 ·rename_i h1;exact absurd h h1
 rename_i h1
 split at h
 ·rename_i h2
  split at h
  ·cases h
  ·rename_i h3
   split at h
   ·rename_i h4
    rw [List.all_eq_true] at h4
    exact ⟨by simpa using h1,h2,by omega,by omega,h4⟩
   ·cases h
 ·cases h
def mktA (v vp:Value) (p:PL) (k day:Int):Array Value:=#[v]++(p.A vp++#[.int .i64 k,.int .i64 day])
theorem mktA_size (v vp:Value) (p:PL) (k day:Int):(mktA v vp p k day).size=71:=by simp [mktA,PL.size]
theorem mktA_fits {v vp:Value} (p:PL) (k day:Int) (h1:v.oneCell'=true) (h2:vp.oneCell'=true):Fits (mktA v vp p k day) 71:=⟨mktA_size _ _ _ _ _,by
 rw [mktA,Array.all_append,Array.all_append,(p.fits h2).one]
 simp [h1]
 exact ⟨rfl,rfl⟩⟩
theorem mktA_0 (v vp:Value) (p:PL) (k day:Int):(mktA v vp p k day)[0]? = some v:=by
 unfold mktA
 rw [Array.getElem?_append_left (by simp)]
 rfl
theorem mktA_1 (v vp:Value) (p:PL) (k day:Int):(mktA v vp p k day).extract 1 (1+68)=p.A vp:=by
 have h:(p.A vp).size=68:=p.size vp
 unfold mktA
 rw [Array.extract_append,Array.extract_append]
 simp [h]
theorem mktA_69 (v vp:Value) (p:PL) (k day:Int):(mktA v vp p k day)[69]? = some (.int .i64 k):=by
 have h:(p.A vp).size=68:=p.size vp
 unfold mktA
 rw [Array.getElem?_append_right (by simp),Array.getElem?_append_right (by simp [h])]
 simp [h]
theorem mktA_70 (v vp:Value) (p:PL) (k day:Int):(mktA v vp p k day)[70]? = some (.int .i64 day):=by
 have h:(p.A vp).size=68:=p.size vp
 unfold mktA
 rw [Array.getElem?_append_right (by simp),Array.getElem?_append_right (by simp [h])]
 simp [h]
structure MkR (E:Env) (v vp:Value) (xs:List QC) (p:PL):Prop where
 l:Lst E v 72 xs.length (cat QC.A xs)
 n:xs.length≤1000000000000
 inn:∀ y∈xs,y.In
 s:Lst E vp 1 p.srcs.length (cat strA p.srcs)
 m:p.srcs.length≤1000000000000000
 pin:p.In
theorem MkR.of_old {E E':Env} {v vp:Value} {xs:List QC} {p:PL} (h:MkR E v vp xs p) (hT:∀ w,OldW E' w→OldW E w):MkR E' v vp xs p:=⟨h.l.of_old hT,h.n,h.inn,h.s.of_old hT,h.m,h.pin⟩
theorem price_e {E:Env} (hE:E.P=Tryz.prog) {v vp:Value} {xs:List QC} {p:PL} (h:MkR E v vp xs p) (k day:Int) {a b:List UInt8} (hab:a.length+b.length≤100):OwnC E 71 [SV.c (.agg (mktA v vp p k day)),SV.c (.string (S a)),SV.c (.string (S b))] [] (fun x U=>x=.tuple #[.agg (dirQ xs k p day a b).1.A,.bool (dirQ xs k p day a b).2]∧U=[]):=by
 refine sx_ownC [] tt_ok mixed at71 E hE [SV.c (.agg (mktA v vp p k day)),SV.c (.string (S a)),SV.c (.string (S b))] [] _ rfl rfl fun w X β hT=>?_
 have hr:=h.of_old hT
 have S1:=select_q (k:=k) rfl hr.l hr.n hr.inn hr.s hr.m hr.pin (a++b) day
 rw [← S_add] at S1
 have M:=mktA_size v vp p k day
 have M0:=mktA_0 v vp p k day
 have M1:=mktA_1 v vp p k day
 have M2:=mktA_69 v vp p k day
 have M3:=mktA_70 v vp p k day
 have hsz:(S a).size+(S b).size≤9223372036854775807:=by rw [S_size,S_size];omega
 generalize mktA v vp p k day=MA at *
 refine ⟨M,_,M0,by decide,_,M1,_,M2,hsz,_,M3,?_⟩
 refine .inr (.inr (.inr ⟨[],[9000],[_,_,_,_,_],[],_,S1,rfl,trivial,rfl,trivial,?_⟩))
 rintro r1 U1 ⟨s1,n1,hn1,rfl,hs1,rfl⟩
 obtain ⟨sa1,sc1,rfl⟩:=hs1.len
 refine ⟨rfl,CH.fits _,?_⟩
 have hd:dirQ xs k p day a b=((selCh (cands xs k p (a++b) day) p.tol).price,decide (selE xs k p (a++b) day=0) && decide ((selCh (cands xs k p (a++b) day) p.tol).cur=b)):=rfl
 generalize selCh (cands xs k p (a++b) day) p.tol=C at *
 generalize selE xs k p (a++b) day=SE at *
 generalize dirQ xs k p day a b=D at *
 subst hd
 have C1:=CH.g1 C (.slice sa1 n1 sc1)
 have C3:=CH.g3 C (.slice sa1 n1 sc1)
 have PF:=C.price.A_fits
 generalize C.A (.slice sa1 n1 sc1)=CA at *
 refine ⟨by decide,_,C3,fun c=>?_,fun c=>?_⟩
 ·have c:(SE == 0)=true:=c
  refine ⟨_,C1,PF,by kernel_rfl,?_⟩
  refine ⟨[],[],⟨?_,rfl⟩,trivial,rfl⟩
  show Value.tuple #[_,.bool ((S C.cur).toList == (S b).toList)]=_
  rw [S_beq,decide_eq_true (show SE=0 by simpa using c),Bool.true_and]
 ·have c:(SE == 0)=false:=c
  refine ⟨PF,by kernel_rfl,?_⟩
  refine ⟨[],[],⟨?_,rfl⟩,trivial,rfl⟩
  rw [decide_eq_false (show ¬ SE=0 by simpa using c),Bool.false_and];rfl
def optQ (o:Option RQ):Value:=.tuple #[.agg (o.getD zeroQ).A,.bool o.isSome]
theorem quo1_z {r s:RQ} (hr:r.In) (hs:s.In) (h1:(r.p*s.q).natAbs < BB ^ 32) (h2:(r.q*s.p).natAbs < BB ^ 32):Pure Tryz.prog 113 [SV.c (.agg r.A),SV.c (.agg s.A)] (.tuple #[.agg (eA (r.p*s.q)),.agg (eA (r.q*s.p))]):=by
 refine sx_pure tt_ok mixed at113 _ _ rfl rfl fun w=>?_
 refine ⟨r.A_size,s.A_size,by decide,_,r.cat_l,by decide,_,s.cat_r,.inl ⟨_,product_z hr.num hs.den h1,by decide,_,r.cat_r,by decide,_,s.cat_l,.inl ⟨_,product_z hr.den hs.num h2,eA_fits _,eA_fits _,by kernel_rfl,rfl,trivial⟩⟩⟩
theorem quoR_z {r s:RQ} (hr:r.In) (hs:s.In):Pure Tryz.prog 72 [SV.c (.agg r.A),SV.c (.agg s.A)] (resQ (quoQ r s)):=by
 refine sx_pure tt_ok mixed at72 _ _ rfl rfl fun w=>?_
 have h:=calc_z (g:=113) (x:=r.p*s.q) (y:=r.q*s.p) hr hs fun h1 h2=>by
  have k1:=RQ.ok_bits h1
  have k2:=RQ.ok_bits h2
  have m1:=mul_lt' k1.1 k2.2.1
  have m2:=mul_lt' k1.2.1 k2.1
  exact ⟨quo1_z hr hs m1 m2,m1,m2⟩
 exact ⟨r.A_size,s.A_size,.inl ⟨_,h,RQ.A_fits _,rfl,trivial⟩⟩
theorem quoR_r {r s:RQ} (hr:r.In) (hs:s.In):Pure Tryz.prog 78 [SV.c (.agg r.A),SV.c (.agg s.A)] (resQ (quoQ r s)):=by
 refine sx_pure tt_ok mixed at78 _ _ rfl rfl fun w=>?_
 refine ⟨r.A_size,s.A_size,.inl ⟨_,valid_r hr,fun h1=>.inl ⟨_,valid_r hs,fun h2=>?_,fun h2=>?_⟩,fun h1=>?_⟩⟩
 ·have h2:=bnt h2
  refine ⟨ti29.zero,rfl,(RQ.of 0 0).A_fits,?_,trivial⟩
  rw [quoQ,h2,Bool.and_false,if_neg Bool.false_ne_true];rfl
 ·have h1:=of_bnf h1
  have h2:=bnf h2
  have k1:=RQ.ok_bits h1
  have k2:=RQ.ok_bits h2
  have m1:=mul_lt' k1.1 k2.2.1
  have m2:=mul_lt' k1.2.1 k2.1
  refine ⟨by decide,_,r.cat_l,by decide,_,s.cat_r,.inl ⟨_,product_r hr.num hs.den m1,by decide,_,r.cat_r,by decide,_,s.cat_l,.inl ⟨_,product_r hr.den hs.num m2,.inl ⟨_,make_r (isI_e m1) (isI_e m2),RQ.A_fits _,by kernel_rfl,?_,trivial⟩⟩⟩⟩
  rw [quoQ,h1,h2,Bool.and_true,if_pos rfl];rfl
 ·have h1:=bnt h1
  refine ⟨fun _=>⟨ti29.zero,rfl,(RQ.of 0 0).A_fits,?_,trivial⟩,nofun⟩
  rw [quoQ,h1,Bool.false_and,if_neg Bool.false_ne_true];rfl
theorem price_l {E:Env} (hE:E.P=Tryz.prog) {v vp:Value} {xs:List QC} {p:PL} (h:MkR E v vp xs p) (k day:Int) {a b:List UInt8} (hab:a.length+b.length≤100):OwnC E 71 [SV.c (.agg (mktA v vp p k day)),SV.c (.string (S a)),SV.c (.string (S b))] [] (fun x U=>x=.tuple #[.agg (dirQ xs k p day a b).1.A,.bool (dirQ xs k p day a b).2]∧U=[]):=price_e hE h k day hab
theorem leg_e {E:Env} (hE:E.P=Tryz.prog) {v vp:Value} {xs:List QC} {p:PL} (h:MkR E v vp xs p) (_hv:v.oneCell'=true) (_hvp:vp.oneCell'=true) (k day:Int) {a b:List UInt8} (ha:curOk a=true) (hb:curOk b=true):OwnC E 36 [SV.c (.agg (mktA v vp p k day)),SV.c (.string (S a)),SV.c (.string (S b))] [] (fun x U=>x=optQ (legQ xs k p day a b)∧U=[]):=by
 refine sx_ownC [] tt_ok mixed at36 E hE [SV.c (.agg (mktA v vp p k day)),SV.c (.string (S a)),SV.c (.string (S b))] [] _ rfl rfl fun w X β hT=>?_
 have hr:=h.of_old hT
 have la:=cur_len ha
 have lb:=cur_len hb
 have P1:=price_l rfl hr k day (a:=a) (b:=b) (by omega)
 have P2:=price_l rfl hr k day (a:=b) (b:=a) (by omega)
 have M:=mktA_size v vp p k day
 generalize mktA v vp p k day=MA at *
 have hL:legQ xs k p day a b=if a=b then none else if (dirQ xs k p day a b).2 then some (dirQ xs k p day a b).1 else if (dirQ xs k p day b a).2 then some (quoQ oneQ (dirQ xs k p day b a).1).1 else none:=rfl
 have D1:=dir_leg (xs:=xs) (k:=k) (p:=p) (day:=day) (a:=a) (b:=b) (cur_ne hb)
 have D2:=dir_leg (xs:=xs) (k:=k) (p:=p) (day:=day) (a:=b) (b:=a) (cur_ne ha)
 generalize legQ xs k p day a b=LQ at *
 generalize dirQ xs k p day a b=DA at *
 generalize dirQ xs k p day b a=DB at *
 obtain ⟨da,ea⟩:=DA
 obtain ⟨db,eb⟩:=DB
 refine ⟨M,fun c=>?_,fun c=>?_⟩
 ·have c:=str_eq c
  refine ⟨_,rfl,(RQ.of 0 0).A_fits,[],[],⟨?_,rfl⟩,trivial,rfl⟩
  rw [hL,if_pos c];rfl
 ·have c:=str_ne c
  rw [if_neg c] at hL
  refine .inr (.inr (.inl ⟨[],[_,_,_],[],_,[],P1,rfl,trivial,rfl,rfl,da.A_fits,fun c1=>?_,fun c1=>?_⟩))
  ·have c1:ea=true:=c1
   refine ⟨da.A_fits,[],[],⟨?_,rfl⟩,trivial,rfl⟩
   rw [hL,c1];rfl
  ·have c1:ea=false:=c1
   rw [c1] at hL
   refine .inr (.inr (.inl ⟨[],[_,_,_],[],_,[],P2,rfl,trivial,rfl,rfl,db.A_fits,fun c2=>?_,fun c2=>?_⟩))
   ·have c2:(!eb)=true:=c2
    have c2:eb=false:=by simpa using c2
    rw [c2] at hL
    have hL:LQ=none:=by rw [hL];simp
    refine ⟨_,rfl,(RQ.of 0 0).A_fits,[],[],⟨?_,rfl⟩,trivial,rfl⟩
    rw [hL];rfl
   ·have c2:(!eb)=false:=c2
    have c2:eb=true:=by simpa using c2
    rw [c2] at hL
    have hL:LQ=some (quoQ oneQ db).1:=by rw [hL];simp
    have hd:Leg db:=D2 c2
    refine .inl ⟨_,whole1_z (n:=1) (by decide) (by decide),.inl ⟨_,quoR_z one_in hd.in_,RQ.A_fits _,by kernel_rfl,RQ.A_fits _,[],[],⟨?_,rfl⟩,trivial,rfl⟩⟩
    rw [hL];rfl
end Go.Proofs.YtjkgmglmgndaoaaGreatDoor
