/- the choice. the choice of the document. sameness of choices. a made book of the chapter's example. the chapter's example; no condition. -/
import Derived.Test.YtinojijgeabfnaaGreatDoorP28
set_option maxRecDepth 100000
set_option maxHeartbeats 4000000
namespace Go.Proofs.YtinojijgeabfnaaGreatDoor
open Go Go.RowKit Go.SX
theorem cands_mem {xs:List QC} {k:Int} {p:PL} {ins:List UInt8} {day:Int} {z:QC} (hin:∀ y∈xs,y.In) (hz:z∈cands xs k p ins day):z.In∧payOk z.price=true∧z.src≠[]∧polOk p=true:=by
 unfold cands at hz
 split at hz
 ·rename_i h0
  obtain ⟨h1,-⟩:=candL_mem hz
  obtain ⟨h2,h3,h4⟩:=visQs_mem h1
  obtain ⟨h5,-⟩:=right_price h3 h4
  refine ⟨hin z h2,h5,?_,?_⟩
  ·have:=(usable_len (right_facts h3).1).1
   intro h6;rw [h6] at this;cases this
  ·unfold candC at h0
   split at h0
   ·rename_i h7;exact absurd h0 h7
   ·split at h0
    ·rename_i h7;exact h7
    ·cases h0
 ·cases hz
theorem cands_len {xs:List QC} {k:Int} {p:PL} {ins:List UInt8} {day:Int}:(cands xs k p ins day).length≤8:=by
 unfold cands
 split
 ·rename_i h0
  unfold candC at h0
  split at h0
  ·rename_i h7;exact absurd h0 h7
  ·split at h0
   ·rename_i h7
    unfold polOk at h7
    simp only [Bool.and_eq_true,decide_eq_true_eq] at h7
    exact Nat.le_trans (candL_len _ _ _ _ _) h7.1.2
   ·cases h0
 ·simp
theorem polOk_tol {p:PL} (h:polOk p=true):pctB p.tol=true∧betQ p.tol 0 1=true:=by
 unfold polOk at h
 simp only [Bool.and_eq_true] at h
 exact h.2.2.1
theorem yard_mid {L:List QC} {z:QC} (h:(sortedQ (cmpbl L))[((cmpbl L).length - 1) / 2]? = some z):yardQ L=z.price∧z∈L:=by
 have e1:sortR ltP ((cmpbl L).map QC.price)=(sortR ltQ (cmpbl L)).map QC.price:=(sortR_map QC.price (fun _ _=>rfl) _).symm
 have e2:(sortR ltQ (cmpbl L)).length=(cmpbl L).length:=sortR_len _ _
 refine ⟨?_,?_⟩
 ·unfold yardQ midR
  rw [e1,List.length_map,e2,← List.map_reverse,List.getElem?_map]
  unfold sortedQ at h
  rw [h];rfl
 ·have:=List.mem_of_getElem? h
  unfold sortedQ at this
  rw [List.mem_reverse,sortR_mem] at this
  exact (List.mem_filter.1 this).1
theorem yard_ex {L:List QC} (h:0 < L.length):∃ z,(sortedQ (cmpbl L))[((cmpbl L).length - 1) / 2]? = some z∧0 < (cmpbl L).length:=by
 have hp:0 < (cmpbl L).length:=by
  cases L with
  | nil=>cases h
  | cons y r =>
   have:y∈cmpbl (y :: r):=by
    rw [cmpbl_eq,List.mem_filter]
    exact ⟨by simp,decide_eq_true rfl⟩
   exact List.length_pos_of_mem this
 exact ⟨_,List.getElem?_eq_getElem (by rw [sortedQ_len];omega),hp⟩
theorem big_a:2000000000000000000000*100000000000000 < BB ^ 32:=by decide
theorem big_b:100000000000000000000000*1000000000000 < BB ^ 32:=by decide
theorem near_both {L:List QC} {tol:RQ} (ht:tol.In) (h1:pctB tol=true) (h2:betQ tol 0 1=true) (hL:∀ z∈L,z.In∧payOk z.price=true) {z:QC} (hz:z∈L):Pure Tryz.prog 42 [SV.c (.agg z.price.A),SV.c (.agg (yardQ L).A),SV.c (.agg tol.A)] (.bool (nearQ z.price (yardQ L) tol))∧Pure Tryz.prog 44 [SV.c (.agg z.price.A),SV.c (.agg (yardQ L).A),SV.c (.agg tol.A)] (.bool (nearQ z.price (yardQ L) tol))∧payOk (yardQ L)=true:=by
 obtain ⟨y,hy,-⟩:=yard_ex (L:=L) (List.length_pos_of_mem hz)
 obtain ⟨e1,hyL⟩:=yard_mid hy
 obtain ⟨k1,k2⟩:=hL z hz
 obtain ⟨k3,k4⟩:=hL y hyL
 rw [e1]
 obtain ⟨o1,o2,o3,b1,b2,b3,b4⟩:=near_ok k2 k4 h1 h2
 refine ⟨near_z k1.price k3.price ht o2 o3,near_r k1.price k3.price ht ?_ ?_,k4⟩
 ·rw [Int.natAbs_mul]
  exact Nat.lt_of_le_of_lt (Nat.mul_le_mul b1 b4) big_a
 ·rw [Int.natAbs_mul]
  exact Nat.lt_of_le_of_lt (Nat.mul_le_mul b3 b2) big_b
theorem CH.size (h:CH) (v:Value):(h.A v).size=70:=by simp [CH.A,RQ.A_size]
theorem chZero_A:chZero.A (.slice none 0 0)=ti33.zero:=by kernel_rfl
theorem CH.g0 (h:CH) (v:Value):(h.A v)[0]? = some (.string (S h.src)):=by kernel_rfl
theorem CH.g4 (h:CH) (v:Value):(h.A v)[69]? = some v:=by
 have h1:h.A v=((#[.string (S h.src),.string (S h.cur),.int .i64 h.day]:Array Value)++h.price.A)++#[v]:=by simp [CH.A]
 have h2:((#[.string (S h.src),.string (S h.cur),.int .i64 h.day]:Array Value)++h.price.A).size=69:=by simp [RQ.A_size]
 rw [h1,Array.getElem?_append_right (by omega),h2]
 rfl
theorem CH.fits (h:CH) {a:Option Addr} {n c:Nat}:Fits (h.A (.slice a n c)) 70:=⟨h.size _,by
 rw [CH.A,Array.all_append,Array.all_append,h.price.A_fits.one]
 simp [Value.oneCell']⟩
theorem CH.set0 (h:CH) (v:Value) (l:List UInt8):(h.A v).setIfInBounds (0+0) (.string (S l))=({ h with src:=l }:CH).A v:=by kernel_rfl
theorem CH.set1 (h:CH) (v:Value) (l:List UInt8):(h.A v).setIfInBounds (0+1) (.string (S l))=({ h with cur:=l }:CH).A v:=by kernel_rfl
theorem CH.set2 (h:CH) (v:Value) (n:Int):(h.A v).setIfInBounds (0+2) (.int .i64 n)=({ h with day:=n }:CH).A v:=by kernel_rfl
theorem CH.set3 (h:CH) (v:Value) (r:RQ):splice (h.A v) (0+3) r.A.toList=({ h with price:=r }:CH).A v:=by kernel_rfl
theorem CH.set4 (h:CH) (v u:Value):(h.A v).setIfInBounds (0+69) u=h.A u:=by kernel_rfl
theorem runs_pri {E:Env} (hE:E.P=Tryz.prog) (a:QC):Runs E (Instr.field 40 (.agg a.A) 4) (.agg a.price.A):=fun w _=>by
 rw [hE]
 have h:=part_agg (P:=Tryz.prog) tok29 rfl a.A 4 w
 have e:a.A.extract 4 (4+ti29.size)=a.price.A:=a.gpri
 rw [e] at h
 simp [Instr.field,Sem.run_bind,run_underlying Tryz.underlying40,asAgg,h]
theorem clone_own {E:Env} (hE:E.P=Tryz.prog) {x:Value} {n:Nat} {L:List QC} (_hn:n=L.length) (h0:0 < n) (hm:n≤1000000000):OwnC E 38 [SV.c x] [(4000,Blk.own x 40 72 n (cat QC.A L))] (fun r U=>(IsL r n∧capOk r)∧U=[(4000,Blk.own x 40 72 n (cat QC.A L)),(6000,Blk.own r 40 72 n (cat QC.A L))]):=by
 have h1:(cat QC.A L).all (·.oneCell')=true:=Go.SX.cat_all (fun a=>a.one) L
 refine (OwnC.caps (OwnC.with_own (k:=4000) (v:=x) (e:=40) (sz:=72) (n:=n) (A:=cat QC.A L) (pre:=[]) rfl rfl h1 (by rw [hE];exact at38.enters) (fun E0 h hl=>clone_q (h.trans hE) hl h0 hm) (fun x U h=>by rw [h.2];rfl))).mono ?_
 rintro y U ⟨⟨U0,⟨h1,rfl⟩,rfl⟩,h3⟩
 exact ⟨⟨h1,h3 6000 _ _ _ _ _ rfl⟩,rfl⟩
theorem delete_own {E:Env} (hE:E.P=Tryz.prog) {x s:Value} {L M:List QC} {n l:Nat} (hnM:n=M.length) (hl:l=L.length) (hM:M.length≤1000) (hn:0 < L.length) (hx:IsL x n) (hcap:capOk x):OwnC E 37 [SV.c x,SV.clo 39 [7000]] [(4000,Blk.own s 40 72 l (cat QC.A L)),(7000,Blk.row 22 1 #[s]),(6000,Blk.own x 40 72 n (cat QC.A M))] (fun r U=>∃ m,m=(M.filter (sameCur L)).length∧IsL r m∧U=[(4000,Blk.own s 40 72 l (cat QC.A L)),(7000,Blk.row 22 1 #[s]),(6000,Blk.own r 40 72 m (cat QC.A (M.filter (sameCur L))))]):=by
 subst hl
 have h1:(cat QC.A L).all (·.oneCell')=true:=Go.SX.cat_all (fun a=>a.one) L
 refine (OwnC.with_own (k:=4000) (v:=s) (e:=40) (sz:=72) (n:=L.length) (A:=cat QC.A L) (pre:=[(7000,Blk.row 22 1 #[s]),(6000,Blk.own x 40 72 n (cat QC.A M))]) rfl rfl h1 (by rw [hE];exact at37.enters) (fun E0 h hl=>delete_q (h.trans hE) hnM hM hl hn hx hcap) (fun x U ⟨m,_,_,hU⟩=>by rw [hU];rfl)).mono ?_
 rintro y U ⟨U0,⟨m,h1,h2,rfl⟩,rfl⟩
 exact ⟨m,h1,h2,rfl⟩
theorem median_own {E:Env} (hE:E.P=Tryz.prog) {x:Value} {M:List QC} {n:Nat} (hnM:n=M.length) (hn:0 < n) (hM:n < 20) (hok:∀ z∈M,z.In∧z.price.ok=true):OwnC E 40 [SV.c x,SV.c (fnV 41)] [(6000,Blk.own x 40 72 n (cat QC.A M))] (fun r U=>(∃ z,(sortedQ M)[(M.length - 1) / 2]? = some z∧r=.agg z.A)∧U=[(6000,Blk.own x 40 72 n (cat QC.A M))]):=by
 subst hnM
 have h1:(cat QC.A M).all (·.oneCell')=true:=Go.SX.cat_all (fun a=>a.one) M
 refine (OwnC.with_own (k:=6000) (v:=x) (e:=40) (sz:=72) (n:=M.length) (A:=cat QC.A M) (pre:=[]) rfl rfl h1 (by rw [hE];exact at40.enters) (fun E0 h hl=>median_q (h.trans hE) hl hn hM hok) (fun x U h=>by rw [h.2];rfl)).mono ?_
 rintro y U ⟨U0,⟨h1,rfl⟩,rfl⟩
 exact ⟨h1,rfl⟩
def sfound (L:List QC) (tol:RQ) (i:Nat):Option QC:=(L.take i).find? (isGood (curH L) (yardQ L) tol)
def sbad (L:List QC) (tol:RQ) (i:Nat):List (List UInt8):=((L.take i).filter (fun q=>!isGood (curH L) (yardQ L) tol q)).map QC.src
theorem sbad_len (L:List QC) (tol:RQ) (i:Nat):(sbad L tol i).length≤i:=by
 unfold sbad
 rw [List.length_map]
 exact Nat.le_trans (List.length_filter_le _ _) (by simp;omega)
theorem sbad_bad {L:List QC} {tol:RQ} {i:Nat} {z:QC} (hz:L[i]? = some z) (h:isGood (curH L) (yardQ L) tol z=false):sbad L tol (i+1)=sbad L tol i++[z.src]:=by
 unfold sbad
 rw [List.take_add_one,hz,List.filter_append]
 simp [h]
theorem sbad_good {L:List QC} {tol:RQ} {i:Nat} {z:QC} (hz:L[i]? = some z) (h:isGood (curH L) (yardQ L) tol z=true):sbad L tol (i+1)=sbad L tol i:=by
 unfold sbad
 rw [List.take_add_one,hz,List.filter_append]
 simp [h]
theorem sfound_bad {L:List QC} {tol:RQ} {i:Nat} {z:QC} (hz:L[i]? = some z) (h:isGood (curH L) (yardQ L) tol z=false):sfound L tol (i+1)=sfound L tol i:=by
 unfold sfound
 rw [List.take_add_one,hz,List.find?_append]
 simp [h]
theorem sfound_good {L:List QC} {tol:RQ} {i:Nat} {z:QC} (hz:L[i]? = some z) (h:isGood (curH L) (yardQ L) tol z=true):sfound L tol (i+1)=some ((sfound L tol i).getD z):=by
 unfold sfound
 rw [List.take_add_one,hz,List.find?_append]
 simp only [Option.toList,List.find?_cons,h]
 cases List.find? (isGood (curH L) (yardQ L) tol) (List.take i L)<;>rfl
theorem CH.fill4 (h:CH) (v:Value) (z:QC):∃ A1 A2 A3,(h.A v).setIfInBounds (0+0) (.string (S z.src))=A1∧A1.setIfInBounds (0+1) (.string (S z.cur))=A2∧A2.setIfInBounds (0+2) (.int .i64 z.day)=A3∧splice A3 (0+3) z.price.A.toList=(chOf (some z)).A v :=
 ⟨_,_,_,CH.set0 h v z.src,CH.set1 _ v z.cur,CH.set2 _ v z.day,CH.set3 _ v z.price⟩
theorem fill_str1 (l:List UInt8):Instr.fill (fun k=>some (k*ti9.size,ti9.size)) (madeCells ti9.zero (1*ti9.size)) [(0,.string (S l))]=some (strA l):=by kernel_rfl
theorem strA_ext (l:List UInt8):(strA l).extract 0 (0+1*1)=strA l:=rfl
theorem strA_one (l:List UInt8):(strA l).all (·.oneCell')=true:=by simp [strA,Value.oneCell']
theorem info_str:∃ q,Tryz.prog.info? 9=some q∧q.bytes=16:=info_of (by kernel_rfl)
def SelQ (xs:List QC) (k:Int) (p:PL) (ins:List UInt8) (day:Int) (x:Value) (U:MemL):Prop:=∃ s n,n=(selBad (cands xs k p ins day) p.tol).length∧x=.tuple #[.agg ((selCh (cands xs k p ins day) p.tol).A s),.int .i64 (selE xs k p ins day)]∧IsL s n∧U=[(9000,Blk.own s 9 1 n (cat strA (selBad (cands xs k p ins day) p.tol)))]
theorem sel_none {xs:List QC} {k:Int} {p:PL} {ins:List UInt8} {day:Int} {e:Int} (h:cands xs k p ins day=[]) (he:selE xs k p ins day=e):SelQ xs k p ins day (mkRes [.agg (chZero.A (.slice none 0 0)),.int .i64 e]) [(9000,Blk.own (.slice none 0 0) 9 1 0 #[])]:=⟨.slice none 0 0,0,by rw [h];rfl,by rw [h,he];rfl,.nil,by rw [h];rfl⟩
theorem cands_err {xs:List QC} {k:Int} {p:PL} {ins:List UInt8} {day:Int} (h:candC xs k p day≠0):cands xs k p ins day=[]:=by unfold cands;rw [if_neg h]
theorem select_q {E:Env} (hE:E.P=Tryz.prog) {v:Value} {k:Int} {xs:List QC} (hv:Lst E v 72 xs.length (cat QC.A xs)) (hn:xs.length≤1000000000000) (hin:∀ y∈xs,y.In) {vp:Value} {p:PL} (hp:Lst E vp 1 p.srcs.length (cat strA p.srcs)) (hpn:p.srcs.length≤1000000000000000) (hpin:p.In) (ins:List UInt8) (day:Int):OwnC E 10 [SV.c v,SV.c (.agg (p.A vp)),SV.c (.int .i64 k),SV.c (.string (S ins)),SV.c (.int .i64 day)] [] (SelQ xs k p ins day):=by
 refine sx_ownC [] tt_ok mixed at10 E hE [SV.c v,SV.c (.agg (p.A vp)),SV.c (.int .i64 k),SV.c (.string (S ins)),SV.c (.int .i64 day)] [] _ rfl rfl fun w X β hT=>?_
 have hv':=hv.of_old hT
 have hp':=hp.of_old hT
 have C1:=cand_q (k:=k) rfl hv' hn hin hp' hpn hpin ins day
 obtain ⟨a,cap,rfl,hc,h4⟩:=id hp'.shape
 have F1:=p.size (.slice a p.srcs.length cap)
 have G1:=p.g1 (.slice a p.srcs.length cap)
 generalize p.A (.slice a p.srcs.length cap)=PA at *
 refine ⟨F1,?_⟩
 refine .inr (.inr (.inr ⟨[],[4000],[_,_,_,_,_],[],_,C1,rfl,trivial,rfl,trivial,?_⟩))
 rintro r U ⟨s,n,hsn,rfl,hs,rfl⟩
 obtain ⟨sa,sc,rfl⟩:=hs.len
 have hlen:=cands_len (xs:=xs) (k:=k) (p:=p) (ins:=ins) (day:=day)
 have hmem:=fun z hz=>cands_mem (k:=k) (p:=p) (ins:=ins) (day:=day) (z:=z) hin hz
 refine ⟨rfl,by decide,rfl,#[.slice sa n sc],rfl,fun c1=>?_,fun c1=>?_⟩
 ·have c1:(candC xs k p day != 0)=true:=c1
  have c1:candC xs k p day≠0:=by simpa using c1
  exact ⟨chZero.A (.slice none 0 0),(by kernel_rfl),CH.fits _,[(9000,Blk.own (.slice none 0 0) 9 1 0 #[])],[],sel_none (cands_err c1) (by unfold selE;rw [if_pos c1]),⟨.inr ⟨rfl,rfl,rfl⟩,trivial⟩,rfl⟩
 have c1:(candC xs k p day != 0)=false:=c1
 have c1:candC xs k p day=0:=by simpa using c1
 refine ⟨_,rfl,_,fun w' _=>run_len_sl Tryz.underlying22 w',fun c2=>?_,fun c2=>?_⟩
 ·have c2:((n:Int) == 0)=true:=c2
  have c2:n=0:=by have:=of_decide_eq_true c2;omega
  have e1:cands xs k p ins day=[]:=List.eq_nil_of_length_eq_zero (by omega)
  exact ⟨chZero.A (.slice none 0 0),(by kernel_rfl),CH.fits _,[(9000,Blk.own (.slice none 0 0) 9 1 0 #[])],[],sel_none e1 (by unfold selE;rw [if_neg (by rw [c1];decide),if_pos e1]),⟨.inr ⟨rfl,rfl,rfl⟩,trivial⟩,rfl⟩
 have c2:((n:Int) == 0)=false:=c2
 have c2:n≠0:=fun h=>by rw [h] at c2;cases c2
 have eE:selE xs k p ins day=0:=by
  unfold selE
  rw [if_neg (by rw [c1];decide),if_neg]
  intro h;rw [h] at hsn;exact c2 hsn
 unfold SelQ
 rw [eE,c1]
 clear eE
 generalize cands xs k p ins day=L at *
 have K1:=clone_own (E:=(envC Tryz.prog tt Tryz.f10.ntmps w X (tiedK [] β)).toEnv) rfl (x:=.slice sa n sc) (L:=L) hsn (by omega) (by omega)
 refine ⟨_,rfl,.inr (.inr (.inr ⟨[],[6000],[_],[_],_,K1,rfl,⟨.inl rfl,trivial⟩,rfl,trivial,?_⟩))⟩
 rintro y U ⟨⟨hy,hycap⟩,rfl⟩
 refine ⟨rfl,?_⟩
 have D1:=delete_own (E:=(envC Tryz.prog tt Tryz.f10.ntmps w X (tiedK [] β)).toEnv) rfl (x:=y) (s:=.slice sa n sc) (L:=L) (M:=L) hsn hsn (by omega) (by omega) hy hycap
 refine .inr (.inr (.inr ⟨[(7000,12)],[],[_,_],[_,_,_],_,D1,rfl,⟨.inl rfl,rfl,.inl rfl,trivial⟩,rfl,trivial,?_⟩))
 rintro z U ⟨m,hm,hz,rfl⟩
 refine ⟨rfl,?_⟩
 have hpos:0 < L.length:=by omega
 obtain ⟨mid,hmid,hcp⟩:=yard_ex hpos
 obtain ⟨ey,hmidL⟩:=yard_mid hmid
 have hcl:(cmpbl L).length≤L.length:=List.length_filter_le _ _
 have M1:=median_own (E:=(envC Tryz.prog tt Tryz.f10.ntmps w X (tiedK [] β)).toEnv) rfl (x:=z) (M:=cmpbl L) (n:=m) hm (by rw [hm];exact hcp) (by rw [hm,← cmpbl_eq];omega) (fun q hq=>⟨(hmem q (List.mem_filter.1 hq).1).1,(pay_ok (hmem q (List.mem_filter.1 hq).1).2.1).1⟩)
 refine .inr (.inr (.inr ⟨[],[],[_,_],[_],_,M1,rfl,⟨.inl rfl,trivial⟩,rfl,trivial,?_⟩))
 rintro r U ⟨⟨mid',hmid',rfl⟩,rfl⟩
 obtain rfl:mid'=mid:=by rw [hmid] at hmid';exact (Option.some.inj hmid').symm
 refine ⟨rfl,_,runs_pri rfl mid',?_⟩
 rw [← ey]
 have hrs:∀ q∈L,Pure Tryz.prog 42 [SV.c (.agg q.price.A),SV.c (.agg (yardQ L).A),SV.c (.agg p.tol.A)] (.bool (nearQ q.price (yardQ L) p.tol)):=fun q hq=>by
  obtain ⟨t1,t2⟩:=polOk_tol (hmem q hq).2.2.2
  exact (near_both hpin.tol t1 t2 (fun z hz=>⟨(hmem z hz).1,(hmem z hz).2.1⟩) hq).1
 clear K1 D1 M1 C1
 have YF:=(yardQ L).A_fits
 have hsb:∀ i,(sbad L p.tol i).length≤i:=sbad_len L p.tol
 have eb:selBad L p.tol=sbad L p.tol L.length:=by unfold sbad selBad;rw [List.take_length]
 have ef:selCh L p.tol=chOf (sfound L p.tol L.length):=by unfold sfound selCh;rw [List.take_length]
 rw [eb,ef]
 refine ⟨YF,_,rfl,_,fun w' _=>run_len_sl Tryz.underlying22 w',?_⟩
 generalize hYA:(yardQ L).A=YA at *
 refine ⟨fun q f m=>∃ (i:Nat) (y:Value) (N:Nat),q=L.length - i∧i≤L.length∧N=(sbad L p.tol i).length∧IsL y N∧f=[(6,SV.ptr 6 0),(10,SV.ptr 10 0),(12,SV.ptr 12 0),(15,SV.ptr 15 0),(16,SV.ptr 16 0),(45,SV.c (.slice sa n sc)),(46,SV.c (.int .i64 (n:Nat))),(47,SV.c (.int .i64 (i:Nat)))]∧m=[(9000,Blk.own y 9 1 N (cat strA (sbad L p.tol i))),(16,Blk.row 33 70 ((chOf (sfound L p.tol i)).A y)),(15,Blk.row 29 66 YA),(12,Blk.row 22 1 #[.slice sa n sc]),(10,Blk.row 33 70 (chZero.A (.slice none 0 0))),(6,Blk.row 31 68 PA),(4000,Blk.own (.slice sa n sc) 40 72 n (cat QC.A L))],L.length,⟨_,_,⟨0,.slice none 0 0,0,by omega,by omega,rfl,.nil,rfl,rfl⟩,⟨rfl,rfl,rfl,rfl,rfl,rfl,rfl,rfl,trivial⟩,⟨.inr ⟨rfl,rfl,rfl⟩,congrArg (fun A=>some (Blk.row 33 70 A)) chZero_A.symm,rfl,rfl,congrArg (fun A=>some (Blk.row 33 70 A)) chZero_A.symm,rfl,.inl rfl,trivial⟩,rfl⟩,?_⟩
 rintro q f m ⟨i,y,N,rfl,hi,hN,hy,rfl,rfl⟩
 refine ⟨fun h=>?_,fun h=>?_⟩
 ·have h:i < n:=by have:=of_decide_eq_true h;omega
  obtain ⟨z,hz⟩:∃ z,L[i]? = some z:=⟨_,List.getElem?_eq_getElem (by omega)⟩
  have hzL:=List.mem_of_getElem? hz
  have hNl:N≤i:=by rw [hN];exact hsb i
  obtain ⟨y0,hy0⟩:∃ z,L[0]? = some z:=⟨_,List.getElem?_eq_getElem (by omega)⟩
  have ec:curH L=y0.cur:=by
   unfold curH
   cases L with
   | nil=>cases hy0
   | cons z0 r=>simp at hy0;subst hy0;rfl
  rcases hs with ⟨hs1,hs2⟩ | ⟨g0,c0,hs1⟩
  ·omega
  cases hs1
  have L2:=cat_extract QC.size hz
  have j2:i*72+72≤(cat QC.A L).size:=by rw [Go.SX.cat_size QC.size];omega
  have L0:(cat QC.A L)[0+2]? = some (.string (S y0.cur)):=by
   have:=cat_get QC.size L 0 y0 2 hy0 (by omega)
   rw [y0.g2] at this
   simpa using this
  have K9:=hrs z hzL
  have Z0:=z.g0
  have Z2:=z.g2
  have Z3:=z.g3
  have ZP:=z.gpri
  have ZF:=z.fits
  have C0:=CH.g0 (chOf (sfound L p.tol i)) y
  have C4:=CH.g4 (chOf (sfound L p.tol i)) y
  have S4:=fun u=>CH.set4 (chOf (sfound L p.tol i)) y u
  obtain ⟨A1,A2,A3,T1,T2,T3,T4⟩:=CH.fill4 (chOf (sfound L p.tol i)) y z
  have PF:=z.price.A_fits
  generalize hC:(chOf (sfound L p.tol i)).A y=CA at *
  generalize hD:(chOf (some z)).A y=DA at *
  generalize hX:cat QC.A L=XA at *
  generalize hY:z.A=ZA at *
  refine ⟨by omega,by omega,.inr ⟨4000,g0,_,n,_,_,_,_,rfl,rfl,(by rw [off72];exact j2),ZA,(by rw [off72];exact L2),ZF,?_⟩⟩
  refine ⟨_,Z2,_,rfl,by decide,by omega,.inr ⟨4000,g0,_,n,_,_,_,_,rfl,rfl,_,L0,?_⟩⟩
  refine ⟨fun k1=>?_,fun k1=>?_⟩
  ·have k1:(!((S z.cur).toList == (S y0.cur).toList))=false:=k1
   rw [S_beq] at k1
   have k1:decide (z.cur=curH L)=true:=by rw [ec];simpa using k1
   refine ⟨by decide,_,ZP,by decide,_,G1,.inl ⟨_,K9,by kernel_rfl,fun k2=>?_,fun k2=>?_⟩⟩
   ·have k2:=bnot_t k2
    have hg:isGood (curH L) (yardQ L) p.tol z=false:=by unfold isGood;rw [k1,k2];rfl
    refine ⟨_,C4,_,Z0,.inl ⟨by decide,by decide,_,fill_str1 z.src,rfl,by decide,9000,N,_,.inl rfl,by decide,strA_one z.src,rfl,_,strA_ext z.src,?_⟩⟩
    obtain ⟨q,hq,hb⟩:=info_str
    refine ⟨by omega,by unfold maxLen;omega,⟨q,hq,by rw [hb];omega⟩,trivial,fun g2 cap2=>?_⟩
    refine ⟨by decide,rfl,_,S4 _,?_⟩
    exact ⟨L.length - (i+1),_,_,by omega,⟨i+1,_,N+1,rfl,by omega,by rw [sbad_bad hz hg,List.length_append,← hN];rfl,.some,rfl,rfl⟩,⟨rfl,rfl,rfl,rfl,rfl,rfl,rfl,c_int (i64_succ (by omega)),trivial⟩,⟨.inl (own_eq (by rw [sbad_bad hz hg,cat_append,cat_one])),congrArg (fun B=>some (Blk.row 33 70 ((chOf B).A _))) (sfound_bad hz hg).symm,rfl,rfl,rfl,rfl,.inl rfl,trivial⟩,rfl⟩
   ·have k2:=bnot_f k2
    have hg:isGood (curH L) (yardQ L) p.tol z=true:=by unfold isGood;rw [k1,k2];rfl
    have eb:=sbad_good hz hg
    have ef:=sfound_good hz hg
    refine ⟨_,C0,fun k3=>?_,fun k3=>?_⟩
    ·have k3:(chOf (sfound L p.tol i)).src=[]:=str_eq k3
     have e0:sfound L p.tol i=none:=by
      cases e:sfound L p.tol i with
      | none=>rfl
      | some q =>
       rw [e] at k3
       have hq:q∈L:=by
        unfold sfound at e
        exact List.mem_of_mem_take (List.mem_of_find?_eq_some e)
       exact absurd k3 (hmem q hq).2.2.1
     rw [e0] at ef
     refine ⟨_,Z0,_,Z2,_,Z3,by decide,_,ZP,by decide,rfl,A1,T1,by decide,rfl,A2,T2,by decide,rfl,A3,T3,by decide,PF,DA,T4,?_⟩
     exact ⟨by kernel_rfl,L.length - (i+1),_,_,by omega,⟨i+1,y,N,rfl,by omega,by rw [eb];exact hN,hy,rfl,rfl⟩,⟨rfl,rfl,rfl,rfl,rfl,rfl,rfl,c_int (i64_succ (by omega)),trivial⟩,⟨.inl (own_eq (by rw [eb])),(by rw [ef,← hD];rfl),rfl,rfl,rfl,rfl,.inl rfl,trivial⟩,rfl⟩
    ·have k3:(chOf (sfound L p.tol i)).src≠[]:=str_ne k3
     have e0:sfound L p.tol (i+1)=sfound L p.tol i:=by
      rw [ef]
      cases e:sfound L p.tol i with
      | none=>rw [e] at k3;exact absurd rfl k3
      | some q=>rfl
     exact ⟨L.length - (i+1),_,_,by omega,⟨i+1,y,N,rfl,by omega,by rw [eb];exact hN,hy,rfl,rfl⟩,⟨rfl,rfl,rfl,rfl,rfl,rfl,rfl,c_int (i64_succ (by omega)),trivial⟩,⟨.inl (own_eq (by rw [eb])),(by rw [e0,hC];rfl),rfl,rfl,rfl,rfl,.inl rfl,trivial⟩,rfl⟩
  ·have k1:(!((S z.cur).toList == (S y0.cur).toList))=true:=k1
   rw [S_beq] at k1
   have k1:decide (z.cur=curH L)=false:=by rw [ec];simpa using k1
   have hg:isGood (curH L) (yardQ L) p.tol z=false:=by unfold isGood;rw [k1];rfl
   refine ⟨by kernel_rfl,fun _=>?_,nofun⟩
   refine ⟨_,C4,_,Z0,.inl ⟨by decide,by decide,_,fill_str1 z.src,rfl,by decide,9000,N,_,.inl rfl,by decide,strA_one z.src,rfl,_,strA_ext z.src,?_⟩⟩
   obtain ⟨q,hq,hb⟩:=info_str
   refine ⟨by omega,by unfold maxLen;omega,⟨q,hq,by rw [hb];omega⟩,trivial,fun g2 cap2=>?_⟩
   refine ⟨by decide,rfl,_,S4 _,?_⟩
   exact ⟨L.length - (i+1),_,_,by omega,⟨i+1,_,N+1,rfl,by omega,by rw [sbad_bad hz hg,List.length_append,← hN];rfl,.some,rfl,rfl⟩,⟨rfl,rfl,rfl,rfl,rfl,rfl,rfl,c_int (i64_succ (by omega)),trivial⟩,⟨.inl (own_eq (by rw [sbad_bad hz hg,cat_append,cat_one])),congrArg (fun B=>some (Blk.row 33 70 ((chOf B).A _))) (sfound_bad hz hg).symm,rfl,rfl,rfl,rfl,.inl rfl,trivial⟩,rfl⟩
 ·have h:i=n:=by have:=of_decide_eq_false h;omega
  obtain rfl:i=L.length:=by omega
  have CF:Fits ((chOf (sfound L p.tol L.length)).A y) 70:=by obtain ⟨ya,yc,rfl⟩:=hy.len;exact CH.fits _
  generalize hC:(chOf (sfound L p.tol L.length)).A y=CA at *
  refine ⟨CF,[(9000,Blk.own y 9 1 N (cat strA (sbad L p.tol L.length)))],[],⟨y,N,hN,by rw [hC];rfl,hy,rfl⟩,⟨.inl rfl,trivial⟩,rfl⟩
theorem yard_own {E:Env} (hE:E.P=Tryz.prog) {x:Value} {L:List QC} {n:Nat} (hn:n=L.length) (h0:0 < n) (hM:n < 20) (hok:∀ z∈L,z.In∧payOk z.price=true):OwnC E 43 [SV.c x] [(4000,Blk.own x 40 72 n (cat QC.A L))] (fun r U=>r=.agg (yardQ L).A∧U=[(4000,Blk.own x 40 72 n (cat QC.A L))]):=by
 subst hn
 have h1:(cat QC.A L).all (·.oneCell')=true:=Go.SX.cat_all (fun a=>a.one) L
 refine (OwnC.with_own (k:=4000) (v:=x) (e:=40) (sz:=72) (n:=L.length) (A:=cat QC.A L) (pre:=[]) rfl rfl h1 (by rw [hE];exact at43.enters) (fun E0 h hl=>yard_r (h.trans hE) hl h0 hM hok) (fun x U h=>by rw [h.2];rfl)).mono ?_
 rintro y U ⟨U0,⟨h1,rfl⟩,rfl⟩
 exact ⟨h1,rfl⟩
theorem select_qr {E:Env} (hE:E.P=Tryz.prog) {v:Value} {k:Int} {xs:List QC} (hv:Lst E v 72 xs.length (cat QC.A xs)) (hn:xs.length≤1000000000000) (hin:∀ y∈xs,y.In) {vp:Value} {p:PL} (hp:Lst E vp 1 p.srcs.length (cat strA p.srcs)) (hpn:p.srcs.length≤1000000000000000) (hpin:p.In) (ins:List UInt8) (day:Int):OwnC E 11 [SV.c v,SV.c (.agg (p.A vp)),SV.c (.int .i64 k),SV.c (.string (S ins)),SV.c (.int .i64 day)] [] (SelQ xs k p ins day):=by
 refine sx_ownC [] tt_ok mixed at11 E hE [SV.c v,SV.c (.agg (p.A vp)),SV.c (.int .i64 k),SV.c (.string (S ins)),SV.c (.int .i64 day)] [] _ rfl rfl fun w X β hT=>?_
 have hv':=hv.of_old hT
 have hp':=hp.of_old hT
 have C1:=cand_qr (k:=k) rfl hv' hn hin hp' hpn hpin ins day
 obtain ⟨a,cap,rfl,hc,h4⟩:=id hp'.shape
 have F1:=p.size (.slice a p.srcs.length cap)
 have G1:=p.g1 (.slice a p.srcs.length cap)
 generalize p.A (.slice a p.srcs.length cap)=PA at *
 refine ⟨F1,?_⟩
 refine .inr (.inr (.inr ⟨[],[4000],[_,_,_,_,_],[],_,C1,rfl,trivial,rfl,trivial,?_⟩))
 rintro r U ⟨s,n,hsn,rfl,hs,rfl⟩
 obtain ⟨sa,sc,rfl⟩:=hs.len
 have hlen:=cands_len (xs:=xs) (k:=k) (p:=p) (ins:=ins) (day:=day)
 have hmem:=fun z hz=>cands_mem (k:=k) (p:=p) (ins:=ins) (day:=day) (z:=z) hin hz
 refine ⟨rfl,fun c1=>?_,fun c1=>?_⟩
 ·have c1:(candC xs k p day != 0)=true:=c1
  have c1:candC xs k p day≠0:=by simpa using c1
  exact ⟨chZero.A (.slice none 0 0),(by kernel_rfl),CH.fits _,[(9000,Blk.own (.slice none 0 0) 9 1 0 #[])],[],sel_none (cands_err c1) (by unfold selE;rw [if_pos c1]),⟨.inr ⟨rfl,rfl,rfl⟩,trivial⟩,rfl⟩
 have c1:(candC xs k p day != 0)=false:=c1
 have c1:candC xs k p day=0:=by simpa using c1
 refine ⟨_,fun w' _=>run_len_sl Tryz.underlying22 w',fun c2=>?_,fun c2=>?_⟩
 ·have c2:((n:Int) == 0)=true:=c2
  have c2:n=0:=by have:=of_decide_eq_true c2;omega
  have e1:cands xs k p ins day=[]:=List.eq_nil_of_length_eq_zero (by omega)
  exact ⟨chZero.A (.slice none 0 0),(by kernel_rfl),CH.fits _,[(9000,Blk.own (.slice none 0 0) 9 1 0 #[])],[],sel_none e1 (by unfold selE;rw [if_neg (by rw [c1];decide),if_pos e1]),⟨.inr ⟨rfl,rfl,rfl⟩,trivial⟩,rfl⟩
 have c2:((n:Int) == 0)=false:=c2
 have c2:n≠0:=fun h=>by rw [h] at c2;cases c2
 have eE:selE xs k p ins day=0:=by
  unfold selE
  rw [if_neg (by rw [c1];decide),if_neg]
  intro h;rw [h] at hsn;exact c2 hsn
 unfold SelQ
 rw [eE,c1]
 clear eE C1
 generalize cands xs k p ins day=L at *
 have Y1:=yard_own (E:=(envC Tryz.prog tt Tryz.f11.ntmps w X (tiedK [] β)).toEnv) rfl (x:=.slice sa n sc) (L:=L) hsn (by omega) (by omega) (fun z hz=>⟨(hmem z hz).1,(hmem z hz).2.1⟩)
 have hrs:∀ q∈L,Pure Tryz.prog 44 [SV.c (.agg q.price.A),SV.c (.agg (yardQ L).A),SV.c (.agg p.tol.A)] (.bool (nearQ q.price (yardQ L) p.tol)):=fun q hq=>by
  obtain ⟨t1,t2⟩:=polOk_tol (hmem q hq).2.2.2
  exact (near_both hpin.tol t1 t2 (fun z hz=>⟨(hmem z hz).1,(hmem z hz).2.1⟩) hq).2.1
 have YF:=(yardQ L).A_fits
 have hsb:∀ i,(sbad L p.tol i).length≤i:=sbad_len L p.tol
 have eb:selBad L p.tol=sbad L p.tol L.length:=by unfold sbad selBad;rw [List.take_length]
 have ef:selCh L p.tol=chOf (sfound L p.tol L.length):=by unfold sfound selCh;rw [List.take_length]
 rw [eb,ef]
 generalize hYA:(yardQ L).A=YA at *
 refine .inr (.inr (.inl ⟨[],[_],[_],_,[_],Y1,rfl,⟨.inl rfl,trivial⟩,rfl,rfl,YF,?_⟩))
 clear Y1
 refine ⟨fun q f m=>∃ (i:Nat) (y:Value) (N:Nat),q=L.length - i∧i≤L.length∧N=(sbad L p.tol i).length∧IsL y N∧f=[(6,SV.ptr 6 0),(10,SV.ptr 10 0),(12,SV.c (.slice sa n sc)),(14,SV.ptr 14 0),(15,SV.ptr 15 0),(16,SV.c (.bool (sfound L p.tol i).isSome)),(17,SV.c (.int .i64 (i:Nat)))]∧m=[(9000,Blk.own y 9 1 N (cat strA (sbad L p.tol i))),(15,Blk.row 33 70 ((chOf (sfound L p.tol i)).A y)),(14,Blk.row 29 66 YA),(10,Blk.row 33 70 (chZero.A (.slice none 0 0))),(6,Blk.row 31 68 PA),(4000,Blk.own (.slice sa n sc) 40 72 n (cat QC.A L))],L.length,⟨_,_,⟨0,.slice none 0 0,0,by omega,by omega,rfl,.nil,rfl,rfl⟩,⟨rfl,rfl,rfl,rfl,rfl,rfl,rfl,trivial⟩,⟨.inr ⟨rfl,rfl,rfl⟩,congrArg (fun A=>some (Blk.row 33 70 A)) chZero_A.symm,rfl,congrArg (fun A=>some (Blk.row 33 70 A)) chZero_A.symm,rfl,.inl rfl,trivial⟩,rfl⟩,?_⟩
 rintro q f m ⟨i,y,N,rfl,hi,hN,hy,rfl,rfl⟩
 refine ⟨_,fun w' _=>run_len_sl Tryz.underlying22 w',fun h=>?_,fun h=>?_⟩
 ·have h:i < n:=by have:=of_decide_eq_true h;omega
  obtain ⟨z,hz⟩:∃ z,L[i]? = some z:=⟨_,List.getElem?_eq_getElem (by omega)⟩
  have hzL:=List.mem_of_getElem? hz
  have hNl:N≤i:=by rw [hN];exact hsb i
  obtain ⟨y0,hy0⟩:∃ z,L[0]? = some z:=⟨_,List.getElem?_eq_getElem (by omega)⟩
  have ec:curH L=y0.cur:=by
   unfold curH
   cases L with
   | nil=>cases hy0
   | cons z0 r=>simp at hy0;subst hy0;rfl
  rcases hs with ⟨hs1,hs2⟩ | ⟨g0,c0,hs1⟩
  ·omega
  cases hs1
  have L2:=cat_extract QC.size hz
  have j2:i*72+72≤(cat QC.A L).size:=by rw [Go.SX.cat_size QC.size];omega
  have L0:(cat QC.A L)[0+2]? = some (.string (S y0.cur)):=by
   have:=cat_get QC.size L 0 y0 2 hy0 (by omega)
   rw [y0.g2] at this
   simpa using this
  have K9:=hrs z hzL
  have Z0:=z.g0
  have Z2:=z.g2
  have Z3:=z.g3
  have ZP:=z.gpri
  have ZF:=z.fits
  have C0:=CH.g0 (chOf (sfound L p.tol i)) y
  have C4:=CH.g4 (chOf (sfound L p.tol i)) y
  have S4:=fun u=>CH.set4 (chOf (sfound L p.tol i)) y u
  obtain ⟨A1,A2,A3,T1,T2,T3,T4⟩:=CH.fill4 (chOf (sfound L p.tol i)) y z
  have PF:=z.price.A_fits
  generalize hC:(chOf (sfound L p.tol i)).A y=CA at *
  generalize hD:(chOf (some z)).A y=DA at *
  generalize hX:cat QC.A L=XA at *
  generalize hY:z.A=ZA at *
  refine ⟨by omega,by omega,.inr ⟨4000,g0,_,n,_,_,_,_,rfl,rfl,(by rw [off72];exact j2),ZA,(by rw [off72];exact L2),ZF,?_⟩⟩
  refine ⟨_,Z2,by decide,by omega,.inr ⟨4000,g0,_,n,_,_,_,_,rfl,rfl,_,L0,?_⟩⟩
  refine ⟨fun k1=>?_,fun k1=>?_⟩
  ·have k1:(!((S z.cur).toList == (S y0.cur).toList))=false:=k1
   rw [S_beq] at k1
   have k1:decide (z.cur=curH L)=true:=by rw [ec];simpa using k1
   refine ⟨by decide,_,ZP,by decide,_,G1,.inl ⟨_,K9,by kernel_rfl,fun k2=>?_,fun k2=>?_⟩⟩
   ·have k2:=bnot_t k2
    have hg:isGood (curH L) (yardQ L) p.tol z=false:=by unfold isGood;rw [k1,k2];rfl
    refine ⟨_,C4,_,Z0,.inl ⟨by decide,by decide,_,fill_str1 z.src,rfl,by decide,9000,N,_,.inl rfl,by decide,strA_one z.src,rfl,_,strA_ext z.src,?_⟩⟩
    obtain ⟨q,hq,hb⟩:=info_str
    refine ⟨by omega,by unfold maxLen;omega,⟨q,hq,by rw [hb];omega⟩,trivial,fun g2 cap2=>?_⟩
    refine ⟨by decide,rfl,_,S4 _,?_⟩
    exact ⟨L.length - (i+1),_,_,by omega,⟨i+1,_,N+1,rfl,by omega,by rw [sbad_bad hz hg,List.length_append,← hN];rfl,.some,rfl,rfl⟩,⟨rfl,rfl,rfl,rfl,rfl,(by rw [sfound_bad hz hg];rfl),c_int (i64_succ (by omega)),trivial⟩,⟨.inl (own_eq (by rw [sbad_bad hz hg,cat_append,cat_one])),congrArg (fun B=>some (Blk.row 33 70 ((chOf B).A _))) (sfound_bad hz hg).symm,rfl,rfl,rfl,.inl rfl,trivial⟩,rfl⟩
   ·have k2:=bnot_f k2
    have hg:isGood (curH L) (yardQ L) p.tol z=true:=by unfold isGood;rw [k1,k2];rfl
    have eb:=sbad_good hz hg
    have ef:=sfound_good hz hg
    refine ⟨fun k3=>?_,fun k3=>?_⟩
    ·have k3:=bnot_t k3
     have e0:sfound L p.tol i=none:=by
      cases e:sfound L p.tol i with
      | none=>rfl
      | some q=>rw [e] at k3;cases k3
     rw [e0] at ef
     refine ⟨_,Z0,_,Z2,_,Z3,by decide,_,ZP,by decide,rfl,A1,T1,by decide,rfl,A2,T2,by decide,rfl,A3,T3,by decide,PF,DA,T4,?_⟩
     exact ⟨by kernel_rfl,L.length - (i+1),_,_,by omega,⟨i+1,y,N,rfl,by omega,by rw [eb];exact hN,hy,rfl,rfl⟩,⟨rfl,rfl,rfl,rfl,rfl,(by rw [ef];rfl),c_int (i64_succ (by omega)),trivial⟩,⟨.inl (own_eq (by rw [eb])),(by rw [ef,← hD];rfl),rfl,rfl,rfl,.inl rfl,trivial⟩,rfl⟩
    ·have k3:=bnot_f k3
     have e0:sfound L p.tol (i+1)=sfound L p.tol i:=by
      rw [ef]
      obtain ⟨q,e⟩:=Option.isSome_iff_exists.1 k3
      rw [e];rfl
     exact ⟨L.length - (i+1),_,_,by omega,⟨i+1,y,N,rfl,by omega,by rw [eb];exact hN,hy,rfl,rfl⟩,⟨rfl,rfl,rfl,rfl,rfl,(by rw [e0];rfl),c_int (i64_succ (by omega)),trivial⟩,⟨.inl (own_eq (by rw [eb])),(by rw [e0,hC];rfl),rfl,rfl,rfl,.inl rfl,trivial⟩,rfl⟩
  ·have k1:(!((S z.cur).toList == (S y0.cur).toList))=true:=k1
   rw [S_beq] at k1
   have k1:decide (z.cur=curH L)=false:=by rw [ec];simpa using k1
   have hg:isGood (curH L) (yardQ L) p.tol z=false:=by unfold isGood;rw [k1];rfl
   refine ⟨by kernel_rfl,fun _=>?_,nofun⟩
   refine ⟨_,C4,_,Z0,.inl ⟨by decide,by decide,_,fill_str1 z.src,rfl,by decide,9000,N,_,.inl rfl,by decide,strA_one z.src,rfl,_,strA_ext z.src,?_⟩⟩
   obtain ⟨q,hq,hb⟩:=info_str
   refine ⟨by omega,by unfold maxLen;omega,⟨q,hq,by rw [hb];omega⟩,trivial,fun g2 cap2=>?_⟩
   refine ⟨by decide,rfl,_,S4 _,?_⟩
   exact ⟨L.length - (i+1),_,_,by omega,⟨i+1,_,N+1,rfl,by omega,by rw [sbad_bad hz hg,List.length_append,← hN];rfl,.some,rfl,rfl⟩,⟨rfl,rfl,rfl,rfl,rfl,(by rw [sfound_bad hz hg];rfl),c_int (i64_succ (by omega)),trivial⟩,⟨.inl (own_eq (by rw [sbad_bad hz hg,cat_append,cat_one])),congrArg (fun B=>some (Blk.row 33 70 ((chOf B).A _))) (sfound_bad hz hg).symm,rfl,rfl,rfl,.inl rfl,trivial⟩,rfl⟩
 ·have h:i=n:=by have:=of_decide_eq_false h;omega
  obtain rfl:i=L.length:=by omega
  have CF:Fits ((chOf (sfound L p.tol L.length)).A y) 70:=by obtain ⟨ya,yc,rfl⟩:=hy.len;exact CH.fits _
  generalize hC:(chOf (sfound L p.tol L.length)).A y=CA at *
  refine ⟨CF,[(9000,Blk.own y 9 1 N (cat strA (sbad L p.tol L.length)))],[],⟨y,N,hN,by rw [hC];rfl,hy,rfl⟩,⟨.inl rfl,trivial⟩,rfl⟩
def QC.beq (a b:QC):Bool:=decide (a.src=b.src) && (decide (a.ins=b.ins) && (decide (a.cur=b.cur) && ((a.day == b.day) && (a.price.beq b.price && ((a.known == b.known) && ((a.void == b.void) && true))))))
theorem eq_quote_raw {d:Nat} {a b:QC} (ha:a.price.In) (hb:b.price.In) (w:World):(Op.equalIn (d+1+1+1+1+1) 40 (.agg a.A) (.agg b.A)).run Tryz.prog w=.ok (a.beq b) w:=by
 rw [run_equalIn_struct w (d+1+1+1+1) 40 _ _ (by simp only [Program.fieldsOf,Tryz.underlying40]) (by kernel_rfl)]
 rw [show (Tryz.prog.fieldsOf 40).toList=[⟨ "Source",9,0,false,"","",0⟩,⟨ "Instrument",9,1,false,"","",16⟩,⟨ "Currency",9,2,false,"","",32⟩,⟨ "Day",3,3,false,"","",48⟩,⟨ "Price",29,4,false,"","",56⟩,⟨ "Known",3,70,false,"","",320⟩,⟨ "Void",4,71,false,"","",328⟩] from by simp only [Program.fieldsOf,Tryz.underlying40]]
 refine eqF_cons (by decide) (part_cell tok9 rfl a.g0 w) (part_cell tok9 rfl b.g0 w) (eq_str _ _ w) fun _=>?_
 refine eqF_cons (by decide) (part_cell tok9 rfl a.g1 w) (part_cell tok9 rfl b.g1 w) (eq_str _ _ w) fun _=>?_
 refine eqF_cons (by decide) (part_cell tok9 rfl a.g2 w) (part_cell tok9 rfl b.g2 w) (eq_str _ _ w) fun _=>?_
 refine eqF_cons (by decide) (part_cell tok3 rfl a.g3 w) (part_cell tok3 rfl b.g3 w) (eq_int64 _ Tryz.underlying3 _ _ w) fun _=>?_
 refine eqF_cons (a:=.agg a.price.A) (b:=.agg b.price.A) (by decide) ?_ ?_ (eq_ratio_raw ha hb w) fun _=>?_
 ·rw [part_agg tok29 rfl _ _ w];exact congrArg (fun x=>Result.ok (Value.agg x) w) a.gpri
 ·rw [part_agg tok29 rfl _ _ w];exact congrArg (fun x=>Result.ok (Value.agg x) w) b.gpri
 refine eqF_cons (by decide) (part_cell tok3 rfl a.g70 w) (part_cell tok3 rfl b.g70 w) (eq_int64 _ Tryz.underlying3 _ _ w) fun _=>?_
 refine eqF_cons (by decide) (part_cell tok4 rfl a.g71 w) (part_cell tok4 rfl b.g71 w) (run_equalIn_bool' w _ 4 _ _ Tryz.underlying4) fun _=>eqF_nil
theorem guard_quote:Tryz.prog.eqGuardType Tryz.prog.depth 40=false:=by kernel_rfl
theorem neq_quote {E:Env} (hE:E.P=Tryz.prog) {a b:QC} (ha:a.price.In) (hb:b.price.In) {u v:Operand}:Runs E (do eqGuard .neq 40 u v (.agg a.A) (.agg b.A);binOp .neq 40 (.agg a.A) (.agg b.A)) (.bool (!(a.beq b))) :=
 runs_neq (by rw [hE];exact guard_quote) fun w=>by rw [hE];exact eq_quote_raw ha hb w
theorem QC.beq_self (a:QC):a.beq a=true:=by simp [QC.beq,RQ.beq_self]
theorem neqs_quote {E:Env} (hE:E.P=Tryz.prog) {a:QC} (ha:a.price.In) {u v:Operand}:Runs E (do eqGuard .neq 40 u v (.agg a.A) (.agg a.A);binOp .neq 40 (.agg a.A) (.agg a.A)) (.bool false):=by
 have:=neq_quote hE ha ha (u:=u) (v:=v)
 rwa [QC.beq_self] at this
theorem texts_s {E:Env} (hE:E.P=Tryz.prog) {v v':Value} {xs:List (List UInt8)} (hv:Lst E v 1 xs.length (cat strA xs)) (hv':Lst E v' 1 xs.length (cat strA xs)) (hn:xs.length≤1000000000000):OwnC E 50 [SV.c v,SV.c v'] [] (fun x U=>x=.bool true∧U=[]):=by
 refine sx_ownC [] tt_ok mixed at50 E hE [SV.c v,SV.c v'] [] _ rfl rfl fun w X β hT=>?_
 obtain ⟨a,cap,rfl,hc,h4⟩:=(hv.of_old hT).shape
 obtain ⟨a',cap',rfl,hc',h4'⟩:=(hv'.of_old hT).shape
 refine ⟨_,fun w' _=>run_len_sl Tryz.underlying23 w',_,fun w' _=>run_len_sl Tryz.underlying23 w',fun h=>?_,fun _=>?_⟩
 ·have h:(((xs.length:Nat):Int) != ((xs.length:Nat):Int))=true:=h
  simp at h
 refine ⟨fun q f m=>∃ (i:Nat),q=xs.length - i∧i≤xs.length∧f=[(0,SV.c (.slice a xs.length cap)),(1,SV.c (.slice a' xs.length cap')),(5,SV.c (.int .i64 (i:Nat)))]∧m=[],xs.length,⟨_,_,⟨0,by omega,by omega,rfl,rfl⟩,⟨rfl,rfl,rfl,trivial⟩,trivial,rfl⟩,?_⟩
 rintro q f m ⟨i,rfl,hi,rfl,rfl⟩
 refine ⟨_,fun w' _=>run_len_sl Tryz.underlying23 w',fun h=>?_,fun h=>?_⟩
 ·have h:i < xs.length:=by have:=of_decide_eq_true h;omega
  obtain ⟨b,o,rfl,h5⟩:=h4 (by omega)
  obtain ⟨b',o',rfl,h5'⟩:=h4' (by omega)
  obtain ⟨y,hy⟩:∃ y,xs[i]? = some y:=⟨_,List.getElem?_eq_getElem h⟩
  have hE':VOk (envC Tryz.prog tt Tryz.f50.ntmps w X (tiedK [] β)):=tt_ok
  have L1:=lst_at hE' h5 strA_size hy (j:=0) (v:=.string (S y)) rfl (ty:=9) (ti:=ti9) rfl rfl (p:=offAt o ((i:Nat):Int) ti9.size) (off_one o i)
  have L2:=lst_at hE' h5' strA_size hy (j:=0) (v:=.string (S y)) rfl (ty:=9) (ti:=ti9) rfl rfl (p:=offAt o' ((i:Nat):Int) ti9.size) (off_one o' i)
  have e1:(!((S y).toList == (S y).toList))=false:=by simp
  refine ⟨by omega,by omega,.inl ⟨_,L1,by omega,by omega,.inl ⟨_,L2,by kernel_rfl,fun h=>absurd (e1.symm.trans h) (by decide),fun _=>?_⟩⟩⟩
  exact ⟨xs.length - (i+1),_,_,by omega,⟨i+1,rfl,by omega,rfl,rfl⟩,⟨rfl,rfl,c_int (i64_succ (by omega)),trivial⟩,trivial,rfl⟩
 ·have h:i=xs.length:=by have:=of_decide_eq_false h;omega
  subst h
  exact ⟨[],[],⟨rfl,rfl⟩,trivial,rfl⟩
theorem CH.g1 (h:CH) (v:Value):(h.A v)[1]? = some (.string (S h.cur)):=by kernel_rfl
theorem CH.g2 (h:CH) (v:Value):(h.A v)[2]? = some (.int .i64 h.day):=by kernel_rfl
theorem CH.g3 (h:CH) (v:Value):(h.A v).extract 3 (3+66)=h.price.A:=by
 have h2:h.price.A.size=66:=RQ.A_size _
 rw [CH.A,Array.extract_append]
 have e:(#[.string (S h.src),.string (S h.cur),.int .i64 h.day]:Array Value).size=3:=rfl
 rw [e,Array.extract_append,h2]
 have e2:h.price.A.extract (3 - 3) (3+66 - 3)=h.price.A:=by
  rw [show (3+66 - 3:Nat)=h.price.A.size by omega,Nat.sub_self,Array.extract_size]
 rw [e2]
 apply Array.ext'
 simp
theorem same_c {E:Env} (hE:E.P=Tryz.prog) {v v':Value} {h:CH} (hh:h.price.In) {xs:List (List UInt8)} (hv:Lst E v 1 xs.length (cat strA xs)) (hv':Lst E v' 1 xs.length (cat strA xs)) (hn:xs.length≤1000000000000):OwnC E 17 [SV.c (.agg (h.A v)),SV.c (.agg (h.A v'))] [] (fun x U=>x=.bool true∧U=[]):=by
 refine sx_ownC [] tt_ok mixed at17 E hE [SV.c (.agg (h.A v)),SV.c (.agg (h.A v'))] [] _ rfl rfl fun w X β hT=>?_
 have T1:=texts_s rfl (hv.of_old hT) (hv'.of_old hT) hn
 obtain ⟨a,cap,rfl,hc,h4⟩:=(hv.of_old hT).shape
 obtain ⟨a',cap',rfl,hc',h4'⟩:=(hv'.of_old hT).shape
 have F1:=h.size (.slice a xs.length cap)
 have F2:=h.size (.slice a' xs.length cap')
 have A0:=h.g0 (.slice a xs.length cap)
 have B0:=h.g0 (.slice a' xs.length cap')
 have A1:=h.g1 (.slice a xs.length cap)
 have B1:=h.g1 (.slice a' xs.length cap')
 have A2:=h.g2 (.slice a xs.length cap)
 have B2:=h.g2 (.slice a' xs.length cap')
 have A3:=h.g3 (.slice a xs.length cap)
 have B3:=h.g3 (.slice a' xs.length cap')
 have A4:=h.g4 (.slice a xs.length cap)
 have B4:=h.g4 (.slice a' xs.length cap')
 have N1:=fun u v=>eqs_ratio (E:=(envC Tryz.prog tt Tryz.f17.ntmps w X (tiedK [] β)).toEnv) rfl hh (u:=u) (v:=v)
 generalize h.A (.slice a xs.length cap)=HA at *
 generalize h.A (.slice a' xs.length cap')=HB at *
 have e1:∀ s:ByteArray,(s.toList == s.toList)=true:=fun s=>by simp
 have e2:∀ n:Int,(n == n)=true:=fun n=>by simp
 refine ⟨F1,F2,_,A0,_,B0,fun _=>?_,fun c=>absurd ((e1 _).symm.trans c) (by decide)⟩
 refine ⟨_,A1,_,B1,fun _=>?_,fun c=>absurd ((e1 _).symm.trans c) (by decide)⟩
 refine ⟨_,A2,_,B2,fun _=>?_,fun c=>absurd ((e2 _).symm.trans c) (by decide)⟩
 refine ⟨by decide,_,A3,by decide,_,B3,_,N1 _ _,fun _=>?_,fun c=>absurd c (by decide)⟩
 refine ⟨_,A4,_,B4,.inr (.inr (.inl ⟨[],[_,_],[],_,[],T1,rfl,trivial,rfl,rfl,?_⟩))⟩
 exact ⟨[],[],⟨rfl,rfl⟩,trivial,rfl⟩
def src4:List (List UInt8):=[[97],[98],[99],[100,52]]
theorem fill_src4:Instr.fill (fun k=>some (k*ti9.size,ti9.size)) (madeCells ti9.zero (4*ti9.size)) [(0,.string (S [97])),(1,.string (S [98])),(2,.string (S [99])),(3,.string (S [100,52]))]=some (cat strA src4):=by kernel_rfl
theorem sources_o (E0:Env) (hP:E0.P=Tryz.prog) (key:Key):Own E0 59 [] [] (SV.sl key 0 4 4) [(key,Blk.row 9 4 (cat strA src4))]:=by
 refine sx_newS tt_ok mixed at59 E0 hP [] 0 4 key 1 9 4 (cat strA src4) rfl rfl rfl fun w=>?_
 exact ⟨by decide,by decide,_,fill_src4,rfl,rfl,rfl⟩
def mq (s:List UInt8) (n known:Int):QC:=⟨s,[65,67,77,69],[85,83,68],9,(mkQ n 1).1,known,false⟩
theorem fill_mq (s:List UInt8) (r:RQ) (known:Int) {pl:List (Nat×Nat)} (hpl:pl=[(0,1),(1,1),(2,1),(3,1),(4,66),(70,1),(71,1)]):Instr.fill (fun k=>pl[k]?) ti40.zero [(0,.string (S s)),(1,.string (S [65,67,77,69])),(2,.string (S [85,83,68])),(3,.int .i64 9),(4,.agg r.A),(5,.int .i64 known)]=some (QC.A ⟨s,[65,67,77,69],[85,83,68],9,r,known,false⟩):=by
 subst hpl
 kernel_rfl
def bookQ (a b c:Int):List QC:=[mq [97] a 1,mq [98] b 2,mq [99] c 3]
theorem book_m {E:Env} (hE:E.P=Tryz.prog) {a b c:Int} (ha:0≤a∧a≤1000000) (hb:0≤b∧b≤1000000) (hc:0≤c∧c≤1000000):OwnC E 49 [SV.c (.int .i64 a),SV.c (.int .i64 b),SV.c (.int .i64 c)] [] (fun x U=>IsL x 3∧U=[(9200,Blk.own x 40 72 3 (cat QC.A (bookQ a b c)))]):=by
 refine sx_ownC [] tt_ok mixed at49 E hE [SV.c (.int .i64 a),SV.c (.int .i64 b),SV.c (.int .i64 c)] [] _ rfl rfl fun w X β hT=>?_
 refine .inr ⟨by decide,by decide,by decide,#[.int .i64 a,.int .i64 b,.int .i64 c],(by kernel_rfl),rfl,trivial,fun g=>?_⟩
 refine ⟨fun q f m=>∃ (i:Nat) (y:Value),q=3 - i∧i≤3∧IsL y i∧f=[(7,SV.c y),(8,SV.c (.slice (some ⟨g,0,none⟩) 3 3)),(9,SV.c (.int .i64 (i:Nat)))]∧m=[(9200,Blk.own y 40 72 i (cat QC.A ((bookQ a b c).take i))),(13,Blk.own (.slice (some ⟨g,0,none⟩) 3 3) 3 1 3 #[.int .i64 a,.int .i64 b,.int .i64 c])],3,⟨_,_,⟨0,.slice none 0 0,rfl,by omega,.nil,rfl,rfl⟩,⟨rfl,rfl,rfl,trivial⟩,⟨.inr ⟨rfl,rfl,rfl⟩,.inl rfl,trivial⟩,rfl⟩,?_⟩
 rintro q f m ⟨i,y,rfl,hi,hy,rfl,rfl⟩
 refine ⟨fun h=>?_,fun h=>?_⟩
 ·have h:i < 3:=by have:=of_decide_eq_true h;omega
  obtain ⟨sr,n,hs,hn,hn2,hq⟩:∃ (sr:List UInt8) (n:Int),src4[i]? = some sr∧(0≤n∧n≤1000000)∧(#[Value.int .i64 a,.int .i64 b,.int .i64 c]:Array Value)[i]? = some (.int .i64 n)∧(bookQ a b c)[i]? = some (mq sr n ((i+1:Nat):Int)):=by
   rcases (by omega:i=0∨i=1∨i=2) with rfl | rfl | rfl
   ·exact ⟨_,_,rfl,ha,rfl,rfl⟩
   ·exact ⟨_,_,rfl,hb,rfl,rfl⟩
   ·exact ⟨_,_,rfl,hc,rfl,rfl⟩
  have S1:=sources_o (envC Tryz.prog tt Tryz.f49.ntmps w X (tiedK [] β)).toEnv rfl 9100
  have O1:=made_of (n:=n) (d:=1) (by omega) (by omega) (by decide) (by decide)
  refine .inr (.inl ⟨[],_,_,S1,trivial,rfl,?_⟩)
  have g1:(cat strA src4)[i]? = some (.string (S sr)):=by
   have:=cat_get strA_size src4 i sr 0 hs (by decide)
   simpa [strA] using this
  have eK:IntKind.i64.wrap ((i:Int)+1)=((i+1:Nat):Int):=i64_succ (by omega)
  have M1:=fill_mq sr (mkQ n 1).1 ((i+1:Nat):Int) (pl:=[(0,1),(1,1),(2,1),(3,1),(4,66),(70,1),(71,1)]) rfl
  rw [← eK] at M1
  have hz:(⟨sr,[65,67,77,69],[85,83,68],9,(mkQ n 1).1,IntKind.i64.wrap ((i:Int)+1),false⟩:QC)=mq sr n ((i+1:Nat):Int):=by rw [eK];rfl
  rw [hz] at M1
  generalize mq sr n ((i+1:Nat):Int)=z at *
  have F1:=fill_quo1 z
  have F2:=z.fits.one
  have F3:=z.ext72
  have F4:z.A.size=1*72:=z.size
  have F5:cat QC.A ((bookQ a b c).take i)++z.A=cat QC.A ((bookQ a b c).take (i+1)):=by rw [List.take_add_one,hq,cat_append];simp [cat_one]
  generalize hY:z.A=ZA at *
  generalize hX:cat strA src4=XA at *
  refine ⟨by omega,by omega,_,(by rw [off_one 0 i];simpa using g1),?_⟩
  refine ⟨by omega,by omega,.inr ⟨13,g,_,3,_,_,_,_,rfl,rfl,_,(by rw [off1];exact hn2),.inl ⟨_,O1,ZA,M1,?_⟩⟩⟩
  refine .inl ⟨by decide,by decide,_,F1,F4,by decide,9200,i,_,.inl rfl,by decide,F2,F4,_,F3,?_⟩
  obtain ⟨q,hqq,hb⟩:=info_quo
  refine ⟨by omega,by unfold maxLen;omega,⟨q,hqq,by rw [hb];omega⟩,(by change _=true;kernel_rfl),fun g2 cap2=>?_⟩
  exact ⟨by kernel_rfl,3 - (i+1),_,_,by omega,⟨i+1,_,rfl,by omega,.some,rfl,rfl⟩,⟨rfl,rfl,c_int (i64_succ (by omega)),trivial⟩,⟨.inl (own_eq F5),.inl rfl,trivial⟩,rfl⟩
 ·have h:i=3:=by have:=of_decide_eq_false h;omega
  subst h
  exact ⟨[(9200,Blk.own y 40 72 3 (cat QC.A (bookQ a b c)))],[],⟨hy,rfl⟩,⟨.inl rfl,trivial⟩,rfl⟩
def acme:List UInt8:=[65,67,77,69]
def pK:PL:=⟨[[97],[98],[99]],(mkQ 3 100).1,2⟩
theorem kn1:selE (bookQ 100 101 120) 9 pK acme 10=0∧(selCh (cands (bookQ 100 101 120) 9 pK acme 10) pK.tol).src=[97]∧selBad (cands (bookQ 100 101 120) 9 pK acme 10) pK.tol=[[99]]:=by
 refine ⟨by kernel_rfl,by kernel_rfl,by kernel_rfl⟩
theorem kn2:selE (bookQ 90 101 120) 9 pK acme 9=0∧(selCh (cands (bookQ 90 101 120) 9 pK acme 9) pK.tol).src=[98]∧selBad (cands (bookQ 90 101 120) 9 pK acme 9) pK.tol=[[97],[99]]:=by
 refine ⟨by kernel_rfl,by kernel_rfl,by kernel_rfl⟩
theorem kn3:selE (bookQ 90 101 120) 9 pK acme 12=151:=by kernel_rfl
def SelO (x y:Value) (nx ny:Nat) (xs:List QC) (srcs:List (List UInt8)) (Q:Value→MemL→Prop) (r:Value) (U:MemL):Prop:=∃ U0,Q r U0∧U=(9200,Blk.own x 40 72 nx (cat QC.A xs)) :: (9101,Blk.own y 9 1 ny (cat strA srcs)) :: U0
theorem read2 {E:Env} {f:FuncId} {sv:List SV} {x y:Value} {xs:List QC} {srcs:List (List UInt8)} {nx ny:Nat} (hx:nx=xs.length) (hy:ny=srcs.length) (hent:Go.SX.Enters E.P f) {Q:Value→MemL→Prop} (hQ:∀ r U,Q r U→getM U 9200=none∧getM U 9101=none)
    (h:∀ E0:Env,E0.P=E.P→(∀ w,OldW E0 w→OldW E w)→Lst E0 x 72 xs.length (cat QC.A xs)→Lst E0 y 1 srcs.length (cat strA srcs)→OwnC E0 f sv [] Q):OwnC E f sv [(9200,Blk.own x 40 72 nx (cat QC.A xs)),(9101,Blk.own y 9 1 ny (cat strA srcs))] (SelO x y nx ny xs srcs Q):=by
 subst hx hy
 have h2:∀ E0:Env,E0.P=E.P→(∀ w,OldW E0 w→OldW E w)→Lst E0 x 72 xs.length (cat QC.A xs)→OwnC E0 f sv [(9101,Blk.own y 9 1 srcs.length (cat strA srcs))] (fun r U=>∃ U0,Q r U0∧U=(9101,Blk.own y 9 1 srcs.length (cat strA srcs)) :: U0):=fun E0 h0 ho hl =>
  OwnC.with_own2 (k:=9101) (v:=y) (e:=9) (sz:=1) (n:=srcs.length) (A:=cat strA srcs) (pre:=[]) (Q:=Q) rfl rfl (Go.SX.cat_all strA_one srcs) (by rw [h0];exact hent) (fun E1 h1 ho1 hl1=>h E1 (h1.trans h0) (fun w hw=>ho w (ho1 w hw)) (hl.of_old ho1) hl1) (fun r U hq=>(hQ r U hq).2)
 refine (OwnC.with_own2 (k:=9200) (v:=x) (e:=40) (sz:=72) (n:=xs.length) (A:=cat QC.A xs) rfl rfl (Go.SX.cat_all QC.all1 xs) hent h2 (fun r U ⟨U0,hq,hU⟩=>by rw [hU];exact (hQ r U0 hq).1)).mono ?_
 rintro r U ⟨U1,⟨U0,h1,rfl⟩,rfl⟩
 exact ⟨U0,h1,rfl⟩
theorem select_own {E:Env} (hE:E.P=Tryz.prog) {x y:Value} {xs:List QC} {p:PL} {nx ny:Nat} (hx:nx=xs.length) (hy:ny=p.srcs.length) (hn:nx≤1000000000000) (hm:ny≤1000000000000000) (hin:∀ y∈xs,y.In) (hpin:p.In) (k:Int) (ins:List UInt8) (day:Int):OwnC E 10 [SV.c x,SV.c (.agg (p.A y)),SV.c (.int .i64 k),SV.c (.string (S ins)),SV.c (.int .i64 day)] [(9200,Blk.own x 40 72 nx (cat QC.A xs)),(9101,Blk.own y 9 1 ny (cat strA p.srcs))] (SelO x y nx ny xs p.srcs (SelQ xs k p ins day)) :=
 read2 hx hy (by rw [hE];exact at10.enters) (fun r U ⟨s,n,_,_,_,hU⟩=>by rw [hU];exact ⟨rfl,rfl⟩) fun E0 h0 _ hl1 hl2=>select_q (h0.trans hE) hl1 (by omega) hin hl2 (by omega) hpin ins day
theorem bookQ_in (a b c:Int):∀ y∈bookQ a b c,y.In:=by
 intro y hy
 have:∀ (s:List UInt8) (n k:Int),s.length≤10→(mq s n k).In:=fun s n k hs=>⟨mkQ_in _ _,by show s.length≤_;omega,by show (4:Nat)≤_;decide,by show (3:Nat)≤_;decide,by show (-9223372036854775808:Int)≤9∧(9:Int)≤9223372036854775807;decide⟩
 unfold bookQ at hy
 simp only [List.mem_cons,List.not_mem_nil,or_false] at hy
 rcases hy with rfl | rfl | rfl
 ·exact this _ _ _ (by decide)
 ·exact this _ _ _ (by decide)
 ·exact this _ _ _ (by decide)
theorem pK_in:pK.In:=⟨mkQ_in _ _,by decide,by decide⟩
theorem fill_src3:Instr.fill (fun k=>some (k*ti9.size,ti9.size)) (madeCells ti9.zero (3*ti9.size)) [(0,.string (S [97])),(1,.string (S [98])),(2,.string (S [99]))]=some (cat strA pK.srcs):=by kernel_rfl
theorem fill_pol (a:Option Addr) (m c:Nat) (r:RQ) (n:Int) (l:List (List UInt8)) {pl:List (Nat×Nat)} (hpl:pl=[(0,1),(1,66),(67,1)]):Instr.fill (fun k=>pl[k]?) ti31.zero [(0,.slice a m c),(1,.agg r.A),(2,.int .i64 n)]=some (PL.A ⟨l,r,n⟩ (.slice a m c)):=by
 subst hpl
 have:=fill_all (pl:=fun k=>[(0,1),(1,66),(67,1)][k]?) (vs:=[.slice a m c,.agg r.A,.int .i64 n]) (Z:=ti31.zero) ⟨by simp [Value.cells],by simp [Value.cells,r.A_size],by simp [Value.cells,r.A_size],trivial⟩ (by simp [catV,Value.cells,r.A_size];rfl)
 rw [show catV [.slice a m c,.agg r.A,.int .i64 n]=PL.A ⟨l,r,n⟩ (.slice a m c) by simp [catV,Value.cells,PL.A]] at this
 exact this
theorem texts_own {E:Env} (hE:E.P=Tryz.prog) {x y:Value} {xs:List (List UInt8)} {n m:Nat} (hn:n=xs.length) (hm:m=xs.length) (hb:n≤1000000000000):OwnC E 50 [SV.c x,SV.c y] [(9000,Blk.own x 9 1 n (cat strA xs)),(9001,Blk.own y 9 1 m (cat strA xs))] (fun r U=>r=.bool true∧U=[(9000,Blk.own x 9 1 n (cat strA xs)),(9001,Blk.own y 9 1 m (cat strA xs))]):=by
 subst hn hm
 have hc:=Go.SX.cat_all strA_one xs
 have h2:∀ E0:Env,E0.P=E.P→(∀ w,OldW E0 w→OldW E w)→Lst E0 x 1 xs.length (cat strA xs)→OwnC E0 50 [SV.c x,SV.c y] [(9001,Blk.own y 9 1 xs.length (cat strA xs))] (fun r U=>r=.bool true∧U=[(9001,Blk.own y 9 1 xs.length (cat strA xs))]):=fun E0 h0 ho hl=>by
  refine (OwnC.with_own2 (k:=9001) (v:=y) (e:=9) (sz:=1) (n:=xs.length) (A:=cat strA xs) (pre:=[]) (Q:=fun r U=>r=.bool true∧U=[]) rfl rfl hc (by rw [h0,hE];exact at50.enters) (fun E1 h1 ho1 hl1=>texts_s ((h1.trans h0).trans hE) (hl.of_old ho1) hl1 hb) (fun x U h=>by rw [h.2];rfl)).mono ?_
  rintro y U ⟨U0,⟨h1,h2⟩,h3⟩
  exact ⟨h1,by rw [h3,h2]⟩
 refine (OwnC.with_own2 (k:=9000) (v:=x) (e:=9) (sz:=1) (n:=xs.length) (A:=cat strA xs) rfl rfl hc (by rw [hE];exact at50.enters) h2 (fun x U h=>by rw [h.2];rfl)).mono ?_
 rintro y U ⟨U0,⟨h1,h2⟩,h3⟩
 exact ⟨h1,by rw [h3,h2]⟩
theorem s_self (l:List UInt8):((S l).toList == (S l).toList)=true:=by simp
theorem fill_c:Instr.fill (fun k=>some (k*ti9.size,ti9.size)) (madeCells ti9.zero (1*ti9.size)) [(0,.string (S [99]))]=some (cat strA [[99]]):=by kernel_rfl
theorem fill_ac:Instr.fill (fun k=>some (k*ti9.size,ti9.size)) (madeCells ti9.zero (2*ti9.size)) [(0,.string (S [97])),(1,.string (S [99]))]=some (cat strA [[97],[99]]):=by kernel_rfl
theorem known_o {E:Env} (hE:E.P=Tryz.prog):OwnC E 14 [] [] (fun x U=>x=.bool true∧U=[]):=by
 refine sx_ownCP [(2,[1,6,0,2,3,4,5,7,8],[2,0,3,4,5,6,1,7,8]),(3,[1,6,0,2,3,4,5,7,8],[2,0,3,4,5,6,1,7,8]),(4,[1,6,0,2,3,4,5,7,8],[2,0,3,4,5,6,1,7,8])] [] tt_ok mixed at14 E hE [] [] _ rfl rfl fun w X β hT=>?_
 have O1:=made_of (n:=3) (d:=100) (by decide) (by decide) (by decide) (by decide)
 refine .inr ⟨by decide,by decide,by decide,_,fill_src3,rfl,trivial,fun g=>.inl ⟨_,O1,pK.A (.slice (some ⟨g,0,none⟩) 3 3),fill_pol (some ⟨g,0,none⟩) 3 3 (mkQ 3 100).1 2 pK.srcs rfl,?_⟩⟩
 have S1:=fun (E0:Env) (h0:E0.P=Tryz.prog) (x:Value) (a b c:Int) (day:Int)=>select_own (E:=E0) h0 (x:=x) (y:=.slice (some ⟨g,0,none⟩) 3 3) (xs:=bookQ a b c) (p:=pK) (nx:=3) (ny:=3) rfl rfl (by decide) (by decide) (bookQ_in a b c) pK_in 9 acme day
 have PF:=pK.fits (v:=.slice (some ⟨g,0,none⟩) 3 3) rfl
 generalize pK.A (.slice (some ⟨g,0,none⟩) 3 3)=PA at *
 have B1:=book_m (E:=(envC Tryz.prog tt Tryz.f14.ntmps w X (tiedK [] β)).toEnv) rfl (a:=100) (b:=101) (c:=120) (by decide) (by decide) (by decide)
 have B2:=book_m (E:=(envC Tryz.prog tt Tryz.f14.ntmps w X (tiedK [] β)).toEnv) rfl (a:=90) (b:=101) (c:=120) (by decide) (by decide) (by decide)
 refine ⟨PF,by kernel_rfl,?_⟩
 refine .inr (.inr (.inr ⟨[],[9200],[_,_,_],[],_,B1,rfl,trivial,rfl,(by change _=true;kernel_rfl),?_⟩))
 rintro x1 U ⟨hx1,rfl⟩
 refine ⟨rfl,?_⟩
 obtain ⟨xa1,xc1,rfl⟩:=hx1.len
 refine .inr (.inr (.inr ⟨[(9101,8)],[9000],[_,_,_,_,_],[_,_],_,S1 _ rfl (.slice xa1 3 xc1) 100 101 120 10,rfl,⟨.inl rfl,.inl rfl,trivial⟩,rfl,(by change _=true;kernel_rfl),?_⟩))
 rintro r1 U1 ⟨U0,⟨s1,n1,hn1,rfl,hs1,rfl⟩,rfl⟩
 refine ⟨rfl,?_⟩
 obtain ⟨e1,e2,e3⟩:=kn1
 rw [e3] at hn1 ⊢
 rw [e1]
 obtain ⟨sa1,sc1,rfl⟩:=hs1.len
 have CF1:=(selCh (cands (bookQ 100 101 120) 9 pK acme 10) pK.tol).fits (a:=sa1) (n:=n1) (c:=sc1)
 have C10:=(selCh (cands (bookQ 100 101 120) 9 pK acme 10) pK.tol).g0 (.slice sa1 n1 sc1)
 have C14:=(selCh (cands (bookQ 100 101 120) 9 pK acme 10) pK.tol).g4 (.slice sa1 n1 sc1)
 rw [e2] at C10
 generalize (selCh (cands (bookQ 100 101 120) 9 pK acme 10) pK.tol).A (.slice sa1 n1 sc1)=CA1 at *
 clear e1 e2 e3 B1
 refine ⟨CF1,by kernel_rfl,by kernel_rfl,?_⟩
 refine .inr (.inr (.inr ⟨[(9200,9210)],[9210],[_,_,_],[],_,B2,rfl,trivial,rfl,(by change _=true;kernel_rfl),?_⟩))
 rintro x2 U ⟨hx2,rfl⟩
 refine ⟨rfl,?_⟩
 obtain ⟨xa2,xc2,rfl⟩:=hx2.len
 refine .inr (.inr (.inr ⟨[(9200,9210),(9101,8),(9000,9010)],[9010],[_,_,_,_,_],[_,_],_,S1 _ rfl (.slice xa2 3 xc2) 90 101 120 9,rfl,⟨.inl rfl,.inl rfl,trivial⟩,rfl,(by change _=true;kernel_rfl),?_⟩))
 rintro r2 U2 ⟨U0,⟨s2,n2,hn2,rfl,hs2,rfl⟩,rfl⟩
 refine ⟨rfl,?_⟩
 obtain ⟨e1,e2,e3⟩:=kn2
 rw [e3] at hn2 ⊢
 rw [e1]
 obtain ⟨sa2,sc2,rfl⟩:=hs2.len
 have CF2:=(selCh (cands (bookQ 90 101 120) 9 pK acme 9) pK.tol).fits (a:=sa2) (n:=n2) (c:=sc2)
 have C20:=(selCh (cands (bookQ 90 101 120) 9 pK acme 9) pK.tol).g0 (.slice sa2 n2 sc2)
 have C24:=(selCh (cands (bookQ 90 101 120) 9 pK acme 9) pK.tol).g4 (.slice sa2 n2 sc2)
 rw [e2] at C20
 generalize (selCh (cands (bookQ 90 101 120) 9 pK acme 9) pK.tol).A (.slice sa2 n2 sc2)=CA2 at *
 clear e1 e2 e3
 refine ⟨CF2,by kernel_rfl,by kernel_rfl,?_⟩
 refine .inr (.inr (.inr ⟨[(9200,9220)],[9220],[_,_,_],[],_,B2,rfl,trivial,rfl,(by change _=true;kernel_rfl),?_⟩))
 rintro x3 U ⟨hx3,rfl⟩
 refine ⟨rfl,?_⟩
 obtain ⟨xa3,xc3,rfl⟩:=hx3.len
 refine .inr (.inr (.inr ⟨[(9200,9220),(9101,8),(9000,9020)],[9020],[_,_,_,_,_],[_,_],_,S1 _ rfl (.slice xa3 3 xc3) 90 101 120 12,rfl,⟨.inl rfl,.inl rfl,trivial⟩,rfl,(by change _=true;kernel_rfl),?_⟩))
 rintro r3 U3 ⟨U0,⟨s3,n3,hn3,rfl,hs3,rfl⟩,rfl⟩
 refine ⟨rfl,?_⟩
 rw [kn3]
 obtain ⟨sa3,sc3,rfl⟩:=hs3.len
 have CF3:=(selCh (cands (bookQ 90 101 120) 9 pK acme 12) pK.tol).fits (a:=sa3) (n:=n3) (c:=sc3)
 generalize (selCh (cands (bookQ 90 101 120) 9 pK acme 12) pK.tol).A (.slice sa3 n3 sc3)=CA3 at *
 refine ⟨CF3,by kernel_rfl,?_⟩
 have T1:=fun (E0:Env) (h0:E0.P=Tryz.prog) (y:Value)=>texts_own (E:=E0) h0 (x:=.slice sa1 n1 sc1) (y:=y) (xs:=[[99]]) (n:=n1) (m:=1) hn1 rfl (by rw [hn1];decide)
 have T2:=fun (E0:Env) (h0:E0.P=Tryz.prog) (y:Value)=>texts_own (E:=E0) h0 (x:=.slice sa2 n2 sc2) (y:=y) (xs:=[[97],[99]]) (n:=n2) (m:=2) hn2 rfl (by rw [hn2];decide)
 refine ⟨fun _=>?_,fun h=>absurd h (by decide)⟩
 refine ⟨_,C10,fun _=>?_,fun h=>absurd ((s_self [97]).symm.trans h) (by decide)⟩
 refine ⟨_,C14,.inr ⟨by decide,by decide,by decide,_,fill_c,rfl,trivial,fun g1=>?_⟩⟩
 refine .inr (.inr (.inl ⟨[(9001,39)],[_,_],[_,_],_,[_,_],T1 _ rfl (.slice (some ⟨g1,0,none⟩) 1 1),rfl,⟨.inl rfl,.inl rfl,trivial⟩,rfl,rfl,fun _=>?_,fun h=>absurd h (by decide)⟩))
 refine ⟨fun _=>?_,fun h=>absurd h (by decide)⟩
 refine ⟨_,C20,fun _=>?_,fun h=>absurd ((s_self [98]).symm.trans h) (by decide)⟩
 refine ⟨_,C24,.inr ⟨by decide,by decide,by decide,_,fill_ac,rfl,trivial,fun g2=>?_⟩⟩
 refine .inr (.inr (.inl ⟨[(9000,9010),(9001,54)],[_,_],[_,_],_,[_,_],T2 _ rfl (.slice (some ⟨g2,0,none⟩) 2 2),rfl,⟨.inl rfl,.inl rfl,trivial⟩,rfl,rfl,fun _=>?_,fun h=>absurd h (by decide)⟩))
 exact ⟨[],[],⟨rfl,rfl⟩,trivial,rfl⟩
theorem known_f:Pure Tryz.prog 14 [] (.bool true):=pure_of (vs:=[]) at14.enters fun _w=>known_o rfl
end Go.Proofs.YtinojijgeabfnaaGreatDoor
