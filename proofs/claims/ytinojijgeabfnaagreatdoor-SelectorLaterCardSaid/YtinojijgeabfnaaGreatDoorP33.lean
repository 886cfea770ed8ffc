/- the law SelectorSingle: plain laws and walk. the lower middle of a list: plain law. the law SelectorMiddle: plain laws; no condition. -/
import Derived.Test.YtinojijgeabfnaaGreatDoorP32
set_option maxRecDepth 100000
set_option maxHeartbeats 4000000
namespace Go.Proofs.YtinojijgeabfnaaGreatDoor
open Go Go.RowKit Go.SX
theorem near_self {y t:RQ} (hy:payOk y=true) (ht:pctB t=true) (hb:betQ t 0 1=true):nearQ y y t=true:=by
 obtain ⟨y1,y2⟩:=pay_bd hy
 obtain ⟨t0,t1,t2⟩:=tol_bd ht hb
 obtain ⟨p1,p2,-,-⟩:=pay_ok hy
 have tp0:=(pctB_ok ht).2
 obtain ⟨u,e1,e2,e5,e3,e4⟩:=sumQ_val true p1 p1 y2 y1 y2 y1 (by decide +kernel) (by decide +kernel)
 obtain ⟨v,f1,f2,f5,f3,f4⟩:=mulQ_val t0 p1 t2 t1 y2 y1 (by decide +kernel) (by decide +kernel)
 obtain ⟨-,-,g3,-,-⟩:=RQ.ok_bits e2
 obtain ⟨-,-,v3,-,-⟩:=RQ.ok_bits f2
 obtain ⟨-,-,y3,-,-⟩:=RQ.ok_bits p1
 obtain ⟨-,-,t3,-,-⟩:=RQ.ok_bits t0
 have u0:u.p=0:=by
  have h:u.p*(y.q*y.q)=0:=by
   rw [e5]
   show (y.p*y.q + -(y.p*y.q))*u.q=0
   rw [Int.add_right_neg,Int.zero_mul]
  rcases Int.mul_eq_zero.1 h with h | h
  ·exact h
  ·have:=Int.mul_pos y3 y3;omega
 have v0:0≤v.p:=by
  have h:0≤v.p*(t.q*y.q):=by rw [f5];exact Int.mul_nonneg (Int.mul_nonneg tp0 p2) (by omega)
  rcases Int.lt_or_le v.p 0 with h9 | h9
  ·have:=Int.mul_neg_of_neg_of_pos h9 (Int.mul_pos t3 y3);omega
  ·exact h9
 have ha:(absQ u).1=.of (u.p.natAbs:Int) u.q:=by unfold absQ;rw [if_pos e2]
 unfold nearQ
 rw [e1,f1]
 dsimp only
 rw [ha,RQ.of_p,RQ.of_q,u0,cmpI_le]
 apply decide_eq_true
 have:=Int.mul_nonneg v0 (show 0≤u.q by omega)
 simpa using this
theorem book_chk {day last:Int} {xs:List QC} (h:IsBook day last xs) (hl:last≤100000) (hn:xs.length≤4096):chkQ xs=0:=by
 refine chk_book (fun q hq=>?_) hn h.up
 obtain ⟨dd,kn,h1,h2,h3,h4⟩:=h.each q hq
 have hk:=h.bd q hq
 refine quote_valid h1 ?_ (by rw [← h1.2.2.2.2.1];exact hk.1) (by rw [← h1.2.2.2.2.1];omega)
 rcases h1.2.2.2.1.2 with h5 | h5<;>omega
theorem fold_keep {src ins:List UInt8} {day stale d0:Int}:∀ {l:List QC} {b:QC},b.day=d0→(∀ z∈l,z.src=src→z.ins=ins→z.day≤day→day - stale≤z.day→z.day≤d0)→l.foldl (candStep src ins day stale) (some b)=some b
 | [],_,_,_=>rfl
 | z :: r,b,hb,h=>by
  have:candStep src ins day stale (some b) z=some b:=by
   unfold candStep newer
   rw [if_neg]
   intro hc
   simp only [Bool.and_eq_true,decide_eq_true_eq] at hc
   have:=h z (by simp) hc.1 hc.2.1 hc.2.2.1 hc.2.2.2.1
   omega
  rw [List.foldl_cons,this]
  exact fold_keep hb fun z hz=>h z (by simp [hz])
theorem fold_find {src ins:List UInt8} {day stale d0:Int} (h1:d0≤day) (h2:day - stale≤d0):∀ {l:List QC} {o:Option QC} {q:QC},(∀ b,o=some b→b.day < d0)→(∀ z∈l,z.src=src→z.ins=ins→z.day≤day→day - stale≤z.day→z.day≤d0)→l.find? (atF src ins d0)=some q→l.foldl (candStep src ins day stale) o=some q
 | [],_,_,_,_,h=>by simp at h
 | z :: r,o,q,ho,h,hf=>by
  rw [List.find?_cons] at hf
  rw [List.foldl_cons]
  cases e:atF src ins d0 z with
  | true =>
   rw [e] at hf
   cases hf
   unfold atF at e
   simp only [Bool.and_eq_true,decide_eq_true_eq] at e
   have:candStep src ins day stale o z=some z:=by
    unfold candStep newer
    rw [if_pos]
    simp only [Bool.and_eq_true,decide_eq_true_eq]
    refine ⟨e.1,e.2.1,by omega,by omega,?_⟩
    cases o with
    | none=>rfl
    | some b=>have:=ho b rfl;simp;omega
   rw [this]
   exact fold_keep e.2.2 fun z hz=>h z (by simp [hz])
  | false =>
   rw [e] at hf
   refine fold_find h1 h2 (fun b hb=>?_) (fun z hz=>h z (by simp [hz])) hf
   unfold candStep at hb
   split at hb
   ·rename_i hc
    cases hb
    simp only [Bool.and_eq_true,decide_eq_true_eq] at hc
    have h3:=h z (by simp) hc.1 hc.2.1 hc.2.2.1 hc.2.2.2.1
    unfold atF at e
    rw [decide_eq_true hc.1,decide_eq_true hc.2.1] at e
    simp at e
    omega
   ·exact ho b hb
def oneP (stale:Int):PL:=⟨[[98]],(mkQ 0 1).1,stale⟩
theorem oneP_ok {stale:Int} (h1:0≤stale) (h2:stale≤5):polOk (oneP stale)=true:=by
 rcases (by omega:stale=0∨stale=1∨stale=2∨stale=3∨stale=4∨stale=5) with rfl | rfl | rfl | rfl | rfl | rfl<;>kernel_rfl
theorem one_c0 {xs:List QC} {k stale:Int} (hc:chkQ xs=0) (h1:0≤stale) (h2:stale≤5):candC xs k (oneP stale) 9497=0:=by
 unfold candC
 rw [if_neg (by rw [hc];simp),if_pos (oneP_ok h1 h2),if_neg (by omega)]
theorem one_none {xs:List QC} {k stale:Int} (hc:chkQ xs=0) (h1:0≤stale) (h2:stale≤5) (hn:∀ d:Int,9497 - stale≤d→d≤9497→atO xs k [98] acme d=none):cands xs k (oneP stale) acme 9497=[]:=by
 unfold cands
 rw [if_pos (one_c0 hc h1 h2)]
 unfold candL
 show [[98]].filterMap (candOf acme 9497 stale (visQs xs k))=[]
 cases e:candOf acme 9497 stale (visQs xs k) [98] with
 | none=>rw [List.filterMap_cons,e];rfl
 | some q =>
  obtain ⟨g1,g2,g3,g4,g5⟩:=candOf_spec e
  have:=hn q.day g5 g4
  unfold atO at this
  rw [List.find?_eq_none] at this
  exact absurd (show atF [98] acme q.day q=true by unfold atF;simp [g2,g3]) (this q g1)
theorem one_some {xs:List QC} {k stale d:Int} {q:QC} (hc:chkQ xs=0) (h1:0≤stale) (h2:stale≤5) (d1:9497 - stale≤d) (d2:d≤9497) (hn:∀ d':Int,d < d'→d'≤9497→atO xs k [98] acme d'=none) (hq:atO xs k [98] acme d=some q):cands xs k (oneP stale) acme 9497=[q]:=by
 unfold cands
 rw [if_pos (one_c0 hc h1 h2)]
 unfold candL
 show [[98]].filterMap (candOf acme 9497 stale (visQs xs k))=[q]
 have e:candOf acme 9497 stale (visQs xs k) [98]=some q:=by
  unfold candOf
  refine fold_find (d0:=d) d2 d1 (fun b hb=>by cases hb) (fun z hz z1 z2 z3 z4=>?_) hq
  rcases Int.lt_or_le d z.day with h | h
  ·have:=hn z.day h z3
   unfold atO at this
   rw [List.find?_eq_none] at this
   exact absurd (show atF [98] acme z.day z=true by unfold atF;simp [z1,z2]) (this z hz)
  ·exact h
 rw [List.filterMap_cons,e];rfl
theorem one_ch {q:QC} (hp:payOk q.price=true):selCh [q] (mkQ 0 1).1=chOf (some q)∧selBad [q] (mkQ 0 1).1=[]:=by
 have hy:yardQ [q]=q.price:=by
  unfold yardQ cmpbl curH
  simp [sortR,insR,midR]
 have hg:isGood (curH [q]) (yardQ [q]) (mkQ 0 1).1 q=true:=by
  rw [hy]
  unfold isGood curH
  rw [near_self hp (by kernel_rfl) (by kernel_rfl)]
  simp
 unfold selCh selBad
 generalize yardQ [q]=Y at *
 generalize curH [q]=C at *
 simp [hg]
theorem at_facts {xs:List QC} {k d:Int} {q:QC} (h:atO xs k [98] acme d=some q):payOk q.price=true∧q.src=[98]∧q.day=d∧q∈xs:=by
 unfold atO at h
 have hm:=visQs_mem (List.mem_of_find?_eq_some h)
 have hf:=List.find?_some h
 unfold atF at hf
 simp only [Bool.and_eq_true,decide_eq_true_eq] at hf
 exact ⟨(right_price hm.2.1 hm.2.2).1,hf.1,hf.2.2,hm.1⟩
theorem oneP_in {stale:Int} (h:0≤stale∧stale≤5):(oneP stale).In:=⟨mkQ_in _ _,fun y hy=>by
 have hy:y∈([[98]]:List (List UInt8)):=hy
 simp at hy;rw [hy];decide,by show (-9223372036854775808:Int)≤stale∧stale≤9223372036854775807;omega⟩
theorem fill_b:Instr.fill (fun k=>some (k*ti9.size,ti9.size)) (madeCells ti9.zero (1*ti9.size)) [(0,.string (S [98]))]=some (cat strA [[98]]):=by kernel_rfl
theorem selectorSingle_f {v:Value} {zs:List Int} (w:World) (hv:Tp (envC Tryz.prog tt Tryz.f9.ntmps w [] []).toEnv v zs):Calls Tryz.prog 9 #[v] w fun e w'=>e=.returned (.bool true)∧Below w.heap.size w w':=by
 refine sx_atX [] tt_ok mixed at9 [v] _ w rfl ?_
 have hv0:=hv
 obtain ⟨a,cap,rfl,-⟩:=hv0
 refine ⟨_,fill_tape a zs.length cap rfl,rfl,?_⟩
 generalize hvv:Value.slice a zs.length cap=v at *
 obtain ⟨r2,k2,a2,b2,⟨i2,rfl,c2⟩,O2⟩:=next_g (n:=14) (by decide) zs 0 (by omega)
 obtain ⟨n,rfl⟩:∃ n:Nat,i2=n:=⟨i2.toNat,by omega⟩
 refine .inr (.inl ⟨_,_,_,O2 _ v 16 rfl hv,⟨rfl,trivial⟩,rfl,?_⟩)
 refine .inr (.inr (.inr ⟨[(1000,16)],[3000],[_,_,_],[_],_,quotes_z rfl hv (n:=n) (by omega) (by omega) (day:=9497) (by decide),rfl,⟨rfl,trivial⟩,rfl,trivial,?_⟩))
 rintro x U ⟨xs,k3,last,h1,h2,hx,hxs,hbk,hlast,-,rfl⟩
 refine ⟨rfl,?_⟩
 have hin:∀ y∈xs,y.In:=fun y hy=>madeQ_in (hbk.each y hy)
 have hck:=book_chk hbk (by omega) (by omega)
 have M0:=made_of (n:=0) (d:=1) (by decide) (by decide) (by decide) (by decide)
 obtain ⟨r4,k4,a4,b4,⟨stale,rfl,c4⟩,O4⟩:=next_g (n:=6) (by decide) zs k3 (by omega)
 obtain ⟨r5,k5,a5,b5,⟨k,rfl,c5⟩,O5⟩:=next_g (n:=60) (by decide) zs k4 (by omega)
 refine .inr ⟨by decide,by decide,by decide,_,fill_b,rfl,trivial,fun g=>.inl ⟨_,M0,?_⟩⟩
 refine .inr (.inl ⟨_,_,_,O4 _ v 16 rfl hv,⟨rfl,trivial⟩,rfl,?_⟩)
 have PF0:=fill_pol (some ⟨g,0,none⟩) 1 1 (mkQ 0 1).1 stale [[98]] (pl:=[(0,1),(1,66),(67,1)]) rfl
 rw [show (⟨[[98]],(mkQ 0 1).1,stale⟩:PL)=oneP stale from rfl] at PF0
 have PF:=(oneP stale).fits (v:=.slice (some ⟨g,0,none⟩) 1 1) rfl
 have PG:=PL.g2 (oneP stale) (.slice (some ⟨g,0,none⟩) 1 1)
 have S1:=fun (E0:Env) (h0:E0.P=Tryz.prog)=>select_own (E:=E0) h0 (x:=x) (y:=.slice (some ⟨g,0,none⟩) 1 1) (xs:=xs) (p:=oneP stale) (nx:=n) (ny:=1) hxs.symm rfl (by omega) (by omega) hin (oneP_in (by omega)) k acme 9497
 generalize hPA:(oneP stale).A (.slice (some ⟨g,0,none⟩) 1 1)=PA at *
 refine ⟨_,PF0,PF,?_⟩
 refine .inr (.inl ⟨_,_,_,O5 _ v 16 rfl hv,⟨rfl,trivial⟩,rfl,?_⟩)
 refine .inr (.inr (.inr ⟨[(9200,3000),(9101,22)],[9000],[_,_,_,_,_],[_,_],_,S1 _ rfl,rfl,⟨.inl rfl,.inl rfl,trivial⟩,rfl,trivial,?_⟩))
 rintro r1 U1 ⟨U0,⟨s1,n1,hn1',rfl,hs1,rfl⟩,rfl⟩
 refine ⟨rfl,?_⟩
 rw [show (oneP stale).tol=(mkQ 0 1).1 from rfl] at hn1' ⊢
 obtain ⟨sa1,sc1,rfl⟩:=hs1.len
 generalize hCA:cands xs k (oneP stale) acme 9497=CA at *
 have CF1:=(selCh CA (mkQ 0 1).1).fits (a:=sa1) (n:=n1) (c:=sc1)
 have C0:=CH.g0 (selCh CA (mkQ 0 1).1) (.slice sa1 n1 sc1)
 have C1:=CH.g1 (selCh CA (mkQ 0 1).1) (.slice sa1 n1 sc1)
 have C2:=CH.g2 (selCh CA (mkQ 0 1).1) (.slice sa1 n1 sc1)
 have C3:=CH.g3 (selCh CA (mkQ 0 1).1) (.slice sa1 n1 sc1)
 have C4:=CH.g4 (selCh CA (mkQ 0 1).1) (.slice sa1 n1 sc1)
 generalize (selCh CA (mkQ 0 1).1).A (.slice sa1 n1 sc1)=CH1 at *
 refine ⟨CF1,?_⟩
 have hse:selE xs k (oneP stale) acme 9497=if CA=[] then 151 else 0:=by
  unfold selE
  rw [if_neg (by rw [one_c0 hck (by omega) (by omega)];simp),hCA]
 generalize selE xs k (oneP stale) acme 9497=SE at *
 generalize hXA:cat QC.A xs=XA at *
 generalize hXB:cat strA (oneP stale).srcs=XB at *
 obtain ⟨st,rfl⟩:∃ st:Nat,stale=st:=⟨stale.toNat,by omega⟩
 refine ⟨fun q f m=>∃ (j:Nat),q=st+1 - j∧j≤st+1∧(∀ d:Int,9497 - (j:Int) < d→d≤9497→atO xs k [98] acme d=none)∧f=[(4,SV.c (.int .i64 9497)),(5,SV.c x),(6,SV.ptr 6 0),(7,SV.c (.int .i64 k)),(8,SV.ptr 8 0),(9,SV.c (.int .i64 SE)),(10,SV.c (.int .i64 (9497 - (j:Int))))]∧m=[(3000,Blk.own x 40 72 n XA),(6,Blk.row 31 68 PA),(8,Blk.row 33 70 CH1)],st+1,⟨_,_,⟨0,rfl,by omega,fun d h1 h2=>by omega,rfl,rfl⟩,⟨rfl,rfl,rfl,rfl,rfl,rfl,rfl,trivial⟩,⟨.inl rfl,rfl,rfl,trivial⟩,rfl⟩,?_⟩
 rintro q f m ⟨j,rfl,hj,hno,rfl,rfl⟩
 have ew:IntKind.i64.wrap (9497 - (st:Int))=9497 - (st:Int):=i64_in (by omega)
 refine ⟨_,PG,fun h=>?_,fun h=>?_⟩
 ·have h:(9497 - (j:Int)) ≥ IntKind.i64.wrap (9497 - (st:Int)):=of_decide_eq_true h
  rw [ew] at h
  have h:j≤st:=by omega
  have A1:=at_own (E:=(envC Tryz.prog tt Tryz.f9.ntmps w [] []).toEnv) rfl (x:=x) (k:=k) (xs:=xs) (nx:=n) hxs.symm (by omega) hin [98] acme (9497 - (j:Int))
  rw [hXA] at A1
  cases e:atO xs k [98] acme (9497 - (j:Int)) with
  | none =>
   rw [e] at A1
   refine .inr (.inr (.inl ⟨[(9200,3000)],[_,_,_,_,_],[_],_,[_],A1,rfl,⟨.inl rfl,trivial⟩,rfl,rfl,?_⟩))
   refine ⟨noQ.fits,fun h=>absurd h (by decide),fun _=>?_⟩
   refine ⟨st+1 - (j+1),_,_,by omega,⟨j+1,rfl,by omega,fun d h1 h2=>?_,rfl,rfl⟩,⟨rfl,rfl,rfl,rfl,rfl,rfl,c_int (by rw [i64_in (by omega)];omega),trivial⟩,⟨.inl rfl,rfl,rfl,trivial⟩,rfl⟩
   rcases Int.lt_or_le (9497 - (j:Int)) d with h3 | h3
   ·exact hno d h3 h2
   ·rw [show d=9497 - (j:Int) by omega];exact e
  | some q =>
   rw [e] at A1
   refine .inr (.inr (.inl ⟨[(9200,3000)],[_,_,_,_,_],[_],_,[_],A1,rfl,⟨.inl rfl,trivial⟩,rfl,rfl,?_⟩))
   obtain ⟨q1,q2,q3,q4⟩:=at_facts e
   have hc:=one_some (stale:=(st:Int)) hck (by omega) (by omega) (by omega) (by omega) (fun d' h1 h2=>hno d' h1 h2) e
   rw [hCA] at hc
   subst hc
   obtain ⟨s1,s2⟩:=one_ch q1
   rw [s1] at C0 C1 C2 C3
   rw [s2] at hn1'
   have C0:CH1[0]? = some (.string (S [98])):=by rw [C0];show some (Value.string (S q.src))=_;rw [q2]
   have C1:CH1[1]? = some (.string (S q.cur)):=C1
   have C2:CH1[2]? = some (.int .i64 (9497 - (j:Int))):=by rw [C2];show some (Value.int .i64 q.day)=_;rw [q3]
   have C3:CH1.extract 3 (3+66)=q.price.A:=C3
   have hse:SE=0:=by rw [hse];rfl
   have qp:=(hin q q4).price
   have qf:=q.fits
   have qg2:=q.g2
   have qgp:=q.gpri
   subst hse
   show _∧_
   rw [show ((some q).getD noQ)=q from rfl,show ((some q).isSome)=true from rfl]
   generalize q.A=QA at *
   refine ⟨qf,fun _=>?_,fun h=>absurd h (by decide)⟩
   have e1:∀ s:ByteArray,(s.toList == s.toList)=true:=fun s=>by simp
   have e2:∀ n:Int,(n == n)=true:=fun n=>by simp
   have hn0:n1=0:=hn1'
   subst hn0
   refine .inl ⟨_,known_f,?_⟩
   refine ⟨fun _=>⟨fun _=>?_,fun h=>absurd h (by decide)⟩,fun h=>absurd h (by decide)⟩
   refine ⟨_,C0,fun _=>?_,fun c=>absurd ((s_self [98]).symm.trans c) (by decide)⟩
   refine ⟨_,C2,fun _=>?_,fun c=>absurd ((e2 _).symm.trans c) (by decide)⟩
   refine ⟨by decide,_,C3,by decide,_,qgp,_,eqs_ratio rfl qp,fun _=>?_,fun c=>absurd c (by decide)⟩
   refine ⟨_,C1,_,qg2,fun _=>?_,fun c=>absurd ((e1 _).symm.trans c) (by decide)⟩
   refine ⟨_,C4,_,fun w' _=>run_len_sl Tryz.underlying23 w',rfl,trivial⟩
 ·have h:¬ (9497 - (j:Int)) ≥ IntKind.i64.wrap (9497 - (st:Int)):=of_decide_eq_false h
  rw [ew] at h
  have hc:=one_none (stale:=(st:Int)) hck (by omega) (by omega) (fun d h1 h2=>hno d (by omega) h2)
  rw [hCA] at hc
  subst hc
  have hse:SE=151:=by rw [hse];rfl
  subst hse
  have C0:CH1[0]? = some (.string (S [])):=C0
  refine .inl ⟨_,known_f,?_⟩
  refine ⟨fun _=>⟨fun _=>?_,fun h=>absurd h (by decide)⟩,fun h=>absurd h (by decide)⟩
  refine ⟨_,C0,by kernel_rfl,trivial⟩
end Go.Proofs.YtinojijgeabfnaaGreatDoor
namespace Go.Proofs.YtinojijgeabfnaaGreatDoor
open Go Go.RowKit Go.SX
theorem mk1 {a:Int} (h1:77≤a) (h2:a≤109):(mkQ a 1).1=.of a 1:=by
 obtain ⟨r,e1,e2,e3,e4,e5⟩:=mkQ_val (x:=a) (y:=1) (by omega) (Nat.lt_of_lt_of_le (show a.natAbs < 128 by omega) (by decide +kernel)) (by decide +kernel)
 obtain ⟨-,-,q3,-,q5⟩:=RQ.ok_bits e2
 have hq:r.q=1:=by omega
 rw [hq] at e3
 rw [e1]
 show r=.of a 1
 rw [q5,hq,show r.p=a by omega]
section
variable {α:Type}
theorem insR_perm (lt:α→α→Bool) (x:α):∀ (r:List α),(insR lt x r).Perm (x :: r)
 | []=>List.Perm.refl _
 | y :: r=>by
  rw [insR]
  split
  ·exact ((insR_perm lt x r).cons y).trans (List.Perm.swap x y r)
  ·exact List.Perm.refl _
theorem foldl_perm (lt:α→α→Bool):∀ (l a:List α),(l.foldl (fun a x=>insR lt x a) a).Perm (l++a)
 | [],a=>List.Perm.refl _
 | x :: l,a=>by
  rw [List.foldl_cons]
  refine (foldl_perm lt l _).trans ?_
  refine ((insR_perm lt x a).append_left l).trans ?_
  exact List.perm_middle
theorem sortR_perm (lt:α→α→Bool) (l:List α):(sortR lt l).Perm l:=by
 have:=foldl_perm lt l []
 rw [List.append_nil] at this
 exact this
end
def ltI (a b:Int):Bool:=decide (a < b)
theorem insI_down (x:Int):∀ {r:List Int},r.Pairwise (fun a b=>b≤a)→(insR ltI x r).Pairwise (fun a b=>b≤a)
 | [],_=>by simp [insR]
 | y :: r,h=>by
  rw [List.pairwise_cons] at h
  rw [insR]
  split
  ·rename_i hl
   have hl:x < y:=of_decide_eq_true hl
   rw [List.pairwise_cons]
   refine ⟨fun z hz=>?_,insI_down x h.2⟩
   rcases (insR_mem ltI x r z).1 hz with e | e
   ·omega
   ·exact h.1 z e
  ·rename_i hl
   have hl:¬ x < y:=fun e=>hl (decide_eq_true e)
   rw [List.pairwise_cons]
   refine ⟨fun z hz=>?_,List.pairwise_cons.2 h⟩
   rcases List.mem_cons.1 hz with e | e
   ·omega
   ·have:=h.1 z e;omega
theorem sortI_down (l:List Int):(sortR ltI l).Pairwise (fun a b=>b≤a):=by
 have:∀ (l a:List Int),a.Pairwise (fun a b=>b≤a)→(l.foldl (fun a x=>insR ltI x a) a).Pairwise (fun a b=>b≤a):=by
  intro l
  induction l with
  | nil=>intro a h;exact h
  | cons x l ih=>intro a h;exact ih _ (insI_down x h)
 exact this l [] List.Pairwise.nil
theorem mid_law {l:List Int} {m:Int} (h:midR (sortR ltI l)=some m):(∀ y,l.countP (fun x=>decide (x < y))≤(l.length - 1) / 2→l.countP (fun x=>decide (y < x))≤l.length / 2→y=m)∧l.countP (fun x=>decide (x < m))≤(l.length - 1) / 2∧l.countP (fun x=>decide (m < x))≤l.length / 2∧m∈l:=by
 unfold midR at h
 have hlen:=sortR_len ltI l
 rw [hlen] at h
 have hp:(sortR ltI l).reverse.Perm l:=(List.reverse_perm _).trans (sortR_perm ltI l)
 have hs:(sortR ltI l).reverse.Pairwise (fun a b=>a≤b):=by
  rw [List.pairwise_reverse];exact sortI_down l
 generalize (sortR ltI l).reverse=A at *
 have hn:=hp.length_eq
 obtain ⟨hj,hm⟩:=List.getElem?_eq_some_iff.1 h
 generalize hjj:(l.length - 1) / 2=j at *
 have e:∀ i,A=A.take i++A.drop i:=fun i=>(List.take_append_drop i A).symm
 rw [List.pairwise_iff_getElem] at hs
 have lo:∀ x∈A.take (j+1),x≤m:=fun x hx=>by
  obtain ⟨i,hi⟩:=List.getElem?_of_mem hx
  have hij:i < j+1:=by
   have:=(List.getElem?_eq_some_iff.1 hi).1
   simp at this;omega
  rw [List.getElem?_take_of_lt hij] at hi
  obtain ⟨h1,h2⟩:=List.getElem?_eq_some_iff.1 hi
  rcases Nat.lt_or_ge i j with h3 | h3
  ·rw [← h2,← hm];exact hs i j h1 hj h3
  ·have:i=j:=by omega
   subst this
   rw [← h2,← hm];exact Int.le_refl _
 have hi:∀ x∈A.drop j,m≤x:=fun x hx=>by
  obtain ⟨i,hi⟩:=List.getElem?_of_mem hx
  rw [List.getElem?_drop] at hi
  obtain ⟨h1,h2⟩:=List.getElem?_eq_some_iff.1 hi
  rcases Nat.eq_zero_or_pos i with h3 | h3
  ·subst h3
   rw [← h2,← hm];exact Int.le_refl _
  ·rw [← h2,← hm];exact hs j (j+i) hj h1 (by omega)
 have c:∀ p:Int→Bool,l.countP p=A.countP p:=fun p=>(hp.countP_eq p).symm
 have split:∀ (p:Int→Bool) i,A.countP p=(A.take i).countP p+(A.drop i).countP p:=fun p i=>by
  conv=>lhs;rw [e i]
  rw [List.countP_append]
 refine ⟨fun y hy1 hy2=>?_,?_,?_,?_⟩
 ·rw [c] at hy1 hy2
  rcases Int.lt_trichotomy y m with h5 | h5 | h5
  ·have h6:(A.drop j).countP (fun x=>decide (y < x))=(A.drop j).length:=List.countP_eq_length.2 fun x hx=>decide_eq_true (by have:=hi x hx;omega)
   have h7:=split (fun x=>decide (y < x)) j
   rw [h6,List.length_drop] at h7
   omega
  ·exact h5
  ·have h6:(A.take (j+1)).countP (fun x=>decide (x < y))=(A.take (j+1)).length:=List.countP_eq_length.2 fun x hx=>decide_eq_true (by have:=lo x hx;omega)
   have h7:=split (fun x=>decide (x < y)) (j+1)
   rw [h6,List.length_take] at h7
   omega
 ·rw [c,split _ j]
  have h6:(A.drop j).countP (fun x=>decide (x < m))=0:=by
   rw [List.countP_eq_zero]
   intro x hx
   have:=hi x hx
   simp;omega
  have:=List.countP_le_length (p:=fun x=>decide (x < m)) (l:=A.take j)
  rw [List.length_take] at this
  omega
 ·rw [c,split _ (j+1)]
  have h6:(A.take (j+1)).countP (fun x=>decide (m < x))=0:=by
   rw [List.countP_eq_zero]
   intro x hx
   have:=lo x hx
   simp;omega
  have:=List.countP_le_length (p:=fun x=>decide (m < x)) (l:=A.drop (j+1))
  rw [List.length_drop] at this
  omega
 ·exact hp.subset (List.mem_of_getElem? h)
end Go.Proofs.YtinojijgeabfnaaGreatDoor
namespace Go.Proofs.YtinojijgeabfnaaGreatDoor
open Go Go.RowKit Go.SX
theorem isCm.price {i:Nat} {q:QC} (h:isCm i q):q.price=.of q.price.p 1∧77≤q.price.p∧q.price.p≤109:=by
 obtain ⟨a,e,h1,h2⟩:=h.pr
 rw [mk1 h1 h2] at e
 have:q.price.p=a:=by rw [e,RQ.of_p]
 rw [this]
 exact ⟨e,h1,h2⟩
theorem ltP_int (a b:Int):ltP (.of a 1) (.of b 1)=ltI a b:=by
 unfold ltP ltI
 rw [RQ.of_p,RQ.of_q,RQ.of_p,RQ.of_q,Int.mul_one,Int.mul_one]
 unfold cmpI
 by_cases h:a < b
 ·rw [if_pos h];simp [h]
 ·rw [if_neg h];simp [h];split<;>omega
theorem midR_map {α β:Type} (g:α→β) (l:List α):midR (l.map g)=(midR l).map g:=by
 unfold midR
 rw [← List.map_reverse,List.getElem?_map,List.length_map]
def belowQ (l:List QC) (y:Int):Nat:=l.countP (fun q=>decide (q.price.p < y))
def aboveQ (l:List QC) (y:Int):Nat:=l.countP (fun q=>decide (y < q.price.p))
theorem mid_main {l:List QC} (hl:∀ i q,l[i]? = some q→isCm i q) (h1:1≤l.length):∃ m:Int,yardQ l=.of m 1∧77≤m∧m≤109∧(∀ y,belowQ l y≤(l.length - 1) / 2→aboveQ l y≤l.length / 2→y=m)∧belowQ l m≤(l.length - 1) / 2∧aboveQ l m≤l.length / 2∧∃ (i:Nat) (q:QC),l[i]? = some q∧q.price.p=m:=by
 have e1:l.map QC.price=(l.map fun q:QC=>q.price.p).map (fun a=>RQ.of a 1):=by
  rw [List.map_map]
  apply List.map_congr_left
  intro q hq
  obtain ⟨i,hi⟩:=List.getElem?_of_mem hq
  exact (hl i q hi).price.1
 have hlen:(l.map fun q:QC=>q.price.p).length=l.length:=by rw [List.length_map]
 obtain ⟨m,hm⟩:∃ m,midR (sortR ltI (l.map fun q:QC=>q.price.p))=some m:=by
  unfold midR
  exact ⟨_,List.getElem?_eq_getElem (by rw [List.length_reverse,sortR_len,hlen];omega)⟩
 have ey:yardQ l=.of m 1:=by
  unfold yardQ
  rw [cm_cmpbl hl,e1,← sortR_map (lt:=ltI) (lt':=ltP) (fun a=>RQ.of a 1) ltP_int,midR_map,hm];rfl
 obtain ⟨a1,a2,a3,a4⟩:=mid_law hm
 rw [hlen] at a1 a2 a3
 obtain ⟨q,hq,hqm⟩:=List.mem_map.1 a4
 obtain ⟨i,hi⟩:=List.getElem?_of_mem hq
 have hp:=(hl i q hi).price
 have cb:∀ y,(l.map fun q:QC=>q.price.p).countP (fun x=>decide (x < y))=belowQ l y:=fun y=>by rw [List.countP_map];rfl
 have ca:∀ y,(l.map fun q:QC=>q.price.p).countP (fun x=>decide (y < x))=aboveQ l y:=fun y=>by rw [List.countP_map];rfl
 refine ⟨m,ey,by omega,by omega,fun y b1 b2=>a1 y (by rw [cb];exact b1) (by rw [ca];exact b2),by rw [← cb];exact a2,by rw [← ca];exact a3,i,q,hi,hqm⟩
theorem tol3_ok {tol:RQ} (h:tol∈tol3):pctB tol=true∧betQ tol 0 1=true:=by
 simp only [tol3,List.mem_cons,List.not_mem_nil,or_false] at h
 rcases h with rfl | rfl | rfl<;>exact ⟨by kernel_rfl,by kernel_rfl⟩
def nearB (l:List QC) (tol:RQ) (q:QC):Bool:=nearQ q.price (yardQ l) tol
theorem cm_good {l:List QC} (hl:∀ i q,l[i]? = some q→isCm i q) (tol:RQ) {q:QC} (hq:q∈l):isGood (curH l) (yardQ l) tol q=nearB l tol q:=by
 unfold isGood nearB
 rw [decide_eq_true (cm_cur hl hq),Bool.true_and]
theorem cm_src {l:List QC} (hl:∀ i q,l[i]? = some q→isCm i q) {i j:Nat} {a b:QC} (ha:l[i]? = some a) (hb:l[j]? = some b) (h:a.src=b.src):i=j:=by
 have h1:=(hl i a ha).src
 have h2:=(hl j b hb).src
 have i4:=(hl i a ha).lt
 have j4:=(hl j b hb).lt
 rw [h,← h2] at h1
 rcases (by omega:i=0∨i=1∨i=2∨i=3) with rfl | rfl | rfl | rfl<;>rcases (by omega:j=0∨j=1∨j=2∨j=3) with rfl | rfl | rfl | rfl<;>first | rfl | (exact absurd h1 (by decide))
theorem cm_has {l:List QC} (hl:∀ i q,l[i]? = some q→isCm i q) (tol:RQ) {k:Nat} {q:QC} (hq:l[k]? = some q):decide (q.src∈selBad l tol)=!nearB l tol q:=by
 have hql:=List.mem_of_getElem? hq
 cases e:nearB l tol q with
 | false =>
  apply decide_eq_true
  unfold selBad
  exact List.mem_map.2 ⟨q,List.mem_filter.2 ⟨hql,by rw [cm_good hl tol hql,e];rfl⟩,rfl⟩
 | true =>
  apply decide_eq_false
  intro h
  unfold selBad at h
  obtain ⟨z,hz,hs⟩:=List.mem_map.1 h
  obtain ⟨hz1,hz2⟩:=List.mem_filter.1 hz
  obtain ⟨j,hj⟩:=List.getElem?_of_mem hz1
  have:=cm_src hl hj hq hs
  subst this
  rw [hj] at hq
  cases hq
  rw [cm_good hl tol hql,e] at hz2
  simp at hz2
theorem cm_first {l:List QC} (hl:∀ i q,l[i]? = some q→isCm i q) (tol:RQ) {k:Nat} {q:QC} (hq:l[k]? = some q) (hn:nearB l tol q=true) (h0:(l.take k).any (nearB l tol)=false):selCh l tol=chOf (some q):=by
 unfold selCh
 congr 1
 have hql:=List.mem_of_getElem? hq
 have hd:l=l.take k++q :: l.drop (k+1):=by rw [← drop_at hq,List.take_append_drop]
 have e:∀ z∈l,isGood (curH l) (yardQ l) tol z=nearB l tol z:=fun z hz=>cm_good hl tol hz
 generalize curH l=C at *
 have h1:(l.take k).find? (isGood C (yardQ l) tol)=none:=by
  rw [List.find?_eq_none]
  intro z hz
  rw [e z (List.mem_of_mem_take hz)]
  rw [List.any_eq_false] at h0
  exact h0 z hz
 have h2:=e q hql
 rw [hn] at h2
 generalize yardQ l=Y at *
 rw [hd,List.find?_append,h1,List.find?_cons,h2];rfl
theorem cm_any {l:List QC} (hl:∀ i q,l[i]? = some q→isCm i q) (h1:1≤l.length) {tol:RQ} (ht:tol∈tol3):l.any (nearB l tol)=true:=by
 obtain ⟨m,e,-,-,-,-,-,i,q,hq,hm⟩:=mid_main hl h1
 rw [List.any_eq_true]
 refine ⟨q,List.mem_of_getElem? hq,?_⟩
 unfold nearB
 have hp:=(hl i q hq).price
 rw [e,← hm,← hp.1]
 have hv:=valid_right (hl i q hq).valid
 exact near_self (right_price hv (hl i q hq).vo).1 (tol3_ok ht).1 (tol3_ok ht).2
theorem cat_price {L:List QC} {i:Nat} {q:QC} (h:L[i]? = some q):(cat QC.A L).extract (i*72+4) (i*72+4+66)=q.price.A:=by
 have h1:=cat_extract QC.size h
 rw [← q.gpri,← h1,Array.extract_extract]
 congr 1
 omega
theorem cmpI_neg (a b:Int):decide (cmpI a b < 0)=decide (a < b):=by
 unfold cmpI
 by_cases h:a < b
 ·simp [h]
 ·rw [if_neg h];simp [h];split<;>omega
theorem cmpI_pos (a b:Int):decide (cmpI a b > 0)=decide (b < a):=by
 unfold cmpI
 by_cases h:a < b
 ·rw [if_pos h];simp;omega
 ·rw [if_neg h]
  by_cases h2:b < a
  ·simp [h2]
  ·simp [h2]
theorem cm_cmp {i j:Nat} {q y:QC} (hq:isCm i q) (hy:isCm j y):Pure Tryz.prog 30 [SV.c (.agg q.price.A),SV.c (.agg y.price.A)] (.int .i64 (cmpI q.price.p y.price.p)):=by
 obtain ⟨a1,a2,a3⟩:=hq.price
 obtain ⟨b1,b2,b3⟩:=hy.price
 have aq:q.price.q=1:=by rw [a1,RQ.of_q]
 have bq:y.price.q=1:=by rw [b1,RQ.of_q]
 have hb:(1000:Nat) < BB ^ 32:=Nat.lt_of_lt_of_le (by decide:1000 < 18446744073709551616) two64
 have:=compareR_r hq.inn.price hy.inn.price (by rw [bq,Int.mul_one];omega) (by rw [aq,Int.mul_one];omega)
 rw [aq,bq,Int.mul_one,Int.mul_one] at this
 exact this
theorem below_step {l:List QC} {k:Nat} {q:QC} (hq:l[k]? = some q) (y:Int):belowQ (l.take (k+1)) y=belowQ (l.take k) y+(if decide (q.price.p < y) then 1 else 0):=by
 unfold belowQ
 rw [List.take_add_one,hq,List.countP_append]
 simp [List.countP_cons]
theorem above_step {l:List QC} {k:Nat} {q:QC} (hq:l[k]? = some q) (y:Int):aboveQ (l.take (k+1)) y=aboveQ (l.take k) y+(if decide (y < q.price.p) then 1 else 0):=by
 unfold aboveQ
 rw [List.take_add_one,hq,List.countP_append]
 simp [List.countP_cons]
theorem neqs_ratio {E:Env} (hE:E.P=Tryz.prog) {r:RQ} (hr:r.In) {u v:Operand}:Runs E (do eqGuard .neq 29 u v (.agg r.A) (.agg r.A);binOp .neq 29 (.agg r.A) (.agg r.A)) (.bool false):=by
 have:=neq_ratio hE hr hr (u:=u) (v:=v)
 rwa [RQ.beq_self] at this
theorem any_step {l:List QC} {p:QC→Bool} {k:Nat} {q:QC} (h:l[k]? = some q):(l.take (k+1)).any p=((l.take k).any p || p q):=by
 rw [List.take_add_one,h,List.any_append];simp
end Go.Proofs.YtinojijgeabfnaaGreatDoor
