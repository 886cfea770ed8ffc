/- what a made action pays: plain law. what a fund has after made records: plain law. made books are valid: plain law. what the laws need of made books: plain law. made stocks, codes, actions; no condition. -/
import Derived.Test.YtekfkdddadcalaaGreatDoorP30
import Derived.Test.YtekfkdddadcalaaGreatDoorP21
set_option maxRecDepth 100000
set_option maxHeartbeats 4000000
namespace Go.Proofs.YtekfkdddadcalaaGreatDoor
open Go Go.RowKit Go.SX
structure MdA (a:AC):Prop where
 nd:a.kind≠2→1≤a.num∧a.num≤1000∧1≤a.den∧a.den≤1000000
 p:∃ u v:Int,a.cash=(mkQ u v).1∧0≤u∧u≤200000∧1≤v∧v≤1000000
 c:a.cur∈codes3
theorem cash_le {c X Y B:Int} (hY:0 < Y) (h:2*(c*Y - 100*X)≤Y) (hX:X≤B*Y):c≤100*B:=by
 by_cases h1:100*B < c
 ·exfalso
  have h2:(100*B+1)*Y≤c*Y:=Int.mul_le_mul_of_nonneg_right (by omega) (by omega)
  rw [Int.add_mul,Int.one_mul,Int.mul_assoc] at h2
  omega
 ·omega
theorem cash_ge {c X Y:Int} (hY:0 < Y) (h : -Y≤2*(c*Y - 100*X)) (hX:0≤X):0≤c:=by
 by_cases h1:c < 0
 ·exfalso
  have h2:c*Y≤(-1)*Y:=Int.mul_le_mul_of_nonneg_right (by omega) (by omega)
  omega
 ·omega
theorem apply_md {a:AC} (ha:actOk a=true) (hm:MdA a) {q:Int} (h0:0≤q) (h1:q≤20000000) (hp:pieQ a q≤1000000000000000):∃ c,applyA a q=(⟨intoA a,pieQ a q,c⟩,0)∧0≤c∧c≤20000000*q+20000000:=by
 obtain ⟨u,v,hc,u0,u1,v0,v1⟩:=hm.p
 have hqu:0≤q*u:=Int.mul_nonneg h0 u0
 have hqu2:q*u≤q*200000:=Int.mul_le_mul_of_nonneg_left u1 h0
 by_cases hk:a.kind=2
 ·have hxy:paidQ a q=(mkQ q 1).1:=by unfold paidQ;rw [if_pos hk];exact of_mk (bd60 (by omega) (by omega))
  have hv1:q*u≤q*u*v:=by
   have:=Int.mul_le_mul_of_nonneg_left (show (1:Int)≤v by omega) hqu
   rw [Int.mul_one] at this;exact this
  obtain ⟨c,e,l1,l2⟩:=apply_val ha h0 (by omega) hp hxy (bd60 (by omega) (by omega)) (bd60 (by omega) (by omega)) (by omega) hc (bd60 (by omega) (by omega)) (bd60 (by omega) (by omega)) (by omega) hqu (by rw [Int.one_mul];omega)
  rw [Int.one_mul] at l1 l2
  have g1:=cash_le (by omega) l2 hv1
  have g2:=cash_ge (by omega) l1 hqu
  exact ⟨c,e,g2,by omega⟩
 ·obtain ⟨n1,n2,n3,n4⟩:=hm.nd hk
  have hxy:paidQ a q=(mkQ (q*a.num % a.den) a.den).1:=by unfold paidQ;rw [if_neg hk]
  have x0:=Int.emod_nonneg (q*a.num) (show a.den≠0 by omega)
  have x1:=Int.emod_lt_of_pos (q*a.num) (show 0 < a.den by omega)
  generalize q*a.num % a.den=x at hxy x0 x1
  have hxu:0≤x*u:=Int.mul_nonneg x0 u0
  have hxu2:x*u≤a.den*u:=Int.mul_le_mul_of_nonneg_right (by omega) u0
  have hdu:0≤a.den*u:=Int.mul_nonneg (by omega) u0
  have hdv:a.den*u≤u*(a.den*v):=by
   have:=Int.mul_le_mul_of_nonneg_left (show (1:Int)≤v by omega) hdu
   rw [Int.mul_one] at this
   have e:u*(a.den*v)=a.den*u*v:=by rw [← Int.mul_assoc,Int.mul_comm u a.den]
   rw [e];exact this
  have hY:0 < a.den*v:=Int.mul_pos (by omega) (by omega)
  have hdv2:a.den*1≤a.den*v:=Int.mul_le_mul_of_nonneg_left (by omega) (by omega)
  have hdu2:a.den*u≤a.den*200000:=Int.mul_le_mul_of_nonneg_left u1 (by omega)
  obtain ⟨c,e,l1,l2⟩:=apply_val ha h0 (by omega) hp hxy (bd60 (by omega) (by omega)) (bd60 (by omega) (by omega)) (by omega) hc (bd60 (by omega) (by omega)) (bd60 (by omega) (by omega)) (by omega) hxu (by omega)
  have g1:=cash_le (B:=u) hY l2 (by omega)
  have g2:=cash_ge hY l1 hxu
  exact ⟨c,e,g2,by omega⟩
theorem pie_md {a:AC} (hm:MdA a) {q:Int} (h0:0≤q):0≤pieQ a q∧pieQ a q≤1000*q:=by
 unfold pieQ
 split
 ·omega
 ·rename_i hk
  obtain ⟨n1,n2,n3,n4⟩:=hm.nd hk
  have h1:0≤q*a.num:=Int.mul_nonneg h0 (by omega)
  have h2:q*a.num≤q*1000:=Int.mul_le_mul_of_nonneg_left n2 h0
  refine ⟨Int.ediv_nonneg h1 (by omega),?_⟩
  have:q*a.num / a.den≤q*a.num:=Int.ediv_le_self _ h1
  omega
def capH (i:Nat):Int:=if i=0 then 0 else if i=1 then 19000000 else 1000000000000000
def capC (i:Nat):Int:=if i=0 then 0 else if i=1 then 400000000000 else 410000000000000
structure BdS (i j:Nat) (g:Led):Prop where
 ok:LedOk g
 hq:∀ s,getA g.h s≤2000*(j:Int)+capH i
 cb:∀ k,-(100000*(j:Int))≤getA g.c k∧getA g.c k≤100000*(j:Int)+capC i
 pb:∀ k,-(100000*(j:Int))≤getA g.p k∧getA g.p k≤100000*(j:Int)
 ck:∀ y∈g.c,y.1∈codes3.map fun c=>(c,(0:Int))
theorem BdS.zero:BdS 0 0 .zero:=⟨.zero,(fun s=>by show (0:Int)≤_;unfold capH;simp),(fun k=>by show _≤(0:Int)∧(0:Int)≤_;unfold capC;simp),(fun k=>by show _≤(0:Int)∧(0:Int)≤_;simp),(fun y h=>by cases h)⟩
theorem pay_at {f:List (Ky×Int)} (hs:SrtA ltK2 f) (k:Ky) {v b:Int} (hb:∀ k,-b≤getA f k∧getA f k≤b) (hv : -b≤v∧v≤b) (hb2:b≤1000000000000000000):∀ k',getA (payL f k v) k'=getA f k'+if k=k' then v else 0:=fun k'=>by
 have h0:=hb k
 have ew:w64 (getA f k+v)=getA f k+v:=w64_in (by omega)
 unfold payL
 rw [(setA_upd ltK2_ok hs k _).get,ew]
 by_cases e:k'=k
 ·rw [if_pos e,if_pos e.symm,e]
 ·rw [if_neg e,if_neg (fun h=>e h.symm)];omega
theorem act_bd {i j:Nat} (hi:i < 2) (hj:j≤9) {g g':Led} (h:BdS i j g) {a:AC} (hm:MdA a) (e:actL g a=.ok g'):BdS (i+1) j g':=by
 have hl:=(act_okL h.ok e).1
 unfold actL at e
 split at e
 ·cases e
 rename_i h0
 obtain ⟨-,-,-,-,ha,-⟩:=apply_ok (Classical.not_not.1 h0)
 have q0:=(HB.get h.ok.b a.ins).1
 obtain ⟨KH,KC,KH',KC',e1,e2,e3,e4,hnum⟩:∃ KH KC KH' KC':Int,capH i=KH∧capC i=KC∧capH (i+1)=KH'∧capC (i+1)=KC'∧((KH=0∧KC=0∧KH'=19000000∧KC'=400000000000)∨(KH=19000000∧KC=400000000000∧KH'=1000000000000000∧KC'=410000000000000)):=by
  rcases Nat.eq_zero_or_pos i with rfl | h'
  ·exact ⟨0,0,19000000,400000000000,rfl,rfl,rfl,rfl,.inl ⟨rfl,rfl,rfl,rfl⟩⟩
  ·obtain rfl:i=1:=by omega
   exact ⟨19000000,400000000000,1000000000000000,410000000000000,rfl,rfl,rfl,rfl,.inr ⟨rfl,rfl,rfl,rfl⟩⟩
 have hq:=h.hq
 have hcb:=h.cb
 rw [e1] at hq
 rw [e2] at hcb
 have q1:=hq a.ins
 obtain ⟨p0,p1⟩:=pie_md hm q0
 obtain ⟨c,ea,c0,c1⟩:=apply_md ha hm q0 (by omega) (by omega)
 rw [ea] at e
 dsimp only at e
 split at e
 ·cases e
 rename_i H hH
 cases e
 have hz:=h.ok.hok.set a.ins (v:=0) (by decide)
 obtain ⟨-,eH,-,-⟩:=hz.hold hH
 refine ⟨hl,fun s=>?_,fun k=>?_,h.pb,fun y hy=>?_⟩
 ·show getA H s≤_
  rw [eH,(setA_upd ltB_ok hz.1.1 _ _).get,e3]
  have u:=fun s=>(setA_upd ltB_ok h.ok.h.1 a.ins 0).get s
  have big:∀ s,getA (setA ltB g.h a.ins 0) s≤2000*(j:Int)+KH:=fun s=>by
   rw [u]
   have:=hq s
   split<;>omega
  have b1:=big (intoA a)
  have b2:=big s
  generalize getA (setA ltB g.h a.ins 0) (intoA a)=z1 at b1 ⊢
  generalize getA (setA ltB g.h a.ins 0) s=z2 at b2 ⊢
  generalize pieQ a (getA g.h a.ins)=z3 at p0 p1 ⊢
  split<;>omega
 ·show _≤getA (payL g.c (a.cur,0) c) k∧_
  rw [pay_at h.ok.c.1 (a.cur,0) (b:=1000000000000000) (fun k=>by have:=hcb k;omega) (by omega) (by decide),e4]
  have b1:=hcb k
  split<;>omega
 ·have hy:y∈payL g.c (a.cur,0) c:=hy
  rcases setA_mem ltK2_ok h.ok.c.1 hy with hy | ⟨rfl,-⟩
  ·exact h.ck y hy
  ·exact List.mem_map.2 ⟨_,hm.c,rfl⟩
theorem ent_bd {day:Int} {i j:Nat} (_hi:i≤2) (hj:j < 9) {g g':Led} (h:BdS i j g) {x:EC} (hx:MdE x) (e:entL day g x=.ok g'):BdS i (j+1) g':=by
 have hl:=(ent_okL h.ok e).1
 have hC:0≤capC i∧capC i≤410000000000000∧0≤capH i:=by
  unfold capC capH
  split
  ·decide
  ·split<;>decide
 have h1:=pay_at h.ok.c.1 (x.cur,0) (v:=x.amt) (b:=1000000000000000) (fun k=>by have:=h.cb k;omega) (by have:=hx.a;omega) (by decide)
 have h2:=pay_at h.ok.p.1 (x.cur,x.settle) (v:=x.amt) (b:=1000000000000000) (fun k=>by have:=h.pb k;omega) (by have:=hx.a;omega) (by decide)
 have ha:=hx.a
 have hS:(∀ k,-(100000*((j+1:Nat):Int))≤getA (settleL day g x).c k∧getA (settleL day g x).c k≤100000*((j+1:Nat):Int)+capC i)∧(∀ k,-(100000*((j+1:Nat):Int))≤getA (settleL day g x).p k∧getA (settleL day g x).p k≤100000*((j+1:Nat):Int))∧(∀ y∈(settleL day g x).c,y.1∈codes3.map fun c=>(c,(0:Int))):=by
  unfold settleL
  split
  ·refine ⟨fun k=>?_,fun k=>?_,pay_kok (P:=fun k=>k∈codes3.map fun c=>(c,(0:Int))) h.ok.c h.ck (EOk.of hx.v).m fun hn=>List.mem_map.2 ⟨_,hx.c hn,rfl⟩⟩
   ·show _≤getA (payL g.c (x.cur,0) x.amt) k∧getA (payL g.c (x.cur,0) x.amt) k≤_
    rw [h1]
    have:=h.cb k
    split<;>omega
   ·have:=h.pb k
    show _≤getA g.p k∧getA g.p k≤_
    omega
  ·refine ⟨fun k=>?_,fun k=>?_,h.ck⟩
   ·have:=h.cb k
    show _≤getA g.c k∧getA g.c k≤_
    omega
   ·show _≤getA (payL g.p (x.cur,x.settle) x.amt) k∧getA (payL g.p (x.cur,x.settle) x.amt) k≤_
    rw [h2]
    have:=h.pb k
    split<;>omega
 unfold entL at e
 split at e
 ·cases e
  refine ⟨hl,fun s=>?_,hS.1,hS.2.1,hS.2.2⟩
  rw [settle_h]
  have:=h.hq s
  omega
 ·split at e
  ·cases e
  ·rename_i H hH
   cases e
   obtain ⟨-,eH,-,-⟩:=h.ok.hok.hold hH
   refine ⟨hl,fun s=>?_,hS.1,hS.2.1,hS.2.2⟩
   show getA H s≤_
   rw [eH,(setA_upd ltB_ok h.ok.h.1 _ _).get]
   have b1:=h.hq s
   have b2:=h.hq x.ins
   have hq:=hx.q
   split<;>omega
def evA:Ev→Option AC
 | .inl a=>some a
 | .inr _=>none
def evX:Ev→Option EC
 | .inl _=>none
 | .inr x=>some x
theorem run_bd {day:Int}:∀ (l:List Ev) {i j:Nat} {g g':Led},BdS i j g→i+(l.filterMap evA).length≤2→j+(l.filterMap evX).length≤9→(∀ a,Sum.inl a∈l→MdA a)→(∀ x,Sum.inr x∈l→MdE x)→runL day g l=.ok g'→∃ i' j',i'≤2∧j'≤9∧BdS i' j' g'
 | [],i,j,g,g',h,hi,hj,_,_,e=>by
  cases e
  exact ⟨i,j,by simpa using hi,by simpa using hj,h⟩
 | .inl a :: l,i,j,g,g',h,hi,hj,ha,hx,e=>by
  rw [runL] at e
  have es:stepL day g (Sum.inl a)=actL g a:=rfl
  rw [es] at e
  simp only [List.filterMap_cons,evA,evX,List.length_cons] at hi hj
  cases e1:actL g a with
  | error e'=>rw [e1] at e;cases e
  | ok g1 =>
   rw [e1] at e
   exact run_bd l (act_bd (by omega) (by omega) h (ha a (by simp)) e1) (by omega) hj (fun b hb=>ha b (by simp [hb])) (fun x hx'=>hx x (by simp [hx'])) e
 | .inr x :: l,i,j,g,g',h,hi,hj,ha,hx,e=>by
  rw [runL] at e
  have es:stepL day g (Sum.inr x)=entL day g x:=rfl
  rw [es] at e
  simp only [List.filterMap_cons,evA,evX,List.length_cons] at hi hj
  cases e1:entL day g x with
  | error e'=>rw [e1] at e;cases e
  | ok g1 =>
   rw [e1] at e
   exact run_bd l (ent_bd (by omega) (by omega) h (hx x (by simp)) e1) hi (by omega) (fun b hb=>ha b (by simp [hb])) (fun y hy=>hx y (by simp [hy])) e
theorem pf_bd {i j:Nat} {g:Led} (h:BdS i j g) (_hi:i≤2) (hj:j≤9) (hh:g.h.length≤64):pfL g=(g,0):=by
 have hC:0≤capC i∧capC i≤410000000000000:=by
  unfold capC
  split
  ·decide
  ·split<;>decide
 have l3:g.c.length≤3:=by
  have:=nodup_sub (srt_keys ltK2_ok h.ok.c.1) (m:=codes3.map fun c=>(c,(0:Int))) fun k hk'=>by
   obtain ⟨y,hy,rfl⟩:=List.mem_map.1 hk'
   exact h.ck y hy
  rw [List.length_map] at this
  exact this
 have hc:g.c.all (fun x=>inB x.2 (-1000000000000000) 1000000000000000)=true:=List.all_eq_true.2 fun x hx=>by
  rw [← getA_at ltK2_ok h.ok.c.1 hx]
  have:=h.cb x.1
  exact inB_iff.2 (by omega)
 have hp:g.p.all (fun x=>inB x.2 (-1000000000000000) 1000000000000000)=true:=List.all_eq_true.2 fun x hx=>by
  rw [← getA_at ltK2_ok h.ok.p.1 hx]
  have:=h.pb x.1
  exact inB_iff.2 (by omega)
 have hF:finE g=0:=by
  unfold finE
  rw [if_neg (by omega),hc,hp];rfl
 unfold pfL;rw [if_pos hF]
def keysE:List Bs:=[[101,49],[101,50],[101,51],[101,52],[101,53],[101,54],[112,49],[112,50],[112,51]]
structure MkB (D:Int) (x:EC):Prop where
 v:x.void=false
 d:0≤x.day∧D≤x.day+1∧x.day≤D+7
 s:x.day≤x.settle∧x.settle≤73048∧x.settle≤D+10
 a : -100000≤x.amt∧x.amt≤100000
 c:x.cur∈codes3
 k:(x.kind=1∧x.ins∈stocks4∧x.qty≠0∧-2000≤x.qty∧x.qty≤2000)∨(x.kind=2∧x.ins=[]∧x.qty=0)
def MkX (D:Int) (x:EC):Prop:=x=.nil x.key x.known∨MkB D x
theorem cur3_ok {c:Bs} (h:c∈codes3):curOk c=true:=by
 simp only [codes3,List.mem_cons,List.not_mem_nil,or_false] at h
 rcases h with rfl | rfl | rfl<;>decide
theorem ins4_ok {c:Bs} (h:c∈stocks4):insOk c=true:=by
 simp only [stocks4,List.mem_cons,List.not_mem_nil,or_false] at h
 rcases h with rfl | rfl | rfl | rfl<;>decide
theorem inB_of {n lo hi:Int} (h1:lo≤n) (h2:n≤hi):inB n lo hi=true:=by
 unfold inB;rw [decide_eq_true h1,decide_eq_true h2];rfl
theorem EC.beq_self0 (key:Bs) (known:Int):(EC.nil key known).beq (.nil key known)=true:=by
 simp [EC.beq,EC.nil]
theorem MkX.md {D:Int} {x:EC} (h:MkX D x) (h1:hdrE x=true):MdE x:=by
 rcases h with h | h
 ·have hv:x.void=true:=by rw [h];rfl
  have a0:x.amt=0:=by rw [h];rfl
  have q0:x.qty=0:=by rw [h];rfl
  refine ⟨?_,by omega,by omega,fun n=>absurd a0 n,fun n=>absurd q0 n⟩
  unfold validE
  rw [h1,hv,Bool.true_and,if_pos rfl]
  generalize x.key=a at h
  generalize x.known=b at h
  rw [h]
  exact EC.beq_self0 a b
 ·have hk:kindE x=true:=by
    unfold kindE
    rcases h.k with ⟨e,hi,h0,h2,h3⟩ | ⟨e,hi,h0⟩
    ·rw [if_pos e,ins4_ok hi,inB_of (by omega) (by omega),beq_eq_false_iff_ne.2 h0];rfl
    ·rw [if_neg (by omega),if_pos e,hi,h0];rfl
  have hb:bodyE x=true:=by
   unfold bodyE
   rw [inB_of h.d.1 h.s.1,decide_eq_true h.s.2.1,inB_of (n:=x.amt) (by have:=h.a;omega) (by have:=h.a;omega),cur3_ok h.c];rfl
  refine ⟨?_,h.a,?_,fun _=>h.c,fun hq=>?_⟩
  ·unfold validE
   rw [h1,h.v,if_neg Bool.false_ne_true,hb,hk];rfl
  ·rcases h.k with ⟨-,-,-,h2,h3⟩ | ⟨-,-,h0⟩<;>omega
  ·rcases h.k with ⟨-,hi,-⟩ | ⟨-,-,h0⟩
   ·exact hi
   ·exact absurd h0 hq
theorem capAll_len {l:Bs} (h:insOk l=true):l.length≤12:=by
 unfold insOk at h
 simp only [Bool.and_eq_true,decide_eq_true_eq] at h
 exact h.2.2
theorem hdrE_of {x:EC} (h1:1≤x.key.length) (h2:x.key.length≤64) (h3:1≤x.known) (h4:x.known≤2147483647):hdrE x=true:=by
 unfold hdrE
 rw [inB_of (by omega) (by omega),inB_of h3 h4];rfl
theorem MkX.in_ {D:Int} {x:EC} (h:MkX D x) (hk:x.key.length≤64):x.In:=by
 rcases h with h | h
 ·have i0:x.ins=[]:=by rw [h];rfl
  have c0:x.cur=[]:=by rw [h];rfl
  exact ⟨by omega,by rw [i0];decide,by rw [c0];decide⟩
 ·refine ⟨by omega,?_,?_⟩
  ·rcases h.k with ⟨-,hi,-⟩ | ⟨-,hi,-⟩
   ·have:=capAll_len (ins4_ok hi);omega
   ·rw [hi];decide
  ·have h3:=h.c
   simp only [codes3,List.mem_cons,List.not_mem_nil,or_false] at h3
   rcases h3 with e | e | e<;>rw [e]<;>decide
theorem keysE_len {k:Bs} (h:k∈keysE):k.length=2:=by
 simp only [keysE,List.mem_cons,List.not_mem_nil,or_false] at h
 rcases h with rfl | rfl | rfl | rfl | rfl | rfl | rfl | rfl | rfl<;>rfl
/-! ### a book that grows -/
theorem lastK_snoc (l:List MK) (m:MK) (k:Int):lastK (l++[m]) k=m.known:=by
 unfold lastK;rw [List.getLast?_append];rfl
theorem good_e {x:EC} {k:Int} (h:hdrE x=true) (hk:k < x.known):mkGood k (mkE x)=true:=by
 unfold hdrE inB at h
 simp only [Bool.and_eq_true,decide_eq_true_eq] at h
 unfold mkGood mkE
 simp only [Bool.and_eq_true,decide_eq_true_eq]
 omega
theorem validE_hdr {x:EC} (h:validE x=true):hdrE x=true:=by
 unfold validE at h
 rw [Bool.and_eq_true] at h
 exact h.1
theorem chkX_parts {xs:List EC} (h:chkX xs=0):xs.all validE=true∧xs.length≤4096∧chkF 0 (xs.map mkE)=true:=by
 unfold chkX at h
 split at h
 ·rename_i h1
  unfold chkE at h
  rw [List.length_map] at h
  split at h
  ·cases h
  ·rename_i h2
   split at h
   ·rename_i h3;exact ⟨h1,by omega,h3⟩
   ·cases h
 ·cases h
theorem chkX_of {xs:List EC} (h1:xs.all validE=true) (h2:xs.length≤4096) (h3:chkF 0 (xs.map mkE)=true):chkX xs=0:=by
 unfold chkX chkE
 rw [if_pos h1,List.length_map,if_neg (by omega),if_pos h3]
theorem chkX_snoc {xs:List EC} {x:EC} (h:chkX xs=0) (hl:xs.length < 4096) (hv:validE x=true) (hk:lastK (xs.map mkE) 0 < x.known):chkX (xs++[x])=0:=by
 obtain ⟨h1,-,h3⟩:=chkX_parts h
 refine chkX_of (by rw [List.all_append,h1];simp [hv]) (by rw [List.length_append];simp;omega) ?_
 rw [List.map_append,List.map_cons,List.map_nil,chkF_snoc,h3,good_e (validE_hdr hv) hk];rfl
structure MkL (D:Int) (n:Nat) (b:Int) (xs:List EC):Prop where
 l:xs.length=n
 x:∀ x∈xs,MkX D x∧MdE x∧x.key∈keysE∧x.known≤b
 c:chkX xs=0
 k:lastK (xs.map mkE) 0≤b
theorem MkL.nil {D b:Int} (h:0≤b):MkL D 0 b []:=⟨rfl,(fun x hx=>by cases hx),rfl,h⟩
theorem MkL.snoc {D b:Int} {n:Nat} {xs:List EC} (h:MkL D n b xs) {x:EC} (hx:MkX D x) (hk:x.key∈keysE) (hb:b < x.known) (h0:0≤b) (hm:x.known≤2147483647) (hn:n < 4096):MkL D (n+1) x.known (xs++[x]):=by
 have l2:=keysE_len hk
 have md:=hx.md (hdrE_of (by omega) (by omega) (by omega) hm)
 refine ⟨by rw [List.length_append,h.l];rfl,fun y hy=>?_,chkX_snoc h.c (by rw [h.l];exact hn) md.v (by have:=h.k;omega),by rw [List.map_append,List.map_cons,List.map_nil,lastK_snoc];exact Int.le_refl _⟩
 rcases List.mem_append.1 hy with hy | hy
 ·obtain ⟨q1,q2,q3,q4⟩:=h.x y hy
  exact ⟨q1,q2,q3,by omega⟩
 ·have:y=x:=by simpa using hy
  rw [this];exact ⟨hx,md,hk,Int.le_refl _⟩
theorem MkL.in_ {D b:Int} {n:Nat} {xs:List EC} (h:MkL D n b xs):∀ x∈xs,x.In:=fun x hx=>by
 obtain ⟨q1,-,q3,-⟩:=h.x x hx
 exact q1.in_ (by have:=keysE_len q3;omega)
theorem MkL.key {D b:Int} {n:Nat} {xs:List EC} (h:MkL D n b xs):∀ x∈xs,x.key.length=2:=fun x hx=>keysE_len (h.x x hx).2.2.1
/-! ### the same of actions -/
def keysA:List Bs:=[[115,49],[115,50],[100,49],[109,49]]
def MkA (D:Int) (a:AC):Prop:=a=.nil a.key a.known∨(a.void=false∧MdA a∧bodyOk a=true∧kindOk a=true∧a.day≤D+7)
theorem keysA_len {k:Bs} (h:k∈keysA):k.length=2:=by
 simp only [keysA,List.mem_cons,List.not_mem_nil,or_false] at h
 rcases h with rfl | rfl | rfl | rfl<;>rfl
theorem hdrA_of {a:AC} (h1:1≤a.key.length) (h2:a.key.length≤64) (h3:1≤a.known) (h4:a.known≤2147483647):hdrOk a=true:=by
 unfold hdrOk
 rw [beq_eq_false_iff_ne.2 (by omega),decide_eq_false (by omega),decide_eq_false (by omega),decide_eq_false (by omega)];rfl
theorem good_a {a:AC} {k:Int} (h:hdrOk a=true) (hk:k < a.known):mkGood k (mkOf a)=true:=by
 unfold hdrOk at h
 simp only [Bool.and_eq_true,Bool.not_eq_true',beq_eq_false_iff_ne,decide_eq_false_iff_not] at h
 unfold mkGood mkOf
 simp only [Bool.and_eq_true,decide_eq_true_eq]
 omega
theorem MkA.ok {D:Int} {a:AC} (h:MkA D a) (h1:hdrOk a=true):validA a=true:=by
 unfold validA
 rw [h1,Bool.true_and]
 rcases h with h | ⟨h2,-,h3,h4,-⟩
 ·have hv:a.void=true:=by rw [h];rfl
  rw [hv,if_pos rfl]
  generalize a.key=b at h
  generalize a.known=c at h
  rw [h]
  simp [AC.beq,AC.nil,RQ.beq]
 ·rw [h2,if_neg Bool.false_ne_true,h3,h4];rfl
theorem chkA_parts {xs:List AC} (h:chkA xs=0):xs.all validA=true∧xs.length≤4096∧chkF 0 (xs.map mkOf)=true:=by
 unfold chkA at h
 split at h
 ·rename_i h1
  unfold chkE at h
  rw [List.length_map] at h
  split at h
  ·cases h
  ·rename_i h2
   split at h
   ·rename_i h3;exact ⟨h1,by omega,h3⟩
   ·cases h
 ·cases h
theorem chkA_snoc {xs:List AC} {x:AC} (h:chkA xs=0) (hl:xs.length < 4096) (hv:validA x=true) (hd:hdrOk x=true) (hk:lastK (xs.map mkOf) 0 < x.known):chkA (xs++[x])=0:=by
 obtain ⟨h1,-,h3⟩:=chkA_parts h
 unfold chkA chkE
 rw [if_pos (by rw [List.all_append,h1];simp [hv]),List.length_map,if_neg (by rw [List.length_append];simp;omega),if_pos]
 rw [List.map_append,List.map_cons,List.map_nil,chkF_snoc,h3,good_a hd hk];rfl
structure MkLA (D:Int) (n:Nat) (b:Int) (xs:List AC):Prop where
 l:xs.length=n
 x:∀ x∈xs,MkA D x∧x.key∈keysA∧x.In
 c:chkA xs=0
 k:lastK (xs.map mkOf) 0≤b
theorem MkLA.nil {D b:Int} (h:0≤b):MkLA D 0 b []:=⟨rfl,(fun x hx=>by cases hx),rfl,h⟩
theorem MkLA.snoc {D b:Int} {n:Nat} {xs:List AC} (h:MkLA D n b xs) {x:AC} (hx:MkA D x) (hk:x.key∈keysA) (hi:x.In) (hb:b < x.known) (h0:0≤b) (hm:x.known≤2147483647) (hn:n < 4096):MkLA D (n+1) x.known (xs++[x]):=by
 have l2:=keysA_len hk
 have hd:=hdrA_of (a:=x) (by omega) (by omega) (by omega) hm
 refine ⟨by rw [List.length_append,h.l];rfl,fun y hy=>?_,chkA_snoc h.c (by rw [h.l];exact hn) (hx.ok hd) hd (by have:=h.k;omega),by rw [List.map_append,List.map_cons,List.map_nil,lastK_snoc];exact Int.le_refl _⟩
 rcases List.mem_append.1 hy with hy | hy
 ·exact h.x y hy
 ·have:y=x:=by simpa using hy
  rw [this];exact ⟨hx,hk,hi⟩
theorem newco_ok {l:Bs} (h:l∈stocks4):¬ ([78,69,87,67,79]:Bs)=l:=by
 simp only [stocks4,List.mem_cons,List.not_mem_nil,or_false] at h
 rcases h with rfl | rfl | rfl | rfl<;>decide
theorem mk_act {D kind num den i known:Int} {key ins into cur:Bs} {cash:RQ} (hD:0≤D∧D≤73048) (hi:0≤i∧i < 8) (hins:ins∈stocks4) (hcur:cur∈codes3) (hc:isPrice cash∨(kind≠2∧cash=.of 0 1)) (hk:(kind=2∧into=[]∧num=0∧den=0)∨(((kind=1∧into=[])∨(kind=3∧into=[78,69,87,67,79]))∧1≤num∧num≤1000∧1≤den∧den≤1000000)):MkA D ⟨kind,key,ins,into,min 73048 (IntKind.i64.wrap (D+i)),num,den,cash,cur,known,false⟩:=by
 have ew:IntKind.i64.wrap (D+i)=D+i:=i64_in (by omega)
 rw [ew]
 have hpay:payOk cash=true:=by
  rcases hc with h | ⟨-,h⟩
  ·obtain ⟨n,d,-,-,-,-,-,-,h7,-⟩:=price_of h;exact h7
  ·rw [h];decide
 refine .inr ⟨rfl,⟨?_,?_,hcur⟩,?_,?_,?_⟩
 ·intro hn
  rcases hk with ⟨h,-⟩ | ⟨-,h⟩
  ·exact absurd h hn
  ·exact ⟨h.1,h.2.1,h.2.2⟩
 ·rcases hc with h | ⟨-,h⟩
  ·obtain ⟨n,d,h1,h2,h3,h4,h5,-⟩:=price_of h
   exact ⟨n,d,h1,by omega,h3,h4,h5⟩
  ·exact ⟨0,1,by rw [h];exact of_mk (bd60 (by decide) (by decide)),by decide,by decide,by decide,by decide⟩
 ·unfold bodyOk
  show (insOk ins && (!decide (min 73048 (D+i) < 0) && (!decide (min 73048 (D+i) > 73048) && (payOk cash && curOk cur))))=true
  rw [ins4_ok hins,decide_eq_false (by omega),decide_eq_false (by omega),hpay,cur3_ok hcur];rfl
 ·unfold kindOk
  show (if kind=1 then decide (into=[]) && (facOk num && facOk den) else if kind=2 then decide (into=[]) && ((num == 0) && ((den == 0) && decide (sgn cash.p > 0))) else if kind=3 then insOk into && (!decide (into=ins) && (facOk num && facOk den)) else false)=true
  have fac:∀ n:Int,1≤n→n≤1000000→facOk n=true:=fun n h1 h2=>by unfold facOk;rw [decide_eq_true h1,decide_eq_true h2];rfl
  rcases hk with ⟨h,h1,h2,h3⟩ | ⟨⟨h,h1⟩ | ⟨h,h1⟩,h2,h3,h4,h5⟩
  ·have hp:0 < cash.p:=by
     rcases hc with hc | ⟨hc,-⟩
     ·obtain ⟨n,d,-,-,-,-,-,-,-,-,h9⟩:=price_of hc;exact h9
     ·exact absurd h hc
   have hs:sgn cash.p > 0:=by unfold sgn;rw [if_neg (by omega),if_neg (by omega)];decide
   rw [if_neg (by omega),if_pos h,h1,h2,h3,decide_eq_true hs];rfl
  ·rw [if_pos h,h1,fac num h2 (by omega),fac den h4 h5];rfl
  ·rw [if_neg (by omega),if_neg (by omega),if_pos h,h1,fac num h2 (by omega),fac den h4 h5,decide_eq_false (newco_ok hins)];rfl
 ·show min 73048 (D+i)≤D+7
  omega
/-! ### what the laws need of made books -/
theorem MkL.mono {D b c:Int} {n:Nat} {xs:List EC} (h:MkL D n b xs) (hc:b≤c):MkL D n c xs :=
 ⟨h.l,fun x hx=>⟨(h.x x hx).1,(h.x x hx).2.1,(h.x x hx).2.2.1,by have:=(h.x x hx).2.2.2;omega⟩,h.c,by have:=h.k;omega⟩
theorem MkLA.mono {D b c:Int} {n:Nat} {xs:List AC} (h:MkLA D n b xs) (hc:b≤c):MkLA D n c xs:=⟨h.l,h.x,h.c,by have:=h.k;omega⟩
theorem MkX.key {D:Int} {x:EC} (h:MkX D x) (k:Bs):MkX D { x with key:=k }:=by
 rcases h with h | h
 ·left;rw [h];rfl
 ·exact .inr ⟨h.v,h.d,h.s,h.a,h.c,h.k⟩
theorem MkX.live {D:Int} {x:EC} (h:MkX D x) (hv:x.void=false):MkB D x:=by
 rcases h with h | h
 ·rw [h] at hv;cases hv
 ·exact h
theorem MkB.of {D D':Int} {x y:EC} (h:MkB D x) (v:y.void=false) (d:0≤y.day∧D'≤y.day+1∧y.day≤D'+7) (s:y.day≤y.settle∧y.settle≤73048∧y.settle≤D'+10) (a : -100000≤y.amt∧y.amt≤100000) (e:y.kind=x.kind∧y.ins=x.ins∧y.cur=x.cur) (q:y.qty=x.qty∨(y.kind=1∧1≤y.qty∧y.qty≤2000)):MkB D' y:=by
 refine ⟨v,d,s,a,by rw [e.2.2];exact h.c,?_⟩
 rw [e.1,e.2.1]
 rcases q with q | ⟨q1,q2,q3⟩
 ·rw [q];exact h.k
 ·rw [e.1] at q1
  rcases h.k with ⟨k1,k2,-⟩ | ⟨k1,-⟩
  ·exact .inl ⟨k1,k2,by omega,by omega,q3⟩
  ·omega
theorem MkA.key {D:Int} {a:AC} (h:MkA D a) (k:Bs):MkA D { a with key:=k }:=by
 rcases h with h | ⟨h1,h2,h3,h4,h5⟩
 ·left;rw [h];rfl
 ·exact .inr ⟨h1,⟨h2.nd,h2.p,h2.c⟩,h3,h4,h5⟩
theorem MkA.day {D:Int} {a:AC} (h:MkA D a) (hv:a.void=false) {d:Int} (hd:0≤d∧d≤73048):MkA d { a with day:=d }:=by
 rcases h with h | ⟨h1,h2,h3,h4,h5⟩
 ·rw [h] at hv;cases hv
 ·refine .inr ⟨h1,⟨h2.nd,h2.p,h2.c⟩,?_,h4,by show d≤d+7;omega⟩
  unfold bodyOk at h3 ⊢
  simp only [Bool.and_eq_true,Bool.not_eq_true',decide_eq_false_iff_not] at h3 ⊢
  exact ⟨h3.1,by omega,by omega,h3.2.2.2⟩
theorem chkF_run:∀ (l:List EC) (b:Int),(∀ (j:Nat) x,l[j]? = some x→hdrE x=true∧x.known=b+1+j)→chkF b (l.map mkE)=true
 | [],_,_=>rfl
 | x :: r,b,h=>by
  obtain ⟨h1,h2⟩:=h 0 x rfl
  rw [List.map_cons,chkF,good_e h1 (by omega),Bool.true_and]
  refine chkF_run r _ fun j y hy=>?_
  obtain ⟨h3,h4⟩:=h (j+1) y (by simpa using hy)
  refine ⟨h3,?_⟩
  show y.known=x.known+1+j
  omega
structure OrdL (n:Nat) (xs:List EC):Prop where
 l:xs.length=n
 x:∀ (j:Nat) x,xs[j]? = some x→MkB 9497 x∧0≤x.qty∧x.known=j+1∧x.key.length=1
theorem OrdL.md {n:Nat} {xs:List EC} (h:OrdL n xs) (hn:n≤7):∀ x∈xs,(MdE x∧0≤x.qty)∧(x.void=false∧x.known≤99)∧x.In:=fun x hx=>by
 obtain ⟨j,hj⟩:=List.mem_iff_getElem?.1 hx
 obtain ⟨h1,h2,h3,h4⟩:=h.x j x hj
 have hl:=(List.getElem?_eq_some_iff.1 hj).1
 have hl2:=h.l
 exact ⟨⟨MkX.md (.inr h1) (hdrE_of (by omega) (by omega) (by omega) (by omega)),h2⟩,⟨h1.v,by omega⟩,MkX.in_ (.inr h1) (by omega)⟩
theorem OrdL.chk {n:Nat} {xs:List EC} (h:OrdL n xs) (hn:n≤7):chkX xs=0:=by
 refine chkX_of (List.all_eq_true.2 fun x hx=>(h.md hn x hx).1.1.v) (by have:=h.l;omega) (chkF_run xs 0 fun j x hj=>?_)
 have hm:=h.md hn x (List.mem_of_getElem? hj)
 exact ⟨validE_hdr hm.1.1.v,by have:=(h.x j x hj).2.2.1;omega⟩
theorem order_law {n:Nat} {xs m ys:List EC} {day:Int} (hx:OrdL n xs) (hy:OrdL n ys) (hn:n≤7) (kx:xs.Pairwise fun a b=>a.key≠b.key) (hp:m.Perm xs) (he:∀ (j:Nat) x,m[j]? = some x→∃ k,ys[j]? = some { x with known:=k }) (hd:inB day 0 73048=true):∃ g,atP xs [] 99 day=(g,0)∧atP ys [] 99 day=(g,0):=by
 have hml:m.length=n:=by rw [hp.length_eq,hx.l]
 have hk:ys.map EC.key=m.map EC.key∧ys.map EC.un=m.map EC.un:=by
  constructor<;>refine List.ext_getElem? fun j=>?_
  all_goals
   rw [List.getElem?_map,List.getElem?_map]
   cases e:m[j]? with
   | none =>
    have:n≤j:=by have:=List.getElem?_eq_none_iff.1 e;omega
    rw [List.getElem?_eq_none (by rw [hy.l];exact this)]
   | some x =>
    obtain ⟨k,hk⟩:=he j x e
    rw [hk]
    rfl
 have ky:ys.Pairwise fun a b=>a.key≠b.key:=by
  have h1:(xs.map EC.key).Pairwise (·≠·):=List.pairwise_map.2 kx
  have h2:(ys.map EC.key).Pairwise (·≠·):=by
   rw [hk.1]
   exact ((hp.map EC.key).pairwise_iff (fun h=>h.symm)).2 h1
  exact List.pairwise_map.1 h2
 have lx:=hx.l
 have ly:=hy.l
 refine at_order (fun x h=>(hx.md hn x h).1) (fun x h=>(hy.md hn x h).1) (by omega) (by omega) (hx.chk hn) (hy.chk hn) (fun x h=>(hx.md hn x h).2.1) (fun x h=>(hy.md hn x h).2.1) kx ky ?_ hd
 rw [hk.2]
 exact (hp.map EC.un).symm
theorem swap_perm {α:Type} {l:List α} {i j:Nat} {x y:α} (hi:l[i]? = some x) (hj:l[j]? = some y):((l.set i y).set j x).Perm l:=by
 obtain ⟨h1,rfl⟩:=List.getElem?_eq_some_iff.1 hi
 obtain ⟨h2,rfl⟩:=List.getElem?_eq_some_iff.1 hj
 exact List.set_set_perm h1 h2
theorem stock_m:Gen 50 [] 1 (RS (·∈stocks4)):=by
 intro zs k hk
 obtain ⟨r1,k1,a1,b1,⟨l,rfl,c1⟩,O1⟩:=one_g (xs:=[[65,67,77,69],[66,79,78,68],[71,79,76,68],[88,49]]) (by decide) (by decide) zs k (by omega)
 refine ⟨_,k1,by omega,by omega,⟨l,rfl,c1⟩,fun E v d hE hv=>?_⟩
 refine sx_ownT1 [] tt_ok mixed at50 E hE d (25,2,tb v k,tb v k1) [SV.ptr 1000 0] _ rfl rfl fun w b hT=>?_
 have hv:=hv.of_old hE.symm hT
 exact ⟨by decide,by decide,strs [[65,67,77,69],[66,79,78,68],[71,79,76,68],[88,49]],by kernel_rfl,rfl,.inr ⟨_,_,_,O1 _ v 1000 4 (by decide) rfl hv,⟨rfl,rfl,trivial⟩,rfl,rfl,rfl,trivial⟩⟩
theorem code_m:Gen 52 [] 1 (RS (·∈codes3)):=by
 intro zs k hk
 obtain ⟨r1,k1,a1,b1,⟨l,rfl,c1⟩,O1⟩:=one_g (xs:=[[85,83,68],[85,83,68],[69,85,82],[71,66,80]]) (by decide) (by decide) zs k (by omega)
 refine ⟨_,k1,by omega,by omega,⟨l,rfl,by simp at c1;rcases c1 with rfl | rfl | rfl<;>simp [codes3]⟩,fun E v d hE hv=>?_⟩
 refine sx_ownT1 [] tt_ok mixed at52 E hE d (25,2,tb v k,tb v k1) [SV.ptr 1000 0] _ rfl rfl fun w b hT=>?_
 have hv:=hv.of_old hE.symm hT
 exact ⟨by decide,by decide,strs [[85,83,68],[85,83,68],[69,85,82],[71,66,80]],by kernel_rfl,rfl,.inr ⟨_,_,_,O1 _ v 1000 4 (by decide) rfl hv,⟨rfl,rfl,trivial⟩,rfl,rfl,rfl,trivial⟩⟩
theorem action_m {day:Int} (hD:0≤day∧day≤73048) (known:Int):Gen 22 [SV.c (.int .i64 day),SV.c (.int .i64 known)] 20 (RC fun a=>(MkA day a∧a.key∈keysA∧a.In)∧a.known=known):=by
 intro zs k hk
 obtain ⟨r1,k1,a1,b1,⟨kind,rfl,c1⟩,O1⟩:=range_g (lo:=1) (hi:=3) (by decide) (by decide) (by decide) zs k (by omega)
 obtain ⟨r2,k2,a2,b2,⟨key,rfl,c2⟩,O2⟩:=one_g (xs:=[[115,49],[115,50],[100,49],[109,49]]) (by decide) (by decide) zs k1 (by omega)
 obtain ⟨r3,k3,a3,b3,⟨ins,rfl,c3⟩,O3⟩:=stock_m zs k2 (by omega)
 obtain ⟨r4,k4,a4,b4,⟨i4,rfl,c4⟩,O4⟩:=next_g (n:=8) (by decide) zs k3 (by omega)
 obtain ⟨r5,k5,a5,b5,⟨cash,rfl,c5⟩,O5⟩:=price_g zs k4 (by omega)
 obtain ⟨r6,k6,a6,b6,⟨cur,rfl,c6⟩,O6⟩:=code_m zs k5 (by omega)
 have lkey:key.length≤9223372036854775807:=by simp at c2;rcases c2 with rfl | rfl | rfl | rfl<;>simp
 have lkey:key.length≤9223372036854775807:=by have:=keysA_len (k:=key) c2;omega
 have lins:=capAll_len (ins4_ok c3)
 have lcur:cur.length≤100:=by
  have h:=c6
  simp only [codes3,List.mem_cons,List.not_mem_nil,or_false] at h
  rcases h with rfl | rfl | rfl<;>decide
 have n0:(MkA day (AC.nil key known)∧(AC.nil key known).key∈keysA∧(AC.nil key known).In)∧(AC.nil key known).known=known:=⟨⟨.inl rfl,c2,nil_in,lkey,by simp [AC.nil],by simp [AC.nil],by simp [AC.nil],by simp [AC.nil],by simp [AC.nil]⟩,rfl⟩
 have mk:∀ (kind:Int) (into:List UInt8) (num den:Int) (r:RQ),into.length≤100→r.In→(isPrice r∨(kind≠2∧r=.of 0 1))→((kind=2∧into=[]∧num=0∧den=0)∨(((kind=1∧into=[])∨(kind=3∧into=[78,69,87,67,79]))∧1≤num∧num≤1000∧1≤den∧den≤1000000))→(MkA day (AC.mk kind key ins into (min 73048 (IntKind.i64.wrap (day+i4))) num den r cur known false)∧key∈keysA∧(AC.mk kind key ins into (min 73048 (IntKind.i64.wrap (day+i4))) num den r cur known false).In)∧known=known:=fun kind into num den r h1 h2 h3 h4=>⟨⟨mk_act hD ⟨c4.1,by omega⟩ c3 c6 h3 h4,c2,h2,lkey,by show ins.length≤_;omega,by show into.length≤_;omega,by show cur.length≤_;omega,by show _≤num∧num≤_;omega,by show _≤den∧den≤_;omega⟩,rfl⟩
 by_cases h2:kind=2
 ·subst h2
  obtain ⟨r7,k7,a7,b7,⟨void,rfl⟩,O7⟩:=chance_g (a:=1) (b:=8) (by decide) zs k6 (by omega)
  cases void
  ·refine ⟨_,k7,by omega,by omega,⟨(AC.mk 2 key ins [] (min 73048 (IntKind.i64.wrap (day+i4))) 0 0 cash cur known false),rfl,mk _ _ _ _ _ (by simp) c5.in_ (.inl c5) (.inl ⟨rfl,rfl,rfl,rfl⟩)⟩,fun E v d hE hv=>?_⟩
   refine sx_ownT1 [] tt_ok mixed at22 E hE d (25,2,tb v k,tb v k7) [SV.ptr 1000 0,SV.c (.int .i64 day),SV.c (.int .i64 known)] _ rfl rfl fun w b hT=>?_
   have hv:=hv.of_old hE.symm hT
   exact .inr ⟨_,_,_,O1 _ v 1000 rfl hv,⟨rfl,trivial⟩,rfl,by decide,by decide,strs [[115,49],[115,50],[100,49],[109,49]],by kernel_rfl,rfl,.inr ⟨_,_,_,O2 _ v 1000 11 (by decide) rfl hv,⟨rfl,rfl,trivial⟩,rfl,.inr ⟨_,_,_,O3 _ v 1000 rfl hv,⟨rfl,trivial⟩,rfl,.inr ⟨_,_,_,O4 _ v 1000 rfl hv,⟨rfl,trivial⟩,rfl,_,fun w' _=>run_min_ct _ _ w',.inr ⟨_,_,_,O5 _ v 1000 rfl hv,⟨rfl,trivial⟩,rfl,.inr ⟨_,_,_,O6 _ v 1000 rfl hv,⟨rfl,trivial⟩,rfl,_,fill_made 2 (min 73048 (IntKind.i64.wrap (day+i4))) known key ins cur cash rfl,AC.fits (AC.mk 2 key ins [] (min 73048 (IntKind.i64.wrap (day+i4))) 0 0 cash cur known false),_,AC.g0 (AC.mk 2 key ins [] (min 73048 (IntKind.i64.wrap (day+i4))) 0 0 cash cur known false),(nf rfl),fun _=>⟨_,AC.g0 (AC.mk 2 key ins [] (min 73048 (IntKind.i64.wrap (day+i4))) 0 0 cash cur known false),(nf rfl),fun _=>⟨_,AC.g0 (AC.mk 2 key ins [] (min 73048 (IntKind.i64.wrap (day+i4))) 0 0 cash cur known false),(nf rfl),fun _=>⟨(nf rfl),fun _=>.inr ⟨_,_,_,O7 _ v 1000 rfl hv,⟨rfl,trivial⟩,rfl,(nf rfl),fun _=>⟨AC.fits _,rfl,rfl,trivial⟩⟩⟩⟩⟩⟩⟩⟩⟩⟩⟩
  ·refine ⟨_,k7,by omega,by omega,⟨AC.nil key known,rfl,n0⟩,fun E v d hE hv=>?_⟩
   refine sx_ownT1 [] tt_ok mixed at22 E hE d (25,2,tb v k,tb v k7) [SV.ptr 1000 0,SV.c (.int .i64 day),SV.c (.int .i64 known)] _ rfl rfl fun w b hT=>?_
   have hv:=hv.of_old hE.symm hT
   exact .inr ⟨_,_,_,O1 _ v 1000 rfl hv,⟨rfl,trivial⟩,rfl,by decide,by decide,strs [[115,49],[115,50],[100,49],[109,49]],by kernel_rfl,rfl,.inr ⟨_,_,_,O2 _ v 1000 11 (by decide) rfl hv,⟨rfl,rfl,trivial⟩,rfl,.inr ⟨_,_,_,O3 _ v 1000 rfl hv,⟨rfl,trivial⟩,rfl,.inr ⟨_,_,_,O4 _ v 1000 rfl hv,⟨rfl,trivial⟩,rfl,_,fun w' _=>run_min_ct _ _ w',.inr ⟨_,_,_,O5 _ v 1000 rfl hv,⟨rfl,trivial⟩,rfl,.inr ⟨_,_,_,O6 _ v 1000 rfl hv,⟨rfl,trivial⟩,rfl,_,fill_made 2 (min 73048 (IntKind.i64.wrap (day+i4))) known key ins cur cash rfl,AC.fits (AC.mk 2 key ins [] (min 73048 (IntKind.i64.wrap (day+i4))) 0 0 cash cur known false),_,AC.g0 (AC.mk 2 key ins [] (min 73048 (IntKind.i64.wrap (day+i4))) 0 0 cash cur known false),(nf rfl),fun _=>⟨_,AC.g0 (AC.mk 2 key ins [] (min 73048 (IntKind.i64.wrap (day+i4))) 0 0 cash cur known false),(nf rfl),fun _=>⟨_,AC.g0 (AC.mk 2 key ins [] (min 73048 (IntKind.i64.wrap (day+i4))) 0 0 cash cur known false),(nf rfl),fun _=>⟨(nf rfl),fun _=>.inr ⟨_,_,_,O7 _ v 1000 rfl hv,⟨rfl,trivial⟩,rfl,fun _=>⟨_,AC.g1 (AC.mk 2 key ins [] (min 73048 (IntKind.i64.wrap (day+i4))) 0 0 cash cur known false),_,fill_void key known rfl,AC.fits _,rfl,rfl,trivial⟩,(nf rfl)⟩⟩⟩⟩⟩⟩⟩⟩⟩⟩
 have hk3:kind=1∨kind=3:=by omega
 rcases hk3 with hk3 | hk3
 ·subst hk3
  obtain ⟨r7,k7,a7,b7,⟨i7,rfl,c7⟩,O7⟩:=next_g (n:=50) (by decide) zs k6 (by omega)
  have e7:IntKind.i64.wrap (1+i7)=1+i7:=i64_in (by omega)
  obtain ⟨r8,k8,a8,b8,⟨num,rfl,c8⟩,O8⟩:=pick_g (xs:=[1,2,3,10,1000,IntKind.i64.wrap (1+i7)]) (by simp) (by simp) zs k7 (by omega)
  obtain ⟨r9,k9,a9,b9,⟨i9,rfl,c9⟩,O9⟩:=next_g (n:=50) (by decide) zs k8 (by omega)
  have e9:IntKind.i64.wrap (1+i9)=1+i9:=i64_in (by omega)
  obtain ⟨r10,k10,a10,b10,⟨den,rfl,c10⟩,O10⟩:=pick_g (xs:=[1,1,2,3,7,1000000,IntKind.i64.wrap (1+i9)]) (by simp) (by simp) zs k9 (by omega)
  have q8:1≤num∧num≤1000:=by rw [e7] at c8;simp at c8;omega
  have q10:1≤den∧den≤1000000:=by rw [e9] at c10;simp at c10;omega
  obtain ⟨r11,k11,a11,b11,⟨zero,rfl⟩,O11⟩:=chance_g (a:=1) (b:=4) (by decide) zs k10 (by omega)
  obtain ⟨r12,k12,a12,b12,⟨void,rfl⟩,O12⟩:=chance_g (a:=1) (b:=8) (by decide) zs k11 (by omega)
  cases zero
  ·cases void
   ·refine ⟨_,k12,by omega,by omega,⟨(AC.mk 1 key ins [] (min 73048 (IntKind.i64.wrap (day+i4))) num den cash cur known false),rfl,mk _ _ _ _ _ (by simp) c5.in_ (.inl c5) (.inr ⟨.inl ⟨rfl,rfl⟩,q8.1,q8.2,q10.1,q10.2⟩)⟩,fun E v d hE hv=>?_⟩
    refine sx_ownT1 [] tt_ok mixed at22 E hE d (25,2,tb v k,tb v k12) [SV.ptr 1000 0,SV.c (.int .i64 day),SV.c (.int .i64 known)] _ rfl rfl fun w b hT=>?_
    have hv:=hv.of_old hE.symm hT
    exact .inr ⟨_,_,_,O1 _ v 1000 rfl hv,⟨rfl,trivial⟩,rfl,by decide,by decide,strs [[115,49],[115,50],[100,49],[109,49]],by kernel_rfl,rfl,.inr ⟨_,_,_,O2 _ v 1000 11 (by decide) rfl hv,⟨rfl,rfl,trivial⟩,rfl,.inr ⟨_,_,_,O3 _ v 1000 rfl hv,⟨rfl,trivial⟩,rfl,.inr ⟨_,_,_,O4 _ v 1000 rfl hv,⟨rfl,trivial⟩,rfl,_,fun w' _=>run_min_ct _ _ w',.inr ⟨_,_,_,O5 _ v 1000 rfl hv,⟨rfl,trivial⟩,rfl,.inr ⟨_,_,_,O6 _ v 1000 rfl hv,⟨rfl,trivial⟩,rfl,_,fill_made 1 (min 73048 (IntKind.i64.wrap (day+i4))) known key ins cur cash rfl,AC.fits (AC.mk 1 key ins [] (min 73048 (IntKind.i64.wrap (day+i4))) 0 0 cash cur known false),_,AC.g0 (AC.mk 1 key ins [] (min 73048 (IntKind.i64.wrap (day+i4))) 0 0 cash cur known false),fun _=>.inr ⟨_,_,_,O7 _ v 1000 rfl hv,⟨rfl,trivial⟩,rfl,by decide,by decide,ints [1,2,3,10,1000,IntKind.i64.wrap (1+i7)],by kernel_rfl,rfl,.inr ⟨_,_,_,O8 _ v 1000 33 (by decide) rfl hv,⟨rfl,rfl,trivial⟩,rfl,.inr ⟨_,_,_,O9 _ v 1000 rfl hv,⟨rfl,trivial⟩,rfl,by decide,by decide,ints [1,1,2,3,7,1000000,IntKind.i64.wrap (1+i9)],by kernel_rfl,rfl,.inr ⟨_,_,_,O10 _ v 1000 39 (by decide) rfl hv,⟨rfl,rfl,trivial⟩,rfl,by decide,rfl,_,AC.set5 (AC.mk 1 key ins [] (min 73048 (IntKind.i64.wrap (day+i4))) 0 0 cash cur known false) num,by decide,rfl,_,AC.set6 (AC.mk 1 key ins [] (min 73048 (IntKind.i64.wrap (day+i4))) num 0 cash cur known false) den,_,AC.g0 (AC.mk 1 key ins [] (min 73048 (IntKind.i64.wrap (day+i4))) num den cash cur known false),(nf rfl),fun _=>⟨_,AC.g0 (AC.mk 1 key ins [] (min 73048 (IntKind.i64.wrap (day+i4))) num den cash cur known false),fun _=>.inr ⟨_,_,_,O11 _ v 1000 rfl hv,⟨rfl,trivial⟩,rfl,(nf rfl),fun _=>.inr ⟨_,_,_,O12 _ v 1000 rfl hv,⟨rfl,trivial⟩,rfl,(nf rfl),fun _=>⟨AC.fits _,rfl,rfl,trivial⟩⟩⟩,(nf rfl)⟩⟩⟩⟩⟩,(nf rfl)⟩⟩⟩⟩⟩⟩
   ·refine ⟨_,k12,by omega,by omega,⟨AC.nil key known,rfl,n0⟩,fun E v d hE hv=>?_⟩
    refine sx_ownT1 [] tt_ok mixed at22 E hE d (25,2,tb v k,tb v k12) [SV.ptr 1000 0,SV.c (.int .i64 day),SV.c (.int .i64 known)] _ rfl rfl fun w b hT=>?_
    have hv:=hv.of_old hE.symm hT
    exact .inr ⟨_,_,_,O1 _ v 1000 rfl hv,⟨rfl,trivial⟩,rfl,by decide,by decide,strs [[115,49],[115,50],[100,49],[109,49]],by kernel_rfl,rfl,.inr ⟨_,_,_,O2 _ v 1000 11 (by decide) rfl hv,⟨rfl,rfl,trivial⟩,rfl,.inr ⟨_,_,_,O3 _ v 1000 rfl hv,⟨rfl,trivial⟩,rfl,.inr ⟨_,_,_,O4 _ v 1000 rfl hv,⟨rfl,trivial⟩,rfl,_,fun w' _=>run_min_ct _ _ w',.inr ⟨_,_,_,O5 _ v 1000 rfl hv,⟨rfl,trivial⟩,rfl,.inr ⟨_,_,_,O6 _ v 1000 rfl hv,⟨rfl,trivial⟩,rfl,_,fill_made 1 (min 73048 (IntKind.i64.wrap (day+i4))) known key ins cur cash rfl,AC.fits (AC.mk 1 key ins [] (min 73048 (IntKind.i64.wrap (day+i4))) 0 0 cash cur known false),_,AC.g0 (AC.mk 1 key ins [] (min 73048 (IntKind.i64.wrap (day+i4))) 0 0 cash cur known false),fun _=>.inr ⟨_,_,_,O7 _ v 1000 rfl hv,⟨rfl,trivial⟩,rfl,by decide,by decide,ints [1,2,3,10,1000,IntKind.i64.wrap (1+i7)],by kernel_rfl,rfl,.inr ⟨_,_,_,O8 _ v 1000 33 (by decide) rfl hv,⟨rfl,rfl,trivial⟩,rfl,.inr ⟨_,_,_,O9 _ v 1000 rfl hv,⟨rfl,trivial⟩,rfl,by decide,by decide,ints [1,1,2,3,7,1000000,IntKind.i64.wrap (1+i9)],by kernel_rfl,rfl,.inr ⟨_,_,_,O10 _ v 1000 39 (by decide) rfl hv,⟨rfl,rfl,trivial⟩,rfl,by decide,rfl,_,AC.set5 (AC.mk 1 key ins [] (min 73048 (IntKind.i64.wrap (day+i4))) 0 0 cash cur known false) num,by decide,rfl,_,AC.set6 (AC.mk 1 key ins [] (min 73048 (IntKind.i64.wrap (day+i4))) num 0 cash cur known false) den,_,AC.g0 (AC.mk 1 key ins [] (min 73048 (IntKind.i64.wrap (day+i4))) num den cash cur known false),(nf rfl),fun _=>⟨_,AC.g0 (AC.mk 1 key ins [] (min 73048 (IntKind.i64.wrap (day+i4))) num den cash cur known false),fun _=>.inr ⟨_,_,_,O11 _ v 1000 rfl hv,⟨rfl,trivial⟩,rfl,(nf rfl),fun _=>.inr ⟨_,_,_,O12 _ v 1000 rfl hv,⟨rfl,trivial⟩,rfl,fun _=>⟨_,AC.g1 (AC.mk 1 key ins [] (min 73048 (IntKind.i64.wrap (day+i4))) num den cash cur known false),_,fill_void key known rfl,AC.fits _,rfl,rfl,trivial⟩,(nf rfl)⟩⟩,(nf rfl)⟩⟩⟩⟩⟩,(nf rfl)⟩⟩⟩⟩⟩⟩
  ·cases void
   ·refine ⟨_,k12,by omega,by omega,⟨(AC.mk 1 key ins [] (min 73048 (IntKind.i64.wrap (day+i4))) num den (RQ.of 0 1) cur known false),rfl,mk _ _ _ _ _ (by simp) one_in0 (.inr ⟨by decide,rfl⟩) (.inr ⟨.inl ⟨rfl,rfl⟩,q8.1,q8.2,q10.1,q10.2⟩)⟩,fun E v d hE hv=>?_⟩
    refine sx_ownT1 [] tt_ok mixed at22 E hE d (25,2,tb v k,tb v k12) [SV.ptr 1000 0,SV.c (.int .i64 day),SV.c (.int .i64 known)] _ rfl rfl fun w b hT=>?_
    have hv:=hv.of_old hE.symm hT
    exact .inr ⟨_,_,_,O1 _ v 1000 rfl hv,⟨rfl,trivial⟩,rfl,by decide,by decide,strs [[115,49],[115,50],[100,49],[109,49]],by kernel_rfl,rfl,.inr ⟨_,_,_,O2 _ v 1000 11 (by decide) rfl hv,⟨rfl,rfl,trivial⟩,rfl,.inr ⟨_,_,_,O3 _ v 1000 rfl hv,⟨rfl,trivial⟩,rfl,.inr ⟨_,_,_,O4 _ v 1000 rfl hv,⟨rfl,trivial⟩,rfl,_,fun w' _=>run_min_ct _ _ w',.inr ⟨_,_,_,O5 _ v 1000 rfl hv,⟨rfl,trivial⟩,rfl,.inr ⟨_,_,_,O6 _ v 1000 rfl hv,⟨rfl,trivial⟩,rfl,_,fill_made 1 (min 73048 (IntKind.i64.wrap (day+i4))) known key ins cur cash rfl,AC.fits (AC.mk 1 key ins [] (min 73048 (IntKind.i64.wrap (day+i4))) 0 0 cash cur known false),_,AC.g0 (AC.mk 1 key ins [] (min 73048 (IntKind.i64.wrap (day+i4))) 0 0 cash cur known false),fun _=>.inr ⟨_,_,_,O7 _ v 1000 rfl hv,⟨rfl,trivial⟩,rfl,by decide,by decide,ints [1,2,3,10,1000,IntKind.i64.wrap (1+i7)],by kernel_rfl,rfl,.inr ⟨_,_,_,O8 _ v 1000 33 (by decide) rfl hv,⟨rfl,rfl,trivial⟩,rfl,.inr ⟨_,_,_,O9 _ v 1000 rfl hv,⟨rfl,trivial⟩,rfl,by decide,by decide,ints [1,1,2,3,7,1000000,IntKind.i64.wrap (1+i9)],by kernel_rfl,rfl,.inr ⟨_,_,_,O10 _ v 1000 39 (by decide) rfl hv,⟨rfl,rfl,trivial⟩,rfl,by decide,rfl,_,AC.set5 (AC.mk 1 key ins [] (min 73048 (IntKind.i64.wrap (day+i4))) 0 0 cash cur known false) num,by decide,rfl,_,AC.set6 (AC.mk 1 key ins [] (min 73048 (IntKind.i64.wrap (day+i4))) num 0 cash cur known false) den,_,AC.g0 (AC.mk 1 key ins [] (min 73048 (IntKind.i64.wrap (day+i4))) num den cash cur known false),(nf rfl),fun _=>⟨_,AC.g0 (AC.mk 1 key ins [] (min 73048 (IntKind.i64.wrap (day+i4))) num den cash cur known false),fun _=>.inr ⟨_,_,_,O11 _ v 1000 rfl hv,⟨rfl,trivial⟩,rfl,fun _=>.inl ⟨_,zeroR_r,by decide,RQ.A_fits _,_,AC.setcash (AC.mk 1 key ins [] (min 73048 (IntKind.i64.wrap (day+i4))) num den cash cur known false) (RQ.of 0 1),.inr ⟨_,_,_,O12 _ v 1000 rfl hv,⟨rfl,trivial⟩,rfl,(nf rfl),fun _=>⟨AC.fits _,rfl,rfl,trivial⟩⟩⟩,(nf rfl)⟩,(nf rfl)⟩⟩⟩⟩⟩,(nf rfl)⟩⟩⟩⟩⟩⟩
   ·refine ⟨_,k12,by omega,by omega,⟨AC.nil key known,rfl,n0⟩,fun E v d hE hv=>?_⟩
    refine sx_ownT1 [] tt_ok mixed at22 E hE d (25,2,tb v k,tb v k12) [SV.ptr 1000 0,SV.c (.int .i64 day),SV.c (.int .i64 known)] _ rfl rfl fun w b hT=>?_
    have hv:=hv.of_old hE.symm hT
    exact .inr ⟨_,_,_,O1 _ v 1000 rfl hv,⟨rfl,trivial⟩,rfl,by decide,by decide,strs [[115,49],[115,50],[100,49],[109,49]],by kernel_rfl,rfl,.inr ⟨_,_,_,O2 _ v 1000 11 (by decide) rfl hv,⟨rfl,rfl,trivial⟩,rfl,.inr ⟨_,_,_,O3 _ v 1000 rfl hv,⟨rfl,trivial⟩,rfl,.inr ⟨_,_,_,O4 _ v 1000 rfl hv,⟨rfl,trivial⟩,rfl,_,fun w' _=>run_min_ct _ _ w',.inr ⟨_,_,_,O5 _ v 1000 rfl hv,⟨rfl,trivial⟩,rfl,.inr ⟨_,_,_,O6 _ v 1000 rfl hv,⟨rfl,trivial⟩,rfl,_,fill_made 1 (min 73048 (IntKind.i64.wrap (day+i4))) known key ins cur cash rfl,AC.fits (AC.mk 1 key ins [] (min 73048 (IntKind.i64.wrap (day+i4))) 0 0 cash cur known false),_,AC.g0 (AC.mk 1 key ins [] (min 73048 (IntKind.i64.wrap (day+i4))) 0 0 cash cur known false),fun _=>.inr ⟨_,_,_,O7 _ v 1000 rfl hv,⟨rfl,trivial⟩,rfl,by decide,by decide,ints [1,2,3,10,1000,IntKind.i64.wrap (1+i7)],by kernel_rfl,rfl,.inr ⟨_,_,_,O8 _ v 1000 33 (by decide) rfl hv,⟨rfl,rfl,trivial⟩,rfl,.inr ⟨_,_,_,O9 _ v 1000 rfl hv,⟨rfl,trivial⟩,rfl,by decide,by decide,ints [1,1,2,3,7,1000000,IntKind.i64.wrap (1+i9)],by kernel_rfl,rfl,.inr ⟨_,_,_,O10 _ v 1000 39 (by decide) rfl hv,⟨rfl,rfl,trivial⟩,rfl,by decide,rfl,_,AC.set5 (AC.mk 1 key ins [] (min 73048 (IntKind.i64.wrap (day+i4))) 0 0 cash cur known false) num,by decide,rfl,_,AC.set6 (AC.mk 1 key ins [] (min 73048 (IntKind.i64.wrap (day+i4))) num 0 cash cur known false) den,_,AC.g0 (AC.mk 1 key ins [] (min 73048 (IntKind.i64.wrap (day+i4))) num den cash cur known false),(nf rfl),fun _=>⟨_,AC.g0 (AC.mk 1 key ins [] (min 73048 (IntKind.i64.wrap (day+i4))) num den cash cur known false),fun _=>.inr ⟨_,_,_,O11 _ v 1000 rfl hv,⟨rfl,trivial⟩,rfl,fun _=>.inl ⟨_,zeroR_r,by decide,RQ.A_fits _,_,AC.setcash (AC.mk 1 key ins [] (min 73048 (IntKind.i64.wrap (day+i4))) num den cash cur known false) (RQ.of 0 1),.inr ⟨_,_,_,O12 _ v 1000 rfl hv,⟨rfl,trivial⟩,rfl,fun _=>⟨_,AC.g1 (AC.mk 1 key ins [] (min 73048 (IntKind.i64.wrap (day+i4))) num den (RQ.of 0 1) cur known false),_,fill_void key known rfl,AC.fits _,rfl,rfl,trivial⟩,(nf rfl)⟩⟩,(nf rfl)⟩,(nf rfl)⟩⟩⟩⟩⟩,(nf rfl)⟩⟩⟩⟩⟩⟩
 ·subst hk3
  obtain ⟨r7,k7,a7,b7,⟨i7,rfl,c7⟩,O7⟩:=next_g (n:=50) (by decide) zs k6 (by omega)
  have e7:IntKind.i64.wrap (1+i7)=1+i7:=i64_in (by omega)
  obtain ⟨r8,k8,a8,b8,⟨num,rfl,c8⟩,O8⟩:=pick_g (xs:=[1,2,3,10,1000,IntKind.i64.wrap (1+i7)]) (by simp) (by simp) zs k7 (by omega)
  obtain ⟨r9,k9,a9,b9,⟨i9,rfl,c9⟩,O9⟩:=next_g (n:=50) (by decide) zs k8 (by omega)
  have e9:IntKind.i64.wrap (1+i9)=1+i9:=i64_in (by omega)
  obtain ⟨r10,k10,a10,b10,⟨den,rfl,c10⟩,O10⟩:=pick_g (xs:=[1,1,2,3,7,1000000,IntKind.i64.wrap (1+i9)]) (by simp) (by simp) zs k9 (by omega)
  have q8:1≤num∧num≤1000:=by rw [e7] at c8;simp at c8;omega
  have q10:1≤den∧den≤1000000:=by rw [e9] at c10;simp at c10;omega
  obtain ⟨r11,k11,a11,b11,⟨zero,rfl⟩,O11⟩:=chance_g (a:=1) (b:=4) (by decide) zs k10 (by omega)
  obtain ⟨r12,k12,a12,b12,⟨void,rfl⟩,O12⟩:=chance_g (a:=1) (b:=8) (by decide) zs k11 (by omega)
  cases zero
  ·cases void
   ·refine ⟨_,k12,by omega,by omega,⟨(AC.mk 3 key ins [78,69,87,67,79] (min 73048 (IntKind.i64.wrap (day+i4))) num den cash cur known false),rfl,mk _ _ _ _ _ (by simp) c5.in_ (.inl c5) (.inr ⟨.inr ⟨rfl,rfl⟩,q8.1,q8.2,q10.1,q10.2⟩)⟩,fun E v d hE hv=>?_⟩
    refine sx_ownT1 [] tt_ok mixed at22 E hE d (25,2,tb v k,tb v k12) [SV.ptr 1000 0,SV.c (.int .i64 day),SV.c (.int .i64 known)] _ rfl rfl fun w b hT=>?_
    have hv:=hv.of_old hE.symm hT
    exact .inr ⟨_,_,_,O1 _ v 1000 rfl hv,⟨rfl,trivial⟩,rfl,by decide,by decide,strs [[115,49],[115,50],[100,49],[109,49]],by kernel_rfl,rfl,.inr ⟨_,_,_,O2 _ v 1000 11 (by decide) rfl hv,⟨rfl,rfl,trivial⟩,rfl,.inr ⟨_,_,_,O3 _ v 1000 rfl hv,⟨rfl,trivial⟩,rfl,.inr ⟨_,_,_,O4 _ v 1000 rfl hv,⟨rfl,trivial⟩,rfl,_,fun w' _=>run_min_ct _ _ w',.inr ⟨_,_,_,O5 _ v 1000 rfl hv,⟨rfl,trivial⟩,rfl,.inr ⟨_,_,_,O6 _ v 1000 rfl hv,⟨rfl,trivial⟩,rfl,_,fill_made 3 (min 73048 (IntKind.i64.wrap (day+i4))) known key ins cur cash rfl,AC.fits (AC.mk 3 key ins [] (min 73048 (IntKind.i64.wrap (day+i4))) 0 0 cash cur known false),_,AC.g0 (AC.mk 3 key ins [] (min 73048 (IntKind.i64.wrap (day+i4))) 0 0 cash cur known false),fun _=>.inr ⟨_,_,_,O7 _ v 1000 rfl hv,⟨rfl,trivial⟩,rfl,by decide,by decide,ints [1,2,3,10,1000,IntKind.i64.wrap (1+i7)],by kernel_rfl,rfl,.inr ⟨_,_,_,O8 _ v 1000 33 (by decide) rfl hv,⟨rfl,rfl,trivial⟩,rfl,.inr ⟨_,_,_,O9 _ v 1000 rfl hv,⟨rfl,trivial⟩,rfl,by decide,by decide,ints [1,1,2,3,7,1000000,IntKind.i64.wrap (1+i9)],by kernel_rfl,rfl,.inr ⟨_,_,_,O10 _ v 1000 39 (by decide) rfl hv,⟨rfl,rfl,trivial⟩,rfl,by decide,rfl,_,AC.set5 (AC.mk 3 key ins [] (min 73048 (IntKind.i64.wrap (day+i4))) 0 0 cash cur known false) num,by decide,rfl,_,AC.set6 (AC.mk 3 key ins [] (min 73048 (IntKind.i64.wrap (day+i4))) num 0 cash cur known false) den,_,AC.g0 (AC.mk 3 key ins [] (min 73048 (IntKind.i64.wrap (day+i4))) num den cash cur known false),fun _=>⟨by decide,rfl,_,AC.set3 (AC.mk 3 key ins [] (min 73048 (IntKind.i64.wrap (day+i4))) num den cash cur known false) [78,69,87,67,79],_,AC.g0 (AC.mk 3 key ins [78,69,87,67,79] (min 73048 (IntKind.i64.wrap (day+i4))) num den cash cur known false),fun _=>.inr ⟨_,_,_,O11 _ v 1000 rfl hv,⟨rfl,trivial⟩,rfl,(nf rfl),fun _=>.inr ⟨_,_,_,O12 _ v 1000 rfl hv,⟨rfl,trivial⟩,rfl,(nf rfl),fun _=>⟨AC.fits _,rfl,rfl,trivial⟩⟩⟩,(nf rfl)⟩,(nf rfl)⟩⟩⟩⟩,(nf rfl)⟩⟩⟩⟩⟩⟩
   ·refine ⟨_,k12,by omega,by omega,⟨AC.nil key known,rfl,n0⟩,fun E v d hE hv=>?_⟩
    refine sx_ownT1 [] tt_ok mixed at22 E hE d (25,2,tb v k,tb v k12) [SV.ptr 1000 0,SV.c (.int .i64 day),SV.c (.int .i64 known)] _ rfl rfl fun w b hT=>?_
    have hv:=hv.of_old hE.symm hT
    exact .inr ⟨_,_,_,O1 _ v 1000 rfl hv,⟨rfl,trivial⟩,rfl,by decide,by decide,strs [[115,49],[115,50],[100,49],[109,49]],by kernel_rfl,rfl,.inr ⟨_,_,_,O2 _ v 1000 11 (by decide) rfl hv,⟨rfl,rfl,trivial⟩,rfl,.inr ⟨_,_,_,O3 _ v 1000 rfl hv,⟨rfl,trivial⟩,rfl,.inr ⟨_,_,_,O4 _ v 1000 rfl hv,⟨rfl,trivial⟩,rfl,_,fun w' _=>run_min_ct _ _ w',.inr ⟨_,_,_,O5 _ v 1000 rfl hv,⟨rfl,trivial⟩,rfl,.inr ⟨_,_,_,O6 _ v 1000 rfl hv,⟨rfl,trivial⟩,rfl,_,fill_made 3 (min 73048 (IntKind.i64.wrap (day+i4))) known key ins cur cash rfl,AC.fits (AC.mk 3 key ins [] (min 73048 (IntKind.i64.wrap (day+i4))) 0 0 cash cur known false),_,AC.g0 (AC.mk 3 key ins [] (min 73048 (IntKind.i64.wrap (day+i4))) 0 0 cash cur known false),fun _=>.inr ⟨_,_,_,O7 _ v 1000 rfl hv,⟨rfl,trivial⟩,rfl,by decide,by decide,ints [1,2,3,10,1000,IntKind.i64.wrap (1+i7)],by kernel_rfl,rfl,.inr ⟨_,_,_,O8 _ v 1000 33 (by decide) rfl hv,⟨rfl,rfl,trivial⟩,rfl,.inr ⟨_,_,_,O9 _ v 1000 rfl hv,⟨rfl,trivial⟩,rfl,by decide,by decide,ints [1,1,2,3,7,1000000,IntKind.i64.wrap (1+i9)],by kernel_rfl,rfl,.inr ⟨_,_,_,O10 _ v 1000 39 (by decide) rfl hv,⟨rfl,rfl,trivial⟩,rfl,by decide,rfl,_,AC.set5 (AC.mk 3 key ins [] (min 73048 (IntKind.i64.wrap (day+i4))) 0 0 cash cur known false) num,by decide,rfl,_,AC.set6 (AC.mk 3 key ins [] (min 73048 (IntKind.i64.wrap (day+i4))) num 0 cash cur known false) den,_,AC.g0 (AC.mk 3 key ins [] (min 73048 (IntKind.i64.wrap (day+i4))) num den cash cur known false),fun _=>⟨by decide,rfl,_,AC.set3 (AC.mk 3 key ins [] (min 73048 (IntKind.i64.wrap (day+i4))) num den cash cur known false) [78,69,87,67,79],_,AC.g0 (AC.mk 3 key ins [78,69,87,67,79] (min 73048 (IntKind.i64.wrap (day+i4))) num den cash cur known false),fun _=>.inr ⟨_,_,_,O11 _ v 1000 rfl hv,⟨rfl,trivial⟩,rfl,(nf rfl),fun _=>.inr ⟨_,_,_,O12 _ v 1000 rfl hv,⟨rfl,trivial⟩,rfl,fun _=>⟨_,AC.g1 (AC.mk 3 key ins [78,69,87,67,79] (min 73048 (IntKind.i64.wrap (day+i4))) num den cash cur known false),_,fill_void key known rfl,AC.fits _,rfl,rfl,trivial⟩,(nf rfl)⟩⟩,(nf rfl)⟩,(nf rfl)⟩⟩⟩⟩,(nf rfl)⟩⟩⟩⟩⟩⟩
  ·cases void
   ·refine ⟨_,k12,by omega,by omega,⟨(AC.mk 3 key ins [78,69,87,67,79] (min 73048 (IntKind.i64.wrap (day+i4))) num den (RQ.of 0 1) cur known false),rfl,mk _ _ _ _ _ (by simp) one_in0 (.inr ⟨by decide,rfl⟩) (.inr ⟨.inr ⟨rfl,rfl⟩,q8.1,q8.2,q10.1,q10.2⟩)⟩,fun E v d hE hv=>?_⟩
    refine sx_ownT1 [] tt_ok mixed at22 E hE d (25,2,tb v k,tb v k12) [SV.ptr 1000 0,SV.c (.int .i64 day),SV.c (.int .i64 known)] _ rfl rfl fun w b hT=>?_
    have hv:=hv.of_old hE.symm hT
    exact .inr ⟨_,_,_,O1 _ v 1000 rfl hv,⟨rfl,trivial⟩,rfl,by decide,by decide,strs [[115,49],[115,50],[100,49],[109,49]],by kernel_rfl,rfl,.inr ⟨_,_,_,O2 _ v 1000 11 (by decide) rfl hv,⟨rfl,rfl,trivial⟩,rfl,.inr ⟨_,_,_,O3 _ v 1000 rfl hv,⟨rfl,trivial⟩,rfl,.inr ⟨_,_,_,O4 _ v 1000 rfl hv,⟨rfl,trivial⟩,rfl,_,fun w' _=>run_min_ct _ _ w',.inr ⟨_,_,_,O5 _ v 1000 rfl hv,⟨rfl,trivial⟩,rfl,.inr ⟨_,_,_,O6 _ v 1000 rfl hv,⟨rfl,trivial⟩,rfl,_,fill_made 3 (min 73048 (IntKind.i64.wrap (day+i4))) known key ins cur cash rfl,AC.fits (AC.mk 3 key ins [] (min 73048 (IntKind.i64.wrap (day+i4))) 0 0 cash cur known false),_,AC.g0 (AC.mk 3 key ins [] (min 73048 (IntKind.i64.wrap (day+i4))) 0 0 cash cur known false),fun _=>.inr ⟨_,_,_,O7 _ v 1000 rfl hv,⟨rfl,trivial⟩,rfl,by decide,by decide,ints [1,2,3,10,1000,IntKind.i64.wrap (1+i7)],by kernel_rfl,rfl,.inr ⟨_,_,_,O8 _ v 1000 33 (by decide) rfl hv,⟨rfl,rfl,trivial⟩,rfl,.inr ⟨_,_,_,O9 _ v 1000 rfl hv,⟨rfl,trivial⟩,rfl,by decide,by decide,ints [1,1,2,3,7,1000000,IntKind.i64.wrap (1+i9)],by kernel_rfl,rfl,.inr ⟨_,_,_,O10 _ v 1000 39 (by decide) rfl hv,⟨rfl,rfl,trivial⟩,rfl,by decide,rfl,_,AC.set5 (AC.mk 3 key ins [] (min 73048 (IntKind.i64.wrap (day+i4))) 0 0 cash cur known false) num,by decide,rfl,_,AC.set6 (AC.mk 3 key ins [] (min 73048 (IntKind.i64.wrap (day+i4))) num 0 cash cur known false) den,_,AC.g0 (AC.mk 3 key ins [] (min 73048 (IntKind.i64.wrap (day+i4))) num den cash cur known false),fun _=>⟨by decide,rfl,_,AC.set3 (AC.mk 3 key ins [] (min 73048 (IntKind.i64.wrap (day+i4))) num den cash cur known false) [78,69,87,67,79],_,AC.g0 (AC.mk 3 key ins [78,69,87,67,79] (min 73048 (IntKind.i64.wrap (day+i4))) num den cash cur known false),fun _=>.inr ⟨_,_,_,O11 _ v 1000 rfl hv,⟨rfl,trivial⟩,rfl,fun _=>.inl ⟨_,zeroR_r,by decide,RQ.A_fits _,_,AC.setcash (AC.mk 3 key ins [78,69,87,67,79] (min 73048 (IntKind.i64.wrap (day+i4))) num den cash cur known false) (RQ.of 0 1),.inr ⟨_,_,_,O12 _ v 1000 rfl hv,⟨rfl,trivial⟩,rfl,(nf rfl),fun _=>⟨AC.fits _,rfl,rfl,trivial⟩⟩⟩,(nf rfl)⟩,(nf rfl)⟩,(nf rfl)⟩⟩⟩⟩,(nf rfl)⟩⟩⟩⟩⟩⟩
   ·refine ⟨_,k12,by omega,by omega,⟨AC.nil key known,rfl,n0⟩,fun E v d hE hv=>?_⟩
    refine sx_ownT1 [] tt_ok mixed at22 E hE d (25,2,tb v k,tb v k12) [SV.ptr 1000 0,SV.c (.int .i64 day),SV.c (.int .i64 known)] _ rfl rfl fun w b hT=>?_
    have hv:=hv.of_old hE.symm hT
    exact .inr ⟨_,_,_,O1 _ v 1000 rfl hv,⟨rfl,trivial⟩,rfl,by decide,by decide,strs [[115,49],[115,50],[100,49],[109,49]],by kernel_rfl,rfl,.inr ⟨_,_,_,O2 _ v 1000 11 (by decide) rfl hv,⟨rfl,rfl,trivial⟩,rfl,.inr ⟨_,_,_,O3 _ v 1000 rfl hv,⟨rfl,trivial⟩,rfl,.inr ⟨_,_,_,O4 _ v 1000 rfl hv,⟨rfl,trivial⟩,rfl,_,fun w' _=>run_min_ct _ _ w',.inr ⟨_,_,_,O5 _ v 1000 rfl hv,⟨rfl,trivial⟩,rfl,.inr ⟨_,_,_,O6 _ v 1000 rfl hv,⟨rfl,trivial⟩,rfl,_,fill_made 3 (min 73048 (IntKind.i64.wrap (day+i4))) known key ins cur cash rfl,AC.fits (AC.mk 3 key ins [] (min 73048 (IntKind.i64.wrap (day+i4))) 0 0 cash cur known false),_,AC.g0 (AC.mk 3 key ins [] (min 73048 (IntKind.i64.wrap (day+i4))) 0 0 cash cur known false),fun _=>.inr ⟨_,_,_,O7 _ v 1000 rfl hv,⟨rfl,trivial⟩,rfl,by decide,by decide,ints [1,2,3,10,1000,IntKind.i64.wrap (1+i7)],by kernel_rfl,rfl,.inr ⟨_,_,_,O8 _ v 1000 33 (by decide) rfl hv,⟨rfl,rfl,trivial⟩,rfl,.inr ⟨_,_,_,O9 _ v 1000 rfl hv,⟨rfl,trivial⟩,rfl,by decide,by decide,ints [1,1,2,3,7,1000000,IntKind.i64.wrap (1+i9)],by kernel_rfl,rfl,.inr ⟨_,_,_,O10 _ v 1000 39 (by decide) rfl hv,⟨rfl,rfl,trivial⟩,rfl,by decide,rfl,_,AC.set5 (AC.mk 3 key ins [] (min 73048 (IntKind.i64.wrap (day+i4))) 0 0 cash cur known false) num,by decide,rfl,_,AC.set6 (AC.mk 3 key ins [] (min 73048 (IntKind.i64.wrap (day+i4))) num 0 cash cur known false) den,_,AC.g0 (AC.mk 3 key ins [] (min 73048 (IntKind.i64.wrap (day+i4))) num den cash cur known false),fun _=>⟨by decide,rfl,_,AC.set3 (AC.mk 3 key ins [] (min 73048 (IntKind.i64.wrap (day+i4))) num den cash cur known false) [78,69,87,67,79],_,AC.g0 (AC.mk 3 key ins [78,69,87,67,79] (min 73048 (IntKind.i64.wrap (day+i4))) num den cash cur known false),fun _=>.inr ⟨_,_,_,O11 _ v 1000 rfl hv,⟨rfl,trivial⟩,rfl,fun _=>.inl ⟨_,zeroR_r,by decide,RQ.A_fits _,_,AC.setcash (AC.mk 3 key ins [78,69,87,67,79] (min 73048 (IntKind.i64.wrap (day+i4))) num den cash cur known false) (RQ.of 0 1),.inr ⟨_,_,_,O12 _ v 1000 rfl hv,⟨rfl,trivial⟩,rfl,fun _=>⟨_,AC.g1 (AC.mk 3 key ins [78,69,87,67,79] (min 73048 (IntKind.i64.wrap (day+i4))) num den (RQ.of 0 1) cur known false),_,fill_void key known rfl,AC.fits _,rfl,rfl,trivial⟩,(nf rfl)⟩⟩,(nf rfl)⟩,(nf rfl)⟩,(nf rfl)⟩⟩⟩⟩,(nf rfl)⟩⟩⟩⟩⟩⟩
def ActM (D:Int) (n:Nat) (k:Nat) (v:Value) (x:Value) (U:MemL):Prop:=∃ (xs:List AC) (k':Nat) (b:Int),k≤k'∧k'≤k+1000∧IsL x n∧MkLA D n b xs∧b≤2+5*n∧U=[(1000,Blk.row 25 2 (tb v k')),(3000,Blk.own x 61 76 n (cat AC.A xs))]
theorem actions_m {E:Env} (hE:E.P=Tryz.prog) {v:Value} {zs:List Int} (hv:Tp E v zs) {n k:Nat} (hn:n≤8) (hk:k+1000≤4000000000000000000) {day:Int} (hD:0≤day∧day≤73048):OwnC E 20 [SV.ptr 1000 0,SV.c (.int .i64 (n:Nat)),SV.c (.int .i64 day)] [(1000,Blk.row 25 2 (tb v k))] (ActM day n k v):=by
 refine sx_ownC [] tt_ok mixed at20 E hE [SV.ptr 1000 0,SV.c (.int .i64 (n:Nat)),SV.c (.int .i64 day)] [(1000,Blk.row 25 2 (tb v k))] _ rfl rfl fun w X β hT=>?_
 have hv':Tp (envC Tryz.prog tt Tryz.f20.ntmps w X (tiedK [(1000,Blk.row 25 2 (tb v k))] β)).toEnv v zs:=hv.of_old hE.symm hT
 obtain ⟨r1,k1,a1,b1,⟨i1,rfl,c1⟩,O1⟩:=next_g (n:=3) (by decide) zs k (by omega)
 refine .inr (.inl ⟨_,_,_,O1 _ v 1000 rfl hv',⟨rfl,trivial⟩,rfl,?_⟩)
 refine ⟨fun q f m=>∃ (i k2:Nat) (xs:List AC) (x:Value) (known:Int),q=n - i∧i≤n∧k≤k2∧k2≤k+1+100*i∧IsL x i∧MkLA day i known xs∧0≤known∧known≤2+5*i∧f=[(0,SV.ptr 1000 0),(1,SV.c (.int .i64 (n:Nat))),(2,SV.c (.int .i64 day)),(7,SV.c x),(8,SV.c (.int .i64 known)),(9,SV.c (.int .i64 (i:Nat)))]∧m=[(1000,Blk.row 25 2 (tb v k2)),(3000,Blk.own x 61 76 i (cat AC.A xs))],n,⟨_,_,⟨0,k1,[],.slice none 0 0,i1,by omega,by omega,by omega,by omega,.nil,.nil c1.1,c1.1,by omega,rfl,rfl⟩,⟨rfl,rfl,rfl,rfl,rfl,rfl,trivial⟩,⟨rfl,.inr ⟨rfl,rfl,rfl⟩,trivial⟩,rfl⟩,?_⟩
 rintro q f m ⟨i,k2,xs,x,known,rfl,hi,hk1,hk2,hx,hM,h0,hb,rfl,rfl⟩
 refine ⟨fun h=>?_,fun h=>?_⟩
 ·have h:i < n:=by have:=of_decide_eq_true h;omega
  obtain ⟨r3,k3,a3,b3,⟨i3,rfl,c3⟩,O3⟩:=pick_g (xs:=[0,1,4]) (by decide) (by decide) zs k2 (by omega)
  have q3:0≤i3∧i3≤4:=by simp at c3;omega
  have e3:IntKind.i64.wrap (known+IntKind.i64.wrap (1+i3))=known+1+i3:=by rw [i64_in (x:=1+i3) (by omega),i64_in (by omega)];omega
  obtain ⟨r4,k4,a4,b4,⟨y,rfl,c4,c5⟩,O4⟩:=action_m hD (IntKind.i64.wrap (known+IntKind.i64.wrap (1+i3))) zs k3 (by omega)
  rw [e3] at c5
  refine .inl ⟨by decide,by decide,ints [0,1,4],by kernel_rfl,rfl,.inr (.inl ⟨_,_,_,O3 _ v 1000 19 (by decide) rfl hv',⟨rfl,rfl,trivial⟩,rfl,?_⟩)⟩
  have F1:=fill_act1 y
  have F2:=y.fits.one
  have F3:=y.ext76
  have F4:y.A.size=1*76:=y.size
  have F5:cat AC.A xs++y.A=cat AC.A (xs++[y]):=cat_snoc xs y
  have F6:=y.fits
  generalize hY:y.A=YA at F1 F2 F3 F4 F5 F6 O4
  refine .inr (.inl ⟨_,_,_,O4 _ v 1000 rfl hv',⟨rfl,trivial⟩,rfl,.inl ⟨by decide,by decide,_,F1,F4,by decide,3000,i,_,.inl rfl,by decide,F2,F4,_,F3,?_⟩⟩)
  obtain ⟨q,hq,hb⟩:=info_act
  refine ⟨by omega,by unfold maxLen;omega,⟨q,hq,by rw [hb];omega⟩,trivial,fun g2 cap2=>?_⟩
  refine ⟨n - (i+1),_,_,by omega,⟨i+1,k4,xs++[y],_,_,rfl,by omega,by omega,by omega,.some,?_,?_,?_,rfl,rfl⟩,⟨rfl,rfl,rfl,rfl,rfl,c_int (i64_succ (by omega)),trivial⟩,⟨rfl,.inl (own_eq F5),trivial⟩,rfl⟩
  ·rw [e3,← c5];exact hM.snoc c4.1 c4.2.1 c4.2.2 (by omega) h0 (by omega) (by omega)
  ·rw [e3];omega
  ·rw [e3];omega
 ·have h:i=n:=by have:=of_decide_eq_false h;omega
  subst h
  exact ⟨[(1000,Blk.row 25 2 (tb v k2)),(3000,Blk.own x 61 76 i (cat AC.A xs))],[],⟨xs,k2,known,by omega,by omega,hx,hM,hb,rfl⟩,⟨rfl,.inl rfl,trivial⟩,rfl⟩
end Go.Proofs.YtekfkdddadcalaaGreatDoor
