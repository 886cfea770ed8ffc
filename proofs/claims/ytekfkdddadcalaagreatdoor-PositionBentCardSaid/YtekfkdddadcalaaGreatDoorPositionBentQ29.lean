/- what a made action pays: plain law. what a fund has after made records: plain law. as days pass without records: plain law. made books are valid: plain law. what the laws need of made books: plain law. made portfolios are valid: plain law; no condition. -/
import Derived.Test.YtekfkdddadcalaaGreatDoorPositionBentQ28
import Derived.Test.YtekfkdddadcalaaGreatDoorPositionBentQ19
set_option maxRecDepth 100000
set_option maxHeartbeats 4000000
namespace Go.Proofs.YtekfkdddadcalaaGreatDoor
open Go Go.RowKit Go.SX
structure MdA (a:AC):Prop where
 nd:a.kind≠2→1≤a.num∧a.num≤1000∧1≤a.den∧a.den≤1000000
 p:∃ u v:Int,a.cash=(mkQ u v).1∧0≤u∧u≤200000∧1≤v∧v≤1000000
 c:a.cur∈codes3
def capH (i:Nat):Int:=if i=0 then 0 else if i=1 then 19000000 else 1000000000000000
def capC (i:Nat):Int:=if i=0 then 0 else if i=1 then 400000000000 else 410000000000000
structure BdS (i j:Nat) (g:Led):Prop where
 ok:LedOk g
 hq:∀ s,getA g.h s≤2000*(j:Int)+capH i
 cb:∀ k,-(100000*(j:Int))≤getA g.c k∧getA g.c k≤100000*(j:Int)+capC i
 pb:∀ k,-(100000*(j:Int))≤getA g.p k∧getA g.p k≤100000*(j:Int)
 ck:∀ y∈g.c,y.1∈codes3.map fun c=>(c,(0:Int))
theorem BdS.zero:BdS 0 0 .zero:=⟨.zero,(fun s=>by show (0:Int)≤_;unfold capH;simp),(fun k=>by show _≤(0:Int)∧(0:Int)≤_;unfold capC;simp),(fun k=>by show _≤(0:Int)∧(0:Int)≤_;simp),(fun y h=>by cases h)⟩
def keysE:List Bs:=[[101,49],[101,50],[101,51],[101,52],[101,53],[101,54],[112,49],[112,50],[112,51]]
structure MkB (D:Int) (x:EC):Prop where
 v:x.void=false
 d:0≤x.day∧D≤x.day+1∧x.day≤D+7
 s:x.day≤x.settle∧x.settle≤73048∧x.settle≤D+10
 a : -100000≤x.amt∧x.amt≤100000
 c:x.cur∈codes3
 k:(x.kind=1∧x.ins∈stocks4∧x.qty≠0∧-2000≤x.qty∧x.qty≤2000)∨(x.kind=2∧x.ins=[]∧x.qty=0)
def MkX (D:Int) (x:EC):Prop:=x=.nil x.key x.known∨MkB D x
theorem cur3_ok {c:Bs} (h:c∈codes3):curOk c=true:=by
 simp only [codes3,List.mem_cons,List.not_mem_nil,or_false] at h
 rcases h with rfl | rfl | rfl<;>decide
theorem ins4_ok {c:Bs} (h:c∈stocks4):insOk c=true:=by
 simp only [stocks4,List.mem_cons,List.not_mem_nil,or_false] at h
 rcases h with rfl | rfl | rfl | rfl<;>decide
theorem inB_of {n lo hi:Int} (h1:lo≤n) (h2:n≤hi):inB n lo hi=true:=by
 unfold inB;rw [decide_eq_true h1,decide_eq_true h2];rfl
theorem EC.beq_self0 (key:Bs) (known:Int):(EC.nil key known).beq (.nil key known)=true:=by
 simp [EC.beq,EC.nil]
theorem MkX.md {D:Int} {x:EC} (h:MkX D x) (h1:hdrE x=true):MdE x:=by
 rcases h with h | h
 ·have hv:x.void=true:=by rw [h];rfl
  have a0:x.amt=0:=by rw [h];rfl
  have q0:x.qty=0:=by rw [h];rfl
  refine ⟨?_,by omega,by omega,fun n=>absurd a0 n,fun n=>absurd q0 n⟩
  unfold validE
  rw [h1,hv,Bool.true_and,if_pos rfl]
  generalize x.key=a at h
  generalize x.known=b at h
  rw [h]
  exact EC.beq_self0 a b
 ·have hk:kindE x=true:=by
    unfold kindE
    rcases h.k with ⟨e,hi,h0,h2,h3⟩ | ⟨e,hi,h0⟩
    ·rw [if_pos e,ins4_ok hi,inB_of (by omega) (by omega),beq_eq_false_iff_ne.2 h0];rfl
    ·rw [if_neg (by omega),if_pos e,hi,h0];rfl
  have hb:bodyE x=true:=by
   unfold bodyE
   rw [inB_of h.d.1 h.s.1,decide_eq_true h.s.2.1,inB_of (n:=x.amt) (by have:=h.a;omega) (by have:=h.a;omega),cur3_ok h.c];rfl
  refine ⟨?_,h.a,?_,fun _=>h.c,fun hq=>?_⟩
  ·unfold validE
   rw [h1,h.v,if_neg Bool.false_ne_true,hb,hk];rfl
  ·rcases h.k with ⟨-,-,-,h2,h3⟩ | ⟨-,-,h0⟩<;>omega
  ·rcases h.k with ⟨-,hi,-⟩ | ⟨-,-,h0⟩
   ·exact hi
   ·exact absurd h0 hq
theorem capAll_len {l:Bs} (h:insOk l=true):l.length≤12:=by
 unfold insOk at h
 simp only [Bool.and_eq_true,decide_eq_true_eq] at h
 exact h.2.2
theorem hdrE_of {x:EC} (h1:1≤x.key.length) (h2:x.key.length≤64) (h3:1≤x.known) (h4:x.known≤2147483647):hdrE x=true:=by
 unfold hdrE
 rw [inB_of (by omega) (by omega),inB_of h3 h4];rfl
theorem MkX.in_ {D:Int} {x:EC} (h:MkX D x) (hk:x.key.length≤64):x.In:=by
 rcases h with h | h
 ·have i0:x.ins=[]:=by rw [h];rfl
  have c0:x.cur=[]:=by rw [h];rfl
  exact ⟨by omega,by rw [i0];decide,by rw [c0];decide⟩
 ·refine ⟨by omega,?_,?_⟩
  ·rcases h.k with ⟨-,hi,-⟩ | ⟨-,hi,-⟩
   ·have:=capAll_len (ins4_ok hi);omega
   ·rw [hi];decide
  ·have h3:=h.c
   simp only [codes3,List.mem_cons,List.not_mem_nil,or_false] at h3
   rcases h3 with e | e | e<;>rw [e]<;>decide
theorem keysE_len {k:Bs} (h:k∈keysE):k.length=2:=by
 simp only [keysE,List.mem_cons,List.not_mem_nil,or_false] at h
 rcases h with rfl | rfl | rfl | rfl | rfl | rfl | rfl | rfl | rfl<;>rfl
/-! ### a book that grows -/
theorem lastK_snoc (l:List MK) (m:MK) (k:Int):lastK (l++[m]) k=m.known:=by
 unfold lastK;rw [List.getLast?_append];rfl
theorem good_e {x:EC} {k:Int} (h:hdrE x=true) (hk:k < x.known):mkGood k (mkE x)=true:=by
 unfold hdrE inB at h
 simp only [Bool.and_eq_true,decide_eq_true_eq] at h
 unfold mkGood mkE
 simp only [Bool.and_eq_true,decide_eq_true_eq]
 omega
theorem validE_hdr {x:EC} (h:validE x=true):hdrE x=true:=by
 unfold validE at h
 rw [Bool.and_eq_true] at h
 exact h.1
theorem chkX_parts {xs:List EC} (h:chkX xs=0):xs.all validE=true∧xs.length≤4096∧chkF 0 (xs.map mkE)=true:=by
 unfold chkX at h
 split at h
 ·rename_i h1
  unfold chkE at h
  rw [List.length_map] at h
  split at h
  ·cases h
  ·rename_i h2
   split at h
   ·rename_i h3;exact ⟨h1,by omega,h3⟩
   ·cases h
 ·cases h
theorem chkX_of {xs:List EC} (h1:xs.all validE=true) (h2:xs.length≤4096) (h3:chkF 0 (xs.map mkE)=true):chkX xs=0:=by
 unfold chkX chkE
 rw [if_pos h1,List.length_map,if_neg (by omega),if_pos h3]
theorem chkX_snoc {xs:List EC} {x:EC} (h:chkX xs=0) (hl:xs.length < 4096) (hv:validE x=true) (hk:lastK (xs.map mkE) 0 < x.known):chkX (xs++[x])=0:=by
 obtain ⟨h1,-,h3⟩:=chkX_parts h
 refine chkX_of (by rw [List.all_append,h1];simp [hv]) (by rw [List.length_append];simp;omega) ?_
 rw [List.map_append,List.map_cons,List.map_nil,chkF_snoc,h3,good_e (validE_hdr hv) hk];rfl
structure MkL (D:Int) (n:Nat) (b:Int) (xs:List EC):Prop where
 l:xs.length=n
 x:∀ x∈xs,MkX D x∧MdE x∧x.key∈keysE∧x.known≤b
 c:chkX xs=0
 k:lastK (xs.map mkE) 0≤b
theorem MkL.nil {D b:Int} (h:0≤b):MkL D 0 b []:=⟨rfl,(fun x hx=>by cases hx),rfl,h⟩
theorem MkL.snoc {D b:Int} {n:Nat} {xs:List EC} (h:MkL D n b xs) {x:EC} (hx:MkX D x) (hk:x.key∈keysE) (hb:b < x.known) (h0:0≤b) (hm:x.known≤2147483647) (hn:n < 4096):MkL D (n+1) x.known (xs++[x]):=by
 have l2:=keysE_len hk
 have md:=hx.md (hdrE_of (by omega) (by omega) (by omega) hm)
 refine ⟨by rw [List.length_append,h.l];rfl,fun y hy=>?_,chkX_snoc h.c (by rw [h.l];exact hn) md.v (by have:=h.k;omega),by rw [List.map_append,List.map_cons,List.map_nil,lastK_snoc];exact Int.le_refl _⟩
 rcases List.mem_append.1 hy with hy | hy
 ·obtain ⟨q1,q2,q3,q4⟩:=h.x y hy
  exact ⟨q1,q2,q3,by omega⟩
 ·have:y=x:=by simpa using hy
  rw [this];exact ⟨hx,md,hk,Int.le_refl _⟩
theorem MkL.in_ {D b:Int} {n:Nat} {xs:List EC} (h:MkL D n b xs):∀ x∈xs,x.In:=fun x hx=>by
 obtain ⟨q1,-,q3,-⟩:=h.x x hx
 exact q1.in_ (by have:=keysE_len q3;omega)
theorem MkL.key {D b:Int} {n:Nat} {xs:List EC} (h:MkL D n b xs):∀ x∈xs,x.key.length=2:=fun x hx=>keysE_len (h.x x hx).2.2.1
/-! ### the same of actions -/
def keysA:List Bs:=[[115,49],[115,50],[100,49],[109,49]]
def MkA (D:Int) (a:AC):Prop:=a=.nil a.key a.known∨(a.void=false∧MdA a∧bodyOk a=true∧kindOk a=true∧a.day≤D+7)
theorem keysA_len {k:Bs} (h:k∈keysA):k.length=2:=by
 simp only [keysA,List.mem_cons,List.not_mem_nil,or_false] at h
 rcases h with rfl | rfl | rfl | rfl<;>rfl
theorem hdrA_of {a:AC} (h1:1≤a.key.length) (h2:a.key.length≤64) (h3:1≤a.known) (h4:a.known≤2147483647):hdrOk a=true:=by
 unfold hdrOk
 rw [beq_eq_false_iff_ne.2 (by omega),decide_eq_false (by omega),decide_eq_false (by omega),decide_eq_false (by omega)];rfl
theorem good_a {a:AC} {k:Int} (h:hdrOk a=true) (hk:k < a.known):mkGood k (mkOf a)=true:=by
 unfold hdrOk at h
 simp only [Bool.and_eq_true,Bool.not_eq_true',beq_eq_false_iff_ne,decide_eq_false_iff_not] at h
 unfold mkGood mkOf
 simp only [Bool.and_eq_true,decide_eq_true_eq]
 omega
theorem MkA.ok {D:Int} {a:AC} (h:MkA D a) (h1:hdrOk a=true):validA a=true:=by
 unfold validA
 rw [h1,Bool.true_and]
 rcases h with h | ⟨h2,-,h3,h4,-⟩
 ·have hv:a.void=true:=by rw [h];rfl
  rw [hv,if_pos rfl]
  generalize a.key=b at h
  generalize a.known=c at h
  rw [h]
  simp [AC.beq,AC.nil,RQ.beq]
 ·rw [h2,if_neg Bool.false_ne_true,h3,h4];rfl
theorem chkA_parts {xs:List AC} (h:chkA xs=0):xs.all validA=true∧xs.length≤4096∧chkF 0 (xs.map mkOf)=true:=by
 unfold chkA at h
 split at h
 ·rename_i h1
  unfold chkE at h
  rw [List.length_map] at h
  split at h
  ·cases h
  ·rename_i h2
   split at h
   ·rename_i h3;exact ⟨h1,by omega,h3⟩
   ·cases h
 ·cases h
theorem chkA_snoc {xs:List AC} {x:AC} (h:chkA xs=0) (hl:xs.length < 4096) (hv:validA x=true) (hd:hdrOk x=true) (hk:lastK (xs.map mkOf) 0 < x.known):chkA (xs++[x])=0:=by
 obtain ⟨h1,-,h3⟩:=chkA_parts h
 unfold chkA chkE
 rw [if_pos (by rw [List.all_append,h1];simp [hv]),List.length_map,if_neg (by rw [List.length_append];simp;omega),if_pos]
 rw [List.map_append,List.map_cons,List.map_nil,chkF_snoc,h3,good_a hd hk];rfl
structure MkLA (D:Int) (n:Nat) (b:Int) (xs:List AC):Prop where
 l:xs.length=n
 x:∀ x∈xs,MkA D x∧x.key∈keysA∧x.In
 c:chkA xs=0
 k:lastK (xs.map mkOf) 0≤b
theorem MkLA.nil {D b:Int} (h:0≤b):MkLA D 0 b []:=⟨rfl,(fun x hx=>by cases hx),rfl,h⟩
theorem MkLA.snoc {D b:Int} {n:Nat} {xs:List AC} (h:MkLA D n b xs) {x:AC} (hx:MkA D x) (hk:x.key∈keysA) (hi:x.In) (hb:b < x.known) (h0:0≤b) (hm:x.known≤2147483647) (hn:n < 4096):MkLA D (n+1) x.known (xs++[x]):=by
 have l2:=keysA_len hk
 have hd:=hdrA_of (a:=x) (by omega) (by omega) (by omega) hm
 refine ⟨by rw [List.length_append,h.l];rfl,fun y hy=>?_,chkA_snoc h.c (by rw [h.l];exact hn) (hx.ok hd) hd (by have:=h.k;omega),by rw [List.map_append,List.map_cons,List.map_nil,lastK_snoc];exact Int.le_refl _⟩
 rcases List.mem_append.1 hy with hy | hy
 ·exact h.x y hy
 ·have:y=x:=by simpa using hy
  rw [this];exact ⟨hx,hk,hi⟩
/-! ### what the laws need of made books -/
theorem MkL.mono {D b c:Int} {n:Nat} {xs:List EC} (h:MkL D n b xs) (hc:b≤c):MkL D n c xs :=
 ⟨h.l,fun x hx=>⟨(h.x x hx).1,(h.x x hx).2.1,(h.x x hx).2.2.1,by have:=(h.x x hx).2.2.2;omega⟩,h.c,by have:=h.k;omega⟩
theorem MkLA.mono {D b c:Int} {n:Nat} {xs:List AC} (h:MkLA D n b xs) (hc:b≤c):MkLA D n c xs:=⟨h.l,h.x,h.c,by have:=h.k;omega⟩
theorem MkX.key {D:Int} {x:EC} (h:MkX D x) (k:Bs):MkX D { x with key:=k }:=by
 rcases h with h | h
 ·left;rw [h];rfl
 ·exact .inr ⟨h.v,h.d,h.s,h.a,h.c,h.k⟩
theorem MkX.live {D:Int} {x:EC} (h:MkX D x) (hv:x.void=false):MkB D x:=by
 rcases h with h | h
 ·rw [h] at hv;cases hv
 ·exact h
theorem MkB.of {D D':Int} {x y:EC} (h:MkB D x) (v:y.void=false) (d:0≤y.day∧D'≤y.day+1∧y.day≤D'+7) (s:y.day≤y.settle∧y.settle≤73048∧y.settle≤D'+10) (a : -100000≤y.amt∧y.amt≤100000) (e:y.kind=x.kind∧y.ins=x.ins∧y.cur=x.cur) (q:y.qty=x.qty∨(y.kind=1∧1≤y.qty∧y.qty≤2000)):MkB D' y:=by
 refine ⟨v,d,s,a,by rw [e.2.2];exact h.c,?_⟩
 rw [e.1,e.2.1]
 rcases q with q | ⟨q1,q2,q3⟩
 ·rw [q];exact h.k
 ·rw [e.1] at q1
  rcases h.k with ⟨k1,k2,-⟩ | ⟨k1,-⟩
  ·exact .inl ⟨k1,k2,by omega,by omega,q3⟩
  ·omega
theorem MkA.key {D:Int} {a:AC} (h:MkA D a) (k:Bs):MkA D { a with key:=k }:=by
 rcases h with h | ⟨h1,h2,h3,h4,h5⟩
 ·left;rw [h];rfl
 ·exact .inr ⟨h1,⟨h2.nd,h2.p,h2.c⟩,h3,h4,h5⟩
theorem MkA.day {D:Int} {a:AC} (h:MkA D a) (hv:a.void=false) {d:Int} (hd:0≤d∧d≤73048):MkA d { a with day:=d }:=by
 rcases h with h | ⟨h1,h2,h3,h4,h5⟩
 ·rw [h] at hv;cases hv
 ·refine .inr ⟨h1,⟨h2.nd,h2.p,h2.c⟩,?_,h4,by show d≤d+7;omega⟩
  unfold bodyOk at h3 ⊢
  simp only [Bool.and_eq_true,Bool.not_eq_true',decide_eq_false_iff_not] at h3 ⊢
  exact ⟨h3.1,by omega,by omega,h3.2.2.2⟩
structure OrdL (n:Nat) (xs:List EC):Prop where
 l:xs.length=n
 x:∀ (j:Nat) x,xs[j]? = some x→MkB 9497 x∧0≤x.qty∧x.known=j+1∧x.key.length=1
theorem OrdL.md {n:Nat} {xs:List EC} (h:OrdL n xs) (hn:n≤7):∀ x∈xs,(MdE x∧0≤x.qty)∧(x.void=false∧x.known≤99)∧x.In:=fun x hx=>by
 obtain ⟨j,hj⟩:=List.mem_iff_getElem?.1 hx
 obtain ⟨h1,h2,h3,h4⟩:=h.x j x hj
 have hl:=(List.getElem?_eq_some_iff.1 hj).1
 have hl2:=h.l
 exact ⟨⟨MkX.md (.inr h1) (hdrE_of (by omega) (by omega) (by omega) (by omega)),h2⟩,⟨h1.v,by omega⟩,MkX.in_ (.inr h1) (by omega)⟩
def codesP:List Bs:=[[69,85,82],[71,66,80],[85,83,68]]
structure PfM (i j k:Nat) (d:Int) (g:Led):Prop where
 h:SrtA ltB g.h
 hx:∀ x∈g.h,x.1∈stocks4.take i∧1≤x.2∧x.2≤1000000
 hl:g.h.length≤i
 c:SrtA ltK2 g.c
 cx:∀ x∈g.c,x.1.1∈codesP.take j∧x.1.2=0∧x.2≠0∧-1000000≤x.2∧x.2≤1000000
 cl:g.c.length≤j
 p:SrtA ltK2 g.p
 px:∀ x∈g.p,x.1.1∈codesP.take k∧x.1.2=d∧x.2≠0∧-1000000≤x.2∧x.2≤1000000
 pl:g.p.length≤k
theorem PfM.zero {d:Int}:PfM 0 0 0 d .zero:=⟨.nil,(fun x hx=>by cases hx),Nat.le_refl _,.nil,(fun x hx=>by cases hx),Nat.le_refl _,.nil,(fun x hx=>by cases hx),Nat.le_refl _⟩
theorem take_sub {l:List Bs} {i j:Nat} (h:i≤j) {x:Bs} (hx:x∈l.take i):x∈l.take j:=by
 rw [← Nat.min_eq_left h,← List.take_take] at hx
 exact List.mem_of_mem_take hx
theorem PfM.mono {i j k i' j' k':Nat} {d:Int} {g:Led} (h:PfM i j k d g) (hi:i≤i') (hj:j≤j') (hk:k≤k'):PfM i' j' k' d g :=
 ⟨h.h,fun x hx=>⟨take_sub hi (h.hx x hx).1,(h.hx x hx).2⟩,Nat.le_trans h.hl hi,h.c,fun x hx=>⟨take_sub hj (h.cx x hx).1,(h.cx x hx).2⟩,Nat.le_trans h.cl hj,h.p,fun x hx=>⟨take_sub hk (h.px x hx).1,(h.px x hx).2⟩,Nat.le_trans h.pl hk⟩
theorem srt_snoc {κ:Type} {lt:κ→κ→Bool} {l:List (κ×Int)} {y:κ×Int} (h:SrtA lt l) (hy:∀ x∈l,lt x.1 y.1=true):SrtA lt (l++[y]):=by
 refine List.pairwise_append.2 ⟨h,.cons (fun _ h=>by cases h) .nil,fun a ha b hb=>?_⟩
 have:b=y:=by simpa using hb
 rw [this];exact hy a ha
theorem stock_lt {i:Nat} {s a:Bs} (hs:stocks4[i]? = some s) (ha:a∈stocks4.take i):ltB a s=true∧s∈stocks4.take (i+1):=by
 have hi:=(List.getElem?_eq_some_iff.1 hs).1
 have hi:i < 4:=hi
 have h4:i=0∨i=1∨i=2∨i=3:=by omega
 rcases h4 with rfl | rfl | rfl | rfl
 ·cases ha
 all_goals
  simp only [stocks4,List.getElem?_cons_succ,List.getElem?_cons_zero,Option.some.injEq] at hs
  subst hs
  simp only [stocks4,List.take_succ_cons,List.take_zero,List.mem_cons,List.not_mem_nil,or_false] at ha
 ·subst ha;decide
 ·rcases ha with rfl | rfl<;>decide
 ·rcases ha with rfl | rfl | rfl<;>decide
theorem code_lt {i:Nat} {s a:Bs} (hs:codesP[i]? = some s) (ha:a∈codesP.take i):ltB a s=true:=by
 have hi:=(List.getElem?_eq_some_iff.1 hs).1
 have hi:i < 3:=hi
 have h4:i=0∨i=1∨i=2:=by omega
 rcases h4 with rfl | rfl | rfl
 ·cases ha
 all_goals
  simp only [codesP,List.getElem?_cons_succ,List.getElem?_cons_zero,Option.some.injEq] at hs
  subst hs
  simp only [codesP,List.take_succ_cons,List.take_zero,List.mem_cons,List.not_mem_nil,or_false] at ha
 ·subst ha;decide
 ·rcases ha with rfl | rfl<;>decide
theorem mem_take_at {l:List Bs} {i:Nat} {s:Bs} (hs:l[i]? = some s):s∈l.take (i+1):=by
 rw [List.take_add_one,hs];simp
theorem PfM.addH {i j k:Nat} {d:Int} {g:Led} (h:PfM i j k d g) {s:Bs} (hs:stocks4[i]? = some s) {n:Int} (hn:1≤n∧n≤1000000):PfM (i+1) j k d ⟨g.h++[(s,n)],g.c,g.p⟩:=by
 refine ⟨srt_snoc h.h fun x hx=>(stock_lt hs (h.hx x hx).1).1,fun x hx=>?_,by rw [List.length_append];have:=h.hl;simp;omega,h.c,h.cx,h.cl,h.p,h.px,h.pl⟩
 rcases List.mem_append.1 hx with hx | hx
 ·exact ⟨take_sub (Nat.le_succ i) (h.hx x hx).1,(h.hx x hx).2⟩
 ·have:x=(s,n):=by simpa using hx
  rw [this];exact ⟨mem_take_at hs,hn⟩
theorem PfM.addC {i j k:Nat} {d:Int} {g:Led} (h:PfM i j k d g) {s:Bs} (hs:codesP[j]? = some s) {n:Int} (h0:n≠0) (hn : -1000000≤n∧n≤1000000):PfM i (j+1) k d ⟨g.h,g.c++[((s,0),n)],g.p⟩:=by
 refine ⟨h.h,h.hx,h.hl,srt_snoc h.c fun x hx=>?_,fun x hx=>?_,by rw [List.length_append];have:=h.cl;simp;omega,h.p,h.px,h.pl⟩
 ·unfold ltK2
  rw [if_pos (code_lt hs (h.cx x hx).1)]
 ·rcases List.mem_append.1 hx with hx | hx
  ·exact ⟨take_sub (Nat.le_succ j) (h.cx x hx).1,(h.cx x hx).2⟩
  ·have:x=((s,0),n):=by simpa using hx
   rw [this];exact ⟨mem_take_at hs,rfl,h0,hn⟩
theorem PfM.addP {i j k:Nat} {d:Int} {g:Led} (h:PfM i j k d g) {s:Bs} (hs:codesP[k]? = some s) {n:Int} (h0:n≠0) (hn : -1000000≤n∧n≤1000000):PfM i j (k+1) d ⟨g.h,g.c,g.p++[((s,d),n)]⟩:=by
 refine ⟨h.h,h.hx,h.hl,h.c,h.cx,h.cl,srt_snoc h.p fun x hx=>?_,fun x hx=>?_,by rw [List.length_append];have:=h.pl;simp;omega⟩
 ·unfold ltK2
  rw [if_pos (code_lt hs (h.px x hx).1)]
 ·rcases List.mem_append.1 hx with hx | hx
  ·exact ⟨take_sub (Nat.le_succ k) (h.px x hx).1,(h.px x hx).2⟩
  ·have:x=((s,d),n):=by simpa using hx
   rw [this];exact ⟨mem_take_at hs,rfl,h0,hn⟩
theorem codeP_ok {c:Bs} {j:Nat} (h:c∈codesP.take j):curOk c=true∧c.length=3:=by
 have h:=List.mem_of_mem_take h
 simp only [codesP,List.mem_cons,List.not_mem_nil,or_false] at h
 rcases h with rfl | rfl | rfl<;>exact ⟨by decide,rfl⟩
theorem PfM.own {i j k:Nat} {d:Int} {g:Led} (h:PfM i j k d g) (hi:i≤100∧j≤100∧k≤100):OwnP g:=by
 have h1:=h.hl
 have h2:=h.cl
 have h3:=h.pl
 refine ⟨by omega,fun x hx=>?_,fun x hx=>?_,fun x hx=>?_⟩
 ·have:=capAll_len (ins4_ok (List.mem_of_mem_take (h.hx x hx).1));omega
 ·rw [(codeP_ok (h.cx x hx).1).2];decide
 ·rw [(codeP_ok (h.px x hx).1).2];decide
theorem PfM.valid {j k:Nat} {d:Int} {g:Led} (h:PfM 4 j k d g) (hj:j≤3) (_hk:k≤3) (hd:0≤d∧d≤73048):validP g=true:=by
 have l1:=h.hl
 have l2:=h.cl
 unfold validP
 rw [decide_eq_false (by omega),decide_eq_false (by omega)]
 simp only [Bool.not_false,Bool.and_eq_true,Bool.true_and]
 refine ⟨?_,okK_all ⟨h.c,fun x hx=>(h.cx x hx).2.2.1⟩ (fun x hx=>⟨(codeP_ok (h.cx x hx).1).1,by rw [(h.cx x hx).2.1];rfl⟩) ?_,okK_all ⟨h.p,fun x hx=>(h.px x hx).2.2.1⟩ (fun x hx=>⟨(codeP_ok (h.px x hx).1).1,by rw [(h.px x hx).2.1];exact inB_of hd.1 hd.2⟩) ?_,?_⟩
 ·refine allAt_good fun i hi=>?_
  obtain ⟨x,hx⟩:∃ x,g.h[i]? = some x:=⟨_,List.getElem?_eq_getElem hi⟩
  have hm:=h.hx x (List.mem_of_getElem? hx)
  unfold okH
  rw [hx]
  simp only [Bool.and_eq_true]
  refine ⟨ins4_ok (List.mem_of_mem_take hm.1),inB_of hm.2.1 (by omega),?_⟩
  rw [Bool.or_eq_true]
  by_cases h0:i=0
  ·exact .inl (decide_eq_true h0)
  ·obtain ⟨y,hy⟩:∃ y,g.h[i - 1]? = some y:=⟨_,List.getElem?_eq_getElem (by omega)⟩
   rw [hy]
   exact .inr (srt_at h.h (by omega) hx hy)
 ·exact List.all_eq_true.2 fun x hx=>inB_of (by have:=h.cx x hx;omega) (by have:=h.cx x hx;omega)
 ·exact List.all_eq_true.2 fun x hx=>inB_of (by have:=h.px x hx;omega) (by have:=h.px x hx;omega)
 ·exact List.all_eq_true.2 fun x hx=>by rw [(h.cx x hx).2.1];rfl
theorem OwnP.addH {g:Led} (h:OwnP g) (hl:g.h.length≤100) {x:Bs×Int} (hx:x.1.length≤100):OwnP ⟨g.h++[x],g.c,g.p⟩:=by
 refine ⟨⟨by rw [List.length_append];simp;omega,h.b.2⟩,fun y hy=>?_,h.ic,h.ip⟩
 rcases List.mem_append.1 hy with hy | hy
 ·exact h.ih y hy
 ·have:y=x:=by simpa using hy
  rw [this];omega
theorem OwnP.addC {g:Led} (h:OwnP g) (hl:g.c.length≤100) {x:Ky×Int} (hx:x.1.1.length≤100):OwnP ⟨g.h,g.c++[x],g.p⟩:=by
 refine ⟨⟨h.b.1,by rw [List.length_append];simp;omega,h.b.2.2⟩,h.ih,fun y hy=>?_,h.ip⟩
 rcases List.mem_append.1 hy with hy | hy
 ·exact h.ic y hy
 ·have:y=x:=by simpa using hy
  rw [this];omega
theorem OwnP.addP {g:Led} (h:OwnP g) (hl:g.p.length≤100) {x:Ky×Int} (hx:x.1.1.length≤100):OwnP ⟨g.h,g.c,g.p++[x]⟩:=by
 refine ⟨⟨h.b.1,h.b.2.1,by rw [List.length_append];simp;omega⟩,h.ih,h.ic,fun y hy=>?_⟩
 rcases List.mem_append.1 hy with hy | hy
 ·exact h.ip y hy
 ·have:y=x:=by simpa using hy
  rw [this];omega
end Go.Proofs.YtekfkdddadcalaaGreatDoor
