/- what a made action pays: plain law. what a fund has after made records: plain law. as days pass without records: plain law. made books are valid: plain law. what the laws need of made books: plain law. At, with records that are known later: plain law. made stocks, codes, actions. made entries; no condition. -/
import Derived.Test.YtekfkdddadcalaaGreatDoorPositionLaterQ29
import Derived.Test.YtekfkdddadcalaaGreatDoorPositionLaterQ23
set_option maxRecDepth 100000
set_option maxHeartbeats 4000000
namespace Go.Proofs.YtekfkdddadcalaaGreatDoor
open Go Go.RowKit Go.SX
structure MdA (a:AC):Prop where
 nd:a.kind≠2→1≤a.num∧a.num≤1000∧1≤a.den∧a.den≤1000000
 p:∃ u v:Int,a.cash=(mkQ u v).1∧0≤u∧u≤200000∧1≤v∧v≤1000000
 c:a.cur∈codes3
def capH (i:Nat):Int:=if i=0 then 0 else if i=1 then 19000000 else 1000000000000000
def capC (i:Nat):Int:=if i=0 then 0 else if i=1 then 400000000000 else 410000000000000
structure BdS (i j:Nat) (g:Led):Prop where
 ok:LedOk g
 hq:∀ s,getA g.h s≤2000*(j:Int)+capH i
 cb:∀ k,-(100000*(j:Int))≤getA g.c k∧getA g.c k≤100000*(j:Int)+capC i
 pb:∀ k,-(100000*(j:Int))≤getA g.p k∧getA g.p k≤100000*(j:Int)
 ck:∀ y∈g.c,y.1∈codes3.map fun c=>(c,(0:Int))
theorem BdS.zero:BdS 0 0 .zero:=⟨.zero,(fun s=>by show (0:Int)≤_;unfold capH;simp),(fun k=>by show _≤(0:Int)∧(0:Int)≤_;unfold capC;simp),(fun k=>by show _≤(0:Int)∧(0:Int)≤_;simp),(fun y h=>by cases h)⟩
def keysE:List Bs:=[[101,49],[101,50],[101,51],[101,52],[101,53],[101,54],[112,49],[112,50],[112,51]]
structure MkB (D:Int) (x:EC):Prop where
 v:x.void=false
 d:0≤x.day∧D≤x.day+1∧x.day≤D+7
 s:x.day≤x.settle∧x.settle≤73048∧x.settle≤D+10
 a : -100000≤x.amt∧x.amt≤100000
 c:x.cur∈codes3
 k:(x.kind=1∧x.ins∈stocks4∧x.qty≠0∧-2000≤x.qty∧x.qty≤2000)∨(x.kind=2∧x.ins=[]∧x.qty=0)
def MkX (D:Int) (x:EC):Prop:=x=.nil x.key x.known∨MkB D x
theorem cur3_ok {c:Bs} (h:c∈codes3):curOk c=true:=by
 simp only [codes3,List.mem_cons,List.not_mem_nil,or_false] at h
 rcases h with rfl | rfl | rfl<;>decide
theorem ins4_ok {c:Bs} (h:c∈stocks4):insOk c=true:=by
 simp only [stocks4,List.mem_cons,List.not_mem_nil,or_false] at h
 rcases h with rfl | rfl | rfl | rfl<;>decide
theorem inB_of {n lo hi:Int} (h1:lo≤n) (h2:n≤hi):inB n lo hi=true:=by
 unfold inB;rw [decide_eq_true h1,decide_eq_true h2];rfl
theorem EC.beq_self0 (key:Bs) (known:Int):(EC.nil key known).beq (.nil key known)=true:=by
 simp [EC.beq,EC.nil]
theorem MkX.md {D:Int} {x:EC} (h:MkX D x) (h1:hdrE x=true):MdE x:=by
 rcases h with h | h
 ·have hv:x.void=true:=by rw [h];rfl
  have a0:x.amt=0:=by rw [h];rfl
  have q0:x.qty=0:=by rw [h];rfl
  refine ⟨?_,by omega,by omega,fun n=>absurd a0 n,fun n=>absurd q0 n⟩
  unfold validE
  rw [h1,hv,Bool.true_and,if_pos rfl]
  generalize x.key=a at h
  generalize x.known=b at h
  rw [h]
  exact EC.beq_self0 a b
 ·have hk:kindE x=true:=by
    unfold kindE
    rcases h.k with ⟨e,hi,h0,h2,h3⟩ | ⟨e,hi,h0⟩
    ·rw [if_pos e,ins4_ok hi,inB_of (by omega) (by omega),beq_eq_false_iff_ne.2 h0];rfl
    ·rw [if_neg (by omega),if_pos e,hi,h0];rfl
  have hb:bodyE x=true:=by
   unfold bodyE
   rw [inB_of h.d.1 h.s.1,decide_eq_true h.s.2.1,inB_of (n:=x.amt) (by have:=h.a;omega) (by have:=h.a;omega),cur3_ok h.c];rfl
  refine ⟨?_,h.a,?_,fun _=>h.c,fun hq=>?_⟩
  ·unfold validE
   rw [h1,h.v,if_neg Bool.false_ne_true,hb,hk];rfl
  ·rcases h.k with ⟨-,-,-,h2,h3⟩ | ⟨-,-,h0⟩<;>omega
  ·rcases h.k with ⟨-,hi,-⟩ | ⟨-,-,h0⟩
   ·exact hi
   ·exact absurd h0 hq
theorem capAll_len {l:Bs} (h:insOk l=true):l.length≤12:=by
 unfold insOk at h
 simp only [Bool.and_eq_true,decide_eq_true_eq] at h
 exact h.2.2
theorem hdrE_of {x:EC} (h1:1≤x.key.length) (h2:x.key.length≤64) (h3:1≤x.known) (h4:x.known≤2147483647):hdrE x=true:=by
 unfold hdrE
 rw [inB_of (by omega) (by omega),inB_of h3 h4];rfl
theorem MkX.in_ {D:Int} {x:EC} (h:MkX D x) (hk:x.key.length≤64):x.In:=by
 rcases h with h | h
 ·have i0:x.ins=[]:=by rw [h];rfl
  have c0:x.cur=[]:=by rw [h];rfl
  exact ⟨by omega,by rw [i0];decide,by rw [c0];decide⟩
 ·refine ⟨by omega,?_,?_⟩
  ·rcases h.k with ⟨-,hi,-⟩ | ⟨-,hi,-⟩
   ·have:=capAll_len (ins4_ok hi);omega
   ·rw [hi];decide
  ·have h3:=h.c
   simp only [codes3,List.mem_cons,List.not_mem_nil,or_false] at h3
   rcases h3 with e | e | e<;>rw [e]<;>decide
theorem keysE_len {k:Bs} (h:k∈keysE):k.length=2:=by
 simp only [keysE,List.mem_cons,List.not_mem_nil,or_false] at h
 rcases h with rfl | rfl | rfl | rfl | rfl | rfl | rfl | rfl | rfl<;>rfl
/-! ### a book that grows -/
theorem lastK_snoc (l:List MK) (m:MK) (k:Int):lastK (l++[m]) k=m.known:=by
 unfold lastK;rw [List.getLast?_append];rfl
theorem good_e {x:EC} {k:Int} (h:hdrE x=true) (hk:k < x.known):mkGood k (mkE x)=true:=by
 unfold hdrE inB at h
 simp only [Bool.and_eq_true,decide_eq_true_eq] at h
 unfold mkGood mkE
 simp only [Bool.and_eq_true,decide_eq_true_eq]
 omega
theorem validE_hdr {x:EC} (h:validE x=true):hdrE x=true:=by
 unfold validE at h
 rw [Bool.and_eq_true] at h
 exact h.1
theorem chkX_parts {xs:List EC} (h:chkX xs=0):xs.all validE=true∧xs.length≤4096∧chkF 0 (xs.map mkE)=true:=by
 unfold chkX at h
 split at h
 ·rename_i h1
  unfold chkE at h
  rw [List.length_map] at h
  split at h
  ·cases h
  ·rename_i h2
   split at h
   ·rename_i h3;exact ⟨h1,by omega,h3⟩
   ·cases h
 ·cases h
theorem chkX_of {xs:List EC} (h1:xs.all validE=true) (h2:xs.length≤4096) (h3:chkF 0 (xs.map mkE)=true):chkX xs=0:=by
 unfold chkX chkE
 rw [if_pos h1,List.length_map,if_neg (by omega),if_pos h3]
theorem chkX_snoc {xs:List EC} {x:EC} (h:chkX xs=0) (hl:xs.length < 4096) (hv:validE x=true) (hk:lastK (xs.map mkE) 0 < x.known):chkX (xs++[x])=0:=by
 obtain ⟨h1,-,h3⟩:=chkX_parts h
 refine chkX_of (by rw [List.all_append,h1];simp [hv]) (by rw [List.length_append];simp;omega) ?_
 rw [List.map_append,List.map_cons,List.map_nil,chkF_snoc,h3,good_e (validE_hdr hv) hk];rfl
structure MkL (D:Int) (n:Nat) (b:Int) (xs:List EC):Prop where
 l:xs.length=n
 x:∀ x∈xs,MkX D x∧MdE x∧x.key∈keysE∧x.known≤b
 c:chkX xs=0
 k:lastK (xs.map mkE) 0≤b
theorem MkL.nil {D b:Int} (h:0≤b):MkL D 0 b []:=⟨rfl,(fun x hx=>by cases hx),rfl,h⟩
theorem MkL.snoc {D b:Int} {n:Nat} {xs:List EC} (h:MkL D n b xs) {x:EC} (hx:MkX D x) (hk:x.key∈keysE) (hb:b < x.known) (h0:0≤b) (hm:x.known≤2147483647) (hn:n < 4096):MkL D (n+1) x.known (xs++[x]):=by
 have l2:=keysE_len hk
 have md:=hx.md (hdrE_of (by omega) (by omega) (by omega) hm)
 refine ⟨by rw [List.length_append,h.l];rfl,fun y hy=>?_,chkX_snoc h.c (by rw [h.l];exact hn) md.v (by have:=h.k;omega),by rw [List.map_append,List.map_cons,List.map_nil,lastK_snoc];exact Int.le_refl _⟩
 rcases List.mem_append.1 hy with hy | hy
 ·obtain ⟨q1,q2,q3,q4⟩:=h.x y hy
  exact ⟨q1,q2,q3,by omega⟩
 ·have:y=x:=by simpa using hy
  rw [this];exact ⟨hx,md,hk,Int.le_refl _⟩
theorem MkL.in_ {D b:Int} {n:Nat} {xs:List EC} (h:MkL D n b xs):∀ x∈xs,x.In:=fun x hx=>by
 obtain ⟨q1,-,q3,-⟩:=h.x x hx
 exact q1.in_ (by have:=keysE_len q3;omega)
theorem MkL.key {D b:Int} {n:Nat} {xs:List EC} (h:MkL D n b xs):∀ x∈xs,x.key.length=2:=fun x hx=>keysE_len (h.x x hx).2.2.1
/-! ### the same of actions -/
def keysA:List Bs:=[[115,49],[115,50],[100,49],[109,49]]
def MkA (D:Int) (a:AC):Prop:=a=.nil a.key a.known∨(a.void=false∧MdA a∧bodyOk a=true∧kindOk a=true∧a.day≤D+7)
theorem keysA_len {k:Bs} (h:k∈keysA):k.length=2:=by
 simp only [keysA,List.mem_cons,List.not_mem_nil,or_false] at h
 rcases h with rfl | rfl | rfl | rfl<;>rfl
theorem hdrA_of {a:AC} (h1:1≤a.key.length) (h2:a.key.length≤64) (h3:1≤a.known) (h4:a.known≤2147483647):hdrOk a=true:=by
 unfold hdrOk
 rw [beq_eq_false_iff_ne.2 (by omega),decide_eq_false (by omega),decide_eq_false (by omega),decide_eq_false (by omega)];rfl
theorem good_a {a:AC} {k:Int} (h:hdrOk a=true) (hk:k < a.known):mkGood k (mkOf a)=true:=by
 unfold hdrOk at h
 simp only [Bool.and_eq_true,Bool.not_eq_true',beq_eq_false_iff_ne,decide_eq_false_iff_not] at h
 unfold mkGood mkOf
 simp only [Bool.and_eq_true,decide_eq_true_eq]
 omega
theorem MkA.ok {D:Int} {a:AC} (h:MkA D a) (h1:hdrOk a=true):validA a=true:=by
 unfold validA
 rw [h1,Bool.true_and]
 rcases h with h | ⟨h2,-,h3,h4,-⟩
 ·have hv:a.void=true:=by rw [h];rfl
  rw [hv,if_pos rfl]
  generalize a.key=b at h
  generalize a.known=c at h
  rw [h]
  simp [AC.beq,AC.nil,RQ.beq]
 ·rw [h2,if_neg Bool.false_ne_true,h3,h4];rfl
theorem chkA_parts {xs:List AC} (h:chkA xs=0):xs.all validA=true∧xs.length≤4096∧chkF 0 (xs.map mkOf)=true:=by
 unfold chkA at h
 split at h
 ·rename_i h1
  unfold chkE at h
  rw [List.length_map] at h
  split at h
  ·cases h
  ·rename_i h2
   split at h
   ·rename_i h3;exact ⟨h1,by omega,h3⟩
   ·cases h
 ·cases h
theorem chkA_snoc {xs:List AC} {x:AC} (h:chkA xs=0) (hl:xs.length < 4096) (hv:validA x=true) (hd:hdrOk x=true) (hk:lastK (xs.map mkOf) 0 < x.known):chkA (xs++[x])=0:=by
 obtain ⟨h1,-,h3⟩:=chkA_parts h
 unfold chkA chkE
 rw [if_pos (by rw [List.all_append,h1];simp [hv]),List.length_map,if_neg (by rw [List.length_append];simp;omega),if_pos]
 rw [List.map_append,List.map_cons,List.map_nil,chkF_snoc,h3,good_a hd hk];rfl
structure MkLA (D:Int) (n:Nat) (b:Int) (xs:List AC):Prop where
 l:xs.length=n
 x:∀ x∈xs,MkA D x∧x.key∈keysA∧x.In
 c:chkA xs=0
 k:lastK (xs.map mkOf) 0≤b
theorem MkLA.nil {D b:Int} (h:0≤b):MkLA D 0 b []:=⟨rfl,(fun x hx=>by cases hx),rfl,h⟩
theorem MkLA.snoc {D b:Int} {n:Nat} {xs:List AC} (h:MkLA D n b xs) {x:AC} (hx:MkA D x) (hk:x.key∈keysA) (hi:x.In) (hb:b < x.known) (h0:0≤b) (hm:x.known≤2147483647) (hn:n < 4096):MkLA D (n+1) x.known (xs++[x]):=by
 have l2:=keysA_len hk
 have hd:=hdrA_of (a:=x) (by omega) (by omega) (by omega) hm
 refine ⟨by rw [List.length_append,h.l];rfl,fun y hy=>?_,chkA_snoc h.c (by rw [h.l];exact hn) (hx.ok hd) hd (by have:=h.k;omega),by rw [List.map_append,List.map_cons,List.map_nil,lastK_snoc];exact Int.le_refl _⟩
 rcases List.mem_append.1 hy with hy | hy
 ·exact h.x y hy
 ·have:y=x:=by simpa using hy
  rw [this];exact ⟨hx,hk,hi⟩
theorem newco_ok {l:Bs} (h:l∈stocks4):¬ ([78,69,87,67,79]:Bs)=l:=by
 simp only [stocks4,List.mem_cons,List.not_mem_nil,or_false] at h
 rcases h with rfl | rfl | rfl | rfl<;>decide
theorem mk_act {D kind num den i known:Int} {key ins into cur:Bs} {cash:RQ} (hD:0≤D∧D≤73048) (hi:0≤i∧i < 8) (hins:ins∈stocks4) (hcur:cur∈codes3) (hc:isPrice cash∨(kind≠2∧cash=.of 0 1)) (hk:(kind=2∧into=[]∧num=0∧den=0)∨(((kind=1∧into=[])∨(kind=3∧into=[78,69,87,67,79]))∧1≤num∧num≤1000∧1≤den∧den≤1000000)):MkA D ⟨kind,key,ins,into,min 73048 (IntKind.i64.wrap (D+i)),num,den,cash,cur,known,false⟩:=by
 have ew:IntKind.i64.wrap (D+i)=D+i:=i64_in (by omega)
 rw [ew]
 have hpay:payOk cash=true:=by
  rcases hc with h | ⟨-,h⟩
  ·obtain ⟨n,d,-,-,-,-,-,-,h7,-⟩:=price_of h;exact h7
  ·rw [h];decide
 refine .inr ⟨rfl,⟨?_,?_,hcur⟩,?_,?_,?_⟩
 ·intro hn
  rcases hk with ⟨h,-⟩ | ⟨-,h⟩
  ·exact absurd h hn
  ·exact ⟨h.1,h.2.1,h.2.2⟩
 ·rcases hc with h | ⟨-,h⟩
  ·obtain ⟨n,d,h1,h2,h3,h4,h5,-⟩:=price_of h
   exact ⟨n,d,h1,by omega,h3,h4,h5⟩
  ·exact ⟨0,1,by rw [h];exact of_mk (bd60 (by decide) (by decide)),by decide,by decide,by decide,by decide⟩
 ·unfold bodyOk
  show (insOk ins && (!decide (min 73048 (D+i) < 0) && (!decide (min 73048 (D+i) > 73048) && (payOk cash && curOk cur))))=true
  rw [ins4_ok hins,decide_eq_false (by omega),decide_eq_false (by omega),hpay,cur3_ok hcur];rfl
 ·unfold kindOk
  show (if kind=1 then decide (into=[]) && (facOk num && facOk den) else if kind=2 then decide (into=[]) && ((num == 0) && ((den == 0) && decide (sgn cash.p > 0))) else if kind=3 then insOk into && (!decide (into=ins) && (facOk num && facOk den)) else false)=true
  have fac:∀ n:Int,1≤n→n≤1000000→facOk n=true:=fun n h1 h2=>by unfold facOk;rw [decide_eq_true h1,decide_eq_true h2];rfl
  rcases hk with ⟨h,h1,h2,h3⟩ | ⟨⟨h,h1⟩ | ⟨h,h1⟩,h2,h3,h4,h5⟩
  ·have hp:0 < cash.p:=by
     rcases hc with hc | ⟨hc,-⟩
     ·obtain ⟨n,d,-,-,-,-,-,-,-,-,h9⟩:=price_of hc;exact h9
     ·exact absurd h hc
   have hs:sgn cash.p > 0:=by unfold sgn;rw [if_neg (by omega),if_neg (by omega)];decide
   rw [if_neg (by omega),if_pos h,h1,h2,h3,decide_eq_true hs];rfl
  ·rw [if_pos h,h1,fac num h2 (by omega),fac den h4 h5];rfl
  ·rw [if_neg (by omega),if_neg (by omega),if_pos h,h1,fac num h2 (by omega),fac den h4 h5,decide_eq_false (newco_ok hins)];rfl
 ·show min 73048 (D+i)≤D+7
  omega
/-! ### what the laws need of made books -/
theorem MkL.mono {D b c:Int} {n:Nat} {xs:List EC} (h:MkL D n b xs) (hc:b≤c):MkL D n c xs :=
 ⟨h.l,fun x hx=>⟨(h.x x hx).1,(h.x x hx).2.1,(h.x x hx).2.2.1,by have:=(h.x x hx).2.2.2;omega⟩,h.c,by have:=h.k;omega⟩
theorem MkLA.mono {D b c:Int} {n:Nat} {xs:List AC} (h:MkLA D n b xs) (hc:b≤c):MkLA D n c xs:=⟨h.l,h.x,h.c,by have:=h.k;omega⟩
theorem MkX.key {D:Int} {x:EC} (h:MkX D x) (k:Bs):MkX D { x with key:=k }:=by
 rcases h with h | h
 ·left;rw [h];rfl
 ·exact .inr ⟨h.v,h.d,h.s,h.a,h.c,h.k⟩
theorem MkX.live {D:Int} {x:EC} (h:MkX D x) (hv:x.void=false):MkB D x:=by
 rcases h with h | h
 ·rw [h] at hv;cases hv
 ·exact h
theorem MkB.of {D D':Int} {x y:EC} (h:MkB D x) (v:y.void=false) (d:0≤y.day∧D'≤y.day+1∧y.day≤D'+7) (s:y.day≤y.settle∧y.settle≤73048∧y.settle≤D'+10) (a : -100000≤y.amt∧y.amt≤100000) (e:y.kind=x.kind∧y.ins=x.ins∧y.cur=x.cur) (q:y.qty=x.qty∨(y.kind=1∧1≤y.qty∧y.qty≤2000)):MkB D' y:=by
 refine ⟨v,d,s,a,by rw [e.2.2];exact h.c,?_⟩
 rw [e.1,e.2.1]
 rcases q with q | ⟨q1,q2,q3⟩
 ·rw [q];exact h.k
 ·rw [e.1] at q1
  rcases h.k with ⟨k1,k2,-⟩ | ⟨k1,-⟩
  ·exact .inl ⟨k1,k2,by omega,by omega,q3⟩
  ·omega
theorem MkA.key {D:Int} {a:AC} (h:MkA D a) (k:Bs):MkA D { a with key:=k }:=by
 rcases h with h | ⟨h1,h2,h3,h4,h5⟩
 ·left;rw [h];rfl
 ·exact .inr ⟨h1,⟨h2.nd,h2.p,h2.c⟩,h3,h4,h5⟩
theorem MkA.day {D:Int} {a:AC} (h:MkA D a) (hv:a.void=false) {d:Int} (hd:0≤d∧d≤73048):MkA d { a with day:=d }:=by
 rcases h with h | ⟨h1,h2,h3,h4,h5⟩
 ·rw [h] at hv;cases hv
 ·refine .inr ⟨h1,⟨h2.nd,h2.p,h2.c⟩,?_,h4,by show d≤d+7;omega⟩
  unfold bodyOk at h3 ⊢
  simp only [Bool.and_eq_true,Bool.not_eq_true',decide_eq_false_iff_not] at h3 ⊢
  exact ⟨h3.1,by omega,by omega,h3.2.2.2⟩
structure OrdL (n:Nat) (xs:List EC):Prop where
 l:xs.length=n
 x:∀ (j:Nat) x,xs[j]? = some x→MkB 9497 x∧0≤x.qty∧x.known=j+1∧x.key.length=1
theorem OrdL.md {n:Nat} {xs:List EC} (h:OrdL n xs) (hn:n≤7):∀ x∈xs,(MdE x∧0≤x.qty)∧(x.void=false∧x.known≤99)∧x.In:=fun x hx=>by
 obtain ⟨j,hj⟩:=List.mem_iff_getElem?.1 hx
 obtain ⟨h1,h2,h3,h4⟩:=h.x j x hj
 have hl:=(List.getElem?_eq_some_iff.1 hj).1
 have hl2:=h.l
 exact ⟨⟨MkX.md (.inr h1) (hdrE_of (by omega) (by omega) (by omega) (by omega)),h2⟩,⟨h1.v,by omega⟩,MkX.in_ (.inr h1) (by omega)⟩
def kLater:Bs:=[108,97,116,101,114]
structure LtX (d:Int) (x:EC):Prop where
 v:validE x=true
 k:x.key=kLater
 n:100≤x.known
 l:x.void=true∨100 < x.known∨d < x.day
 inn:x.In
structure LtA (d:Int) (a:AC):Prop where
 v:validA a=true
 h:hdrOk a=true
 k:a.key=kLater
 n:100≤a.known
 i:a.In
 l:a.void=true∨100 < a.known∨d < a.day
theorem lt_x {D d:Int} {x:EC} (h:MkX D x) (hk:x.known=100∨x.known=101) (hc:x.void=true∨x.known=101):LtX d { x with key:=kLater } :=
 ⟨((h.key kLater).md (hdrE_of (by show 1≤5;decide) (by show 5≤64;decide) (by show 1≤x.known;omega) (by show x.known≤_;omega))).v,rfl,by show 100≤x.known;omega,by
  rcases hc with h | h
  ·exact .inl h
  ·exact .inr (.inl (by show 100 < x.known;omega)),(h.key kLater).in_ (by show 5≤64;decide)⟩
theorem lt_xd {D d:Int} {x:EC} (hd:0≤d∧d≤70000) (h:MkX D x) (hk:x.known=100) (hv:x.void=false):LtX d { x with key:=kLater,day:=d+1,settle:=d+2 }:=by
 have hb:=h.live hv
 have h2:MkX d { x with key:=kLater,day:=d+1,settle:=d+2 }:=.inr (hb.of hv ⟨by show 0≤d+1;omega,by show d≤d+1+1;omega,by show d+1≤d+7;omega⟩ ⟨by show d+1≤d+2;omega,by show d+2≤73048;omega,by show d+2≤d+10;omega⟩ hb.a ⟨rfl,rfl,rfl⟩ (.inl rfl))
 exact ⟨(h2.md (hdrE_of (by show 1≤5;decide) (by show 5≤64;decide) (by show 1≤x.known;omega) (by show x.known≤_;omega))).v,rfl,by show 100≤x.known;omega,.inr (.inr (by show d < d+1;omega)),h2.in_ (by show 5≤64;decide)⟩
theorem AC.in_key {a:AC} (h:a.In) {k:Bs} (hk:k.length≤9223372036854775807):AC.In { a with key:=k }:=⟨h.cash,hk,h.ins,h.into,h.cur,h.num,h.den⟩
theorem lt_a {D d:Int} {a:AC} (h:MkA D a) (hi:a.In) (hk:a.known=100∨a.known=101) (hc:a.void=true∨a.known=101):LtA d { a with key:=kLater } :=
 have hh:=hdrA_of (a:={ a with key:=kLater }) (by show 1≤5;decide) (by show 5≤64;decide) (by show 1≤a.known;omega) (by show a.known≤_;omega)
 ⟨(h.key kLater).ok hh,hh,rfl,by show 100≤a.known;omega,AC.in_key hi (by show 5≤_;decide),by
  rcases hc with h | h
  ·exact .inl h
  ·exact .inr (.inl (by show 100 < a.known;omega))⟩
theorem lt_ad {D d:Int} {a:AC} (hd:0≤d∧d≤70000) (h:MkA D a) (hi:a.In) (hk:a.known=100) (hv:a.void=false):LtA d { a with key:=kLater,day:=d+1 } :=
 have hh:=hdrA_of (a:={ a with key:=kLater,day:=d+1 }) (by show 1≤5;decide) (by show 5≤64;decide) (by show 1≤a.known;omega) (by show a.known≤_;omega)
 ⟨((h.key kLater).day hv (d:=d+1) ⟨by omega,by omega⟩).ok hh,hh,rfl,by show 100≤a.known;omega,⟨hi.cash,by show 5≤_;decide,hi.ins,hi.into,hi.cur,hi.num,hi.den⟩,.inr (.inr (by show d < d+1;omega))⟩
theorem later_law {D d b b':Int} {n n2:Nat} {xs:List EC} {al:List AC} {x:EC} {a:AC} (hn:n≤9) (hn2:n2≤9) (hM:MkL D n b xs) (hb:b≤2+5*n) (hM2:MkLA D n2 b' al) (hb':b'≤2+5*n2) (hx:LtX d x) (ha:LtA d a):atP (xs++[x]) (al++[a]) 100 d=atP xs al 100 d:=by
 have h1:=hM.k
 have h2:=hM2.k
 have h3:=hx.n
 have h4:=ha.n
 have l1:=hM.l
 have l2:=hM2.l
 refine at_later hM.c (chkX_snoc hM.c (by omega) hx.v (by omega)) hM2.c (chkA_snoc hM2.c (by omega) ha.v ha.h (by omega)) (fun y hy e=>?_) (fun y hy e=>?_) hx.l ha.l
 ·have h5:=hM.key y hy
  rw [e,hx.k] at h5
  exact absurd h5 (by decide)
 ·have h5:=keysA_len (hM2.x y hy).2.1
  rw [e,ha.k] at h5
  exact absurd h5 (by decide)
theorem stock_m:Gen 50 [] 1 (RS (·∈stocks4)):=by
 intro zs k hk
 obtain ⟨r1,k1,a1,b1,⟨l,rfl,c1⟩,O1⟩:=one_g (xs:=[[65,67,77,69],[66,79,78,68],[71,79,76,68],[88,49]]) (by decide) (by decide) zs k (by omega)
 refine ⟨_,k1,by omega,by omega,⟨l,rfl,c1⟩,fun E v d hE hv=>?_⟩
 refine sx_ownT1 [] tt_ok mixed at50 E hE d (25,2,tb v k,tb v k1) [SV.ptr 1000 0] _ rfl rfl fun w b hT=>?_
 have hv:=hv.of_old hE.symm hT
 exact ⟨by decide,by decide,strs [[65,67,77,69],[66,79,78,68],[71,79,76,68],[88,49]],by kernel_rfl,rfl,.inr ⟨_,_,_,O1 _ v 1000 4 (by decide) rfl hv,⟨rfl,rfl,trivial⟩,rfl,rfl,rfl,trivial⟩⟩
theorem code_m:Gen 52 [] 1 (RS (·∈codes3)):=by
 intro zs k hk
 obtain ⟨r1,k1,a1,b1,⟨l,rfl,c1⟩,O1⟩:=one_g (xs:=[[85,83,68],[85,83,68],[69,85,82],[71,66,80]]) (by decide) (by decide) zs k (by omega)
 refine ⟨_,k1,by omega,by omega,⟨l,rfl,by simp at c1;rcases c1 with rfl | rfl | rfl<;>simp [codes3]⟩,fun E v d hE hv=>?_⟩
 refine sx_ownT1 [] tt_ok mixed at52 E hE d (25,2,tb v k,tb v k1) [SV.ptr 1000 0] _ rfl rfl fun w b hT=>?_
 have hv:=hv.of_old hE.symm hT
 exact ⟨by decide,by decide,strs [[85,83,68],[85,83,68],[69,85,82],[71,66,80]],by kernel_rfl,rfl,.inr ⟨_,_,_,O1 _ v 1000 4 (by decide) rfl hv,⟨rfl,rfl,trivial⟩,rfl,rfl,rfl,trivial⟩⟩
theorem action_m {day:Int} (hD:0≤day∧day≤73048) (known:Int):Gen 22 [SV.c (.int .i64 day),SV.c (.int .i64 known)] 20 (RC fun a=>(MkA day a∧a.key∈keysA∧a.In)∧a.known=known):=by
 intro zs k hk
 obtain ⟨r1,k1,a1,b1,⟨kind,rfl,c1⟩,O1⟩:=range_g (lo:=1) (hi:=3) (by decide) (by decide) (by decide) zs k (by omega)
 obtain ⟨r2,k2,a2,b2,⟨key,rfl,c2⟩,O2⟩:=one_g (xs:=[[115,49],[115,50],[100,49],[109,49]]) (by decide) (by decide) zs k1 (by omega)
 obtain ⟨r3,k3,a3,b3,⟨ins,rfl,c3⟩,O3⟩:=stock_m zs k2 (by omega)
 obtain ⟨r4,k4,a4,b4,⟨i4,rfl,c4⟩,O4⟩:=next_g (n:=8) (by decide) zs k3 (by omega)
 obtain ⟨r5,k5,a5,b5,⟨cash,rfl,c5⟩,O5⟩:=price_g zs k4 (by omega)
 obtain ⟨r6,k6,a6,b6,⟨cur,rfl,c6⟩,O6⟩:=code_m zs k5 (by omega)
 have lkey:key.length≤9223372036854775807:=by simp at c2;rcases c2 with rfl | rfl | rfl | rfl<;>simp
 have lkey:key.length≤9223372036854775807:=by have:=keysA_len (k:=key) c2;omega
 have lins:=capAll_len (ins4_ok c3)
 have lcur:cur.length≤100:=by
  have h:=c6
  simp only [codes3,List.mem_cons,List.not_mem_nil,or_false] at h
  rcases h with rfl | rfl | rfl<;>decide
 have n0:(MkA day (AC.nil key known)∧(AC.nil key known).key∈keysA∧(AC.nil key known).In)∧(AC.nil key known).known=known:=⟨⟨.inl rfl,c2,nil_in,lkey,by simp [AC.nil],by simp [AC.nil],by simp [AC.nil],by simp [AC.nil],by simp [AC.nil]⟩,rfl⟩
 let M:=fun (kind:Int) (into:List UInt8) (num den:Int) (r:RQ)=>AC.mk kind key ins into (min 73048 (IntKind.i64.wrap (day+i4))) num den r cur known false
 have mk:∀ (kind:Int) (into:List UInt8) (num den:Int) (r:RQ),into.length≤100→r.In→(isPrice r∨(kind≠2∧r=.of 0 1))→((kind=2∧into=[]∧num=0∧den=0)∨(((kind=1∧into=[])∨(kind=3∧into=[78,69,87,67,79]))∧1≤num∧num≤1000∧1≤den∧den≤1000000))→(MkA day (M kind into num den r)∧key∈keysA∧(M kind into num den r).In)∧known=known:=fun kind into num den r h1 h2 h3 h4=>⟨⟨mk_act hD ⟨c4.1,by omega⟩ c3 c6 h3 h4,c2,h2,lkey,by show ins.length≤_;omega,by show into.length≤_;omega,by show cur.length≤_;omega,by show _≤num∧num≤_;omega,by show _≤den∧den≤_;omega⟩,rfl⟩
 by_cases h2:kind=2
 ·subst h2
  obtain ⟨r7,k7,a7,b7,⟨void,rfl⟩,O7⟩:=chance_g (a:=1) (b:=8) (by decide) zs k6 (by omega)
  cases void
  ·refine ⟨_,k7,by omega,by omega,⟨(M 2 [] 0 0 cash),rfl,mk _ _ _ _ _ (by simp) c5.in_ (.inl c5) (.inl ⟨rfl,rfl,rfl,rfl⟩)⟩,fun E v d hE hv=>?_⟩
   refine sx_ownT1 [] tt_ok mixed at22 E hE d (25,2,tb v k,tb v k7) [SV.ptr 1000 0,SV.c (.int .i64 day),SV.c (.int .i64 known)] _ rfl rfl fun w b hT=>?_
   have hv:=hv.of_old hE.symm hT
   exact .inr ⟨_,_,_,O1 _ v 1000 rfl hv,⟨rfl,trivial⟩,rfl,by decide,by decide,strs keysA,by kernel_rfl,rfl,.inr ⟨_,_,_,O2 _ v 1000 11 (by decide) rfl hv,⟨rfl,rfl,trivial⟩,rfl,.inr ⟨_,_,_,O3 _ v 1000 rfl hv,⟨rfl,trivial⟩,rfl,.inr ⟨_,_,_,O4 _ v 1000 rfl hv,⟨rfl,trivial⟩,rfl,_,fun w' _=>run_min_ct _ _ w',.inr ⟨_,_,_,O5 _ v 1000 rfl hv,⟨rfl,trivial⟩,rfl,.inr ⟨_,_,_,O6 _ v 1000 rfl hv,⟨rfl,trivial⟩,rfl,_,fill_made 2 (min 73048 (IntKind.i64.wrap (day+i4))) known key ins cur cash rfl,AC.fits (M 2 [] 0 0 cash),_,AC.g0 (M 2 [] 0 0 cash),(nf rfl),fun _=>⟨_,AC.g0 (M 2 [] 0 0 cash),(nf rfl),fun _=>⟨_,AC.g0 (M 2 [] 0 0 cash),(nf rfl),fun _=>⟨(nf rfl),fun _=>.inr ⟨_,_,_,O7 _ v 1000 rfl hv,⟨rfl,trivial⟩,rfl,(nf rfl),fun _=>⟨AC.fits _,rfl,rfl,trivial⟩⟩⟩⟩⟩⟩⟩⟩⟩⟩⟩
  ·refine ⟨_,k7,by omega,by omega,⟨AC.nil key known,rfl,n0⟩,fun E v d hE hv=>?_⟩
   refine sx_ownT1 [] tt_ok mixed at22 E hE d (25,2,tb v k,tb v k7) [SV.ptr 1000 0,SV.c (.int .i64 day),SV.c (.int .i64 known)] _ rfl rfl fun w b hT=>?_
   have hv:=hv.of_old hE.symm hT
   exact .inr ⟨_,_,_,O1 _ v 1000 rfl hv,⟨rfl,trivial⟩,rfl,by decide,by decide,strs keysA,by kernel_rfl,rfl,.inr ⟨_,_,_,O2 _ v 1000 11 (by decide) rfl hv,⟨rfl,rfl,trivial⟩,rfl,.inr ⟨_,_,_,O3 _ v 1000 rfl hv,⟨rfl,trivial⟩,rfl,.inr ⟨_,_,_,O4 _ v 1000 rfl hv,⟨rfl,trivial⟩,rfl,_,fun w' _=>run_min_ct _ _ w',.inr ⟨_,_,_,O5 _ v 1000 rfl hv,⟨rfl,trivial⟩,rfl,.inr ⟨_,_,_,O6 _ v 1000 rfl hv,⟨rfl,trivial⟩,rfl,_,fill_made 2 (min 73048 (IntKind.i64.wrap (day+i4))) known key ins cur cash rfl,AC.fits (M 2 [] 0 0 cash),_,AC.g0 (M 2 [] 0 0 cash),(nf rfl),fun _=>⟨_,AC.g0 (M 2 [] 0 0 cash),(nf rfl),fun _=>⟨_,AC.g0 (M 2 [] 0 0 cash),(nf rfl),fun _=>⟨(nf rfl),fun _=>.inr ⟨_,_,_,O7 _ v 1000 rfl hv,⟨rfl,trivial⟩,rfl,fun _=>⟨_,AC.g1 (M 2 [] 0 0 cash),_,fill_void key known rfl,AC.fits _,rfl,rfl,trivial⟩,(nf rfl)⟩⟩⟩⟩⟩⟩⟩⟩⟩⟩
 have hk3:kind=1∨kind=3:=by omega
 rcases hk3 with hk3 | hk3
 ·subst hk3
  obtain ⟨r7,k7,a7,b7,⟨i7,rfl,c7⟩,O7⟩:=next_g (n:=50) (by decide) zs k6 (by omega)
  have e7:IntKind.i64.wrap (1+i7)=1+i7:=i64_in (by omega)
  obtain ⟨r8,k8,a8,b8,⟨num,rfl,c8⟩,O8⟩:=pick_g (xs:=[1,2,3,10,1000,IntKind.i64.wrap (1+i7)]) (by simp) (by simp) zs k7 (by omega)
  obtain ⟨r9,k9,a9,b9,⟨i9,rfl,c9⟩,O9⟩:=next_g (n:=50) (by decide) zs k8 (by omega)
  have e9:IntKind.i64.wrap (1+i9)=1+i9:=i64_in (by omega)
  obtain ⟨r10,k10,a10,b10,⟨den,rfl,c10⟩,O10⟩:=pick_g (xs:=[1,1,2,3,7,1000000,IntKind.i64.wrap (1+i9)]) (by simp) (by simp) zs k9 (by omega)
  have q8:1≤num∧num≤1000:=by rw [e7] at c8;simp at c8;omega
  have q10:1≤den∧den≤1000000:=by rw [e9] at c10;simp at c10;omega
  obtain ⟨r11,k11,a11,b11,⟨zero,rfl⟩,O11⟩:=chance_g (a:=1) (b:=4) (by decide) zs k10 (by omega)
  obtain ⟨r12,k12,a12,b12,⟨void,rfl⟩,O12⟩:=chance_g (a:=1) (b:=8) (by decide) zs k11 (by omega)
  cases zero
  ·cases void
   ·refine ⟨_,k12,by omega,by omega,⟨(M 1 [] num den cash),rfl,mk _ _ _ _ _ (by simp) c5.in_ (.inl c5) (.inr ⟨.inl ⟨rfl,rfl⟩,q8.1,q8.2,q10.1,q10.2⟩)⟩,fun E v d hE hv=>?_⟩
    refine sx_ownT1 [] tt_ok mixed at22 E hE d (25,2,tb v k,tb v k12) [SV.ptr 1000 0,SV.c (.int .i64 day),SV.c (.int .i64 known)] _ rfl rfl fun w b hT=>?_
    have hv:=hv.of_old hE.symm hT
    exact .inr ⟨_,_,_,O1 _ v 1000 rfl hv,⟨rfl,trivial⟩,rfl,by decide,by decide,strs keysA,by kernel_rfl,rfl,.inr ⟨_,_,_,O2 _ v 1000 11 (by decide) rfl hv,⟨rfl,rfl,trivial⟩,rfl,.inr ⟨_,_,_,O3 _ v 1000 rfl hv,⟨rfl,trivial⟩,rfl,.inr ⟨_,_,_,O4 _ v 1000 rfl hv,⟨rfl,trivial⟩,rfl,_,fun w' _=>run_min_ct _ _ w',.inr ⟨_,_,_,O5 _ v 1000 rfl hv,⟨rfl,trivial⟩,rfl,.inr ⟨_,_,_,O6 _ v 1000 rfl hv,⟨rfl,trivial⟩,rfl,_,fill_made 1 (min 73048 (IntKind.i64.wrap (day+i4))) known key ins cur cash rfl,AC.fits (M 1 [] 0 0 cash),_,AC.g0 (M 1 [] 0 0 cash),fun _=>.inr ⟨_,_,_,O7 _ v 1000 rfl hv,⟨rfl,trivial⟩,rfl,by decide,by decide,ints [1,2,3,10,1000,IntKind.i64.wrap (1+i7)],by kernel_rfl,rfl,.inr ⟨_,_,_,O8 _ v 1000 33 (by decide) rfl hv,⟨rfl,rfl,trivial⟩,rfl,.inr ⟨_,_,_,O9 _ v 1000 rfl hv,⟨rfl,trivial⟩,rfl,by decide,by decide,ints [1,1,2,3,7,1000000,IntKind.i64.wrap (1+i9)],by kernel_rfl,rfl,.inr ⟨_,_,_,O10 _ v 1000 39 (by decide) rfl hv,⟨rfl,rfl,trivial⟩,rfl,by decide,rfl,_,AC.set5 (M 1 [] 0 0 cash) num,by decide,rfl,_,AC.set6 (M 1 [] num 0 cash) den,_,AC.g0 (M 1 [] num den cash),(nf rfl),fun _=>⟨_,AC.g0 (M 1 [] num den cash),fun _=>.inr ⟨_,_,_,O11 _ v 1000 rfl hv,⟨rfl,trivial⟩,rfl,(nf rfl),fun _=>.inr ⟨_,_,_,O12 _ v 1000 rfl hv,⟨rfl,trivial⟩,rfl,(nf rfl),fun _=>⟨AC.fits _,rfl,rfl,trivial⟩⟩⟩,(nf rfl)⟩⟩⟩⟩⟩,(nf rfl)⟩⟩⟩⟩⟩⟩
   ·refine ⟨_,k12,by omega,by omega,⟨AC.nil key known,rfl,n0⟩,fun E v d hE hv=>?_⟩
    refine sx_ownT1 [] tt_ok mixed at22 E hE d (25,2,tb v k,tb v k12) [SV.ptr 1000 0,SV.c (.int .i64 day),SV.c (.int .i64 known)] _ rfl rfl fun w b hT=>?_
    have hv:=hv.of_old hE.symm hT
    exact .inr ⟨_,_,_,O1 _ v 1000 rfl hv,⟨rfl,trivial⟩,rfl,by decide,by decide,strs keysA,by kernel_rfl,rfl,.inr ⟨_,_,_,O2 _ v 1000 11 (by decide) rfl hv,⟨rfl,rfl,trivial⟩,rfl,.inr ⟨_,_,_,O3 _ v 1000 rfl hv,⟨rfl,trivial⟩,rfl,.inr ⟨_,_,_,O4 _ v 1000 rfl hv,⟨rfl,trivial⟩,rfl,_,fun w' _=>run_min_ct _ _ w',.inr ⟨_,_,_,O5 _ v 1000 rfl hv,⟨rfl,trivial⟩,rfl,.inr ⟨_,_,_,O6 _ v 1000 rfl hv,⟨rfl,trivial⟩,rfl,_,fill_made 1 (min 73048 (IntKind.i64.wrap (day+i4))) known key ins cur cash rfl,AC.fits (M 1 [] 0 0 cash),_,AC.g0 (M 1 [] 0 0 cash),fun _=>.inr ⟨_,_,_,O7 _ v 1000 rfl hv,⟨rfl,trivial⟩,rfl,by decide,by decide,ints [1,2,3,10,1000,IntKind.i64.wrap (1+i7)],by kernel_rfl,rfl,.inr ⟨_,_,_,O8 _ v 1000 33 (by decide) rfl hv,⟨rfl,rfl,trivial⟩,rfl,.inr ⟨_,_,_,O9 _ v 1000 rfl hv,⟨rfl,trivial⟩,rfl,by decide,by decide,ints [1,1,2,3,7,1000000,IntKind.i64.wrap (1+i9)],by kernel_rfl,rfl,.inr ⟨_,_,_,O10 _ v 1000 39 (by decide) rfl hv,⟨rfl,rfl,trivial⟩,rfl,by decide,rfl,_,AC.set5 (M 1 [] 0 0 cash) num,by decide,rfl,_,AC.set6 (M 1 [] num 0 cash) den,_,AC.g0 (M 1 [] num den cash),(nf rfl),fun _=>⟨_,AC.g0 (M 1 [] num den cash),fun _=>.inr ⟨_,_,_,O11 _ v 1000 rfl hv,⟨rfl,trivial⟩,rfl,(nf rfl),fun _=>.inr ⟨_,_,_,O12 _ v 1000 rfl hv,⟨rfl,trivial⟩,rfl,fun _=>⟨_,AC.g1 (M 1 [] num den cash),_,fill_void key known rfl,AC.fits _,rfl,rfl,trivial⟩,(nf rfl)⟩⟩,(nf rfl)⟩⟩⟩⟩⟩,(nf rfl)⟩⟩⟩⟩⟩⟩
  ·cases void
   ·refine ⟨_,k12,by omega,by omega,⟨(M 1 [] num den (RQ.of 0 1)),rfl,mk _ _ _ _ _ (by simp) one_in0 (.inr ⟨by decide,rfl⟩) (.inr ⟨.inl ⟨rfl,rfl⟩,q8.1,q8.2,q10.1,q10.2⟩)⟩,fun E v d hE hv=>?_⟩
    refine sx_ownT1 [] tt_ok mixed at22 E hE d (25,2,tb v k,tb v k12) [SV.ptr 1000 0,SV.c (.int .i64 day),SV.c (.int .i64 known)] _ rfl rfl fun w b hT=>?_
    have hv:=hv.of_old hE.symm hT
    exact .inr ⟨_,_,_,O1 _ v 1000 rfl hv,⟨rfl,trivial⟩,rfl,by decide,by decide,strs keysA,by kernel_rfl,rfl,.inr ⟨_,_,_,O2 _ v 1000 11 (by decide) rfl hv,⟨rfl,rfl,trivial⟩,rfl,.inr ⟨_,_,_,O3 _ v 1000 rfl hv,⟨rfl,trivial⟩,rfl,.inr ⟨_,_,_,O4 _ v 1000 rfl hv,⟨rfl,trivial⟩,rfl,_,fun w' _=>run_min_ct _ _ w',.inr ⟨_,_,_,O5 _ v 1000 rfl hv,⟨rfl,trivial⟩,rfl,.inr ⟨_,_,_,O6 _ v 1000 rfl hv,⟨rfl,trivial⟩,rfl,_,fill_made 1 (min 73048 (IntKind.i64.wrap (day+i4))) known key ins cur cash rfl,AC.fits (M 1 [] 0 0 cash),_,AC.g0 (M 1 [] 0 0 cash),fun _=>.inr ⟨_,_,_,O7 _ v 1000 rfl hv,⟨rfl,trivial⟩,rfl,by decide,by decide,ints [1,2,3,10,1000,IntKind.i64.wrap (1+i7)],by kernel_rfl,rfl,.inr ⟨_,_,_,O8 _ v 1000 33 (by decide) rfl hv,⟨rfl,rfl,trivial⟩,rfl,.inr ⟨_,_,_,O9 _ v 1000 rfl hv,⟨rfl,trivial⟩,rfl,by decide,by decide,ints [1,1,2,3,7,1000000,IntKind.i64.wrap (1+i9)],by kernel_rfl,rfl,.inr ⟨_,_,_,O10 _ v 1000 39 (by decide) rfl hv,⟨rfl,rfl,trivial⟩,rfl,by decide,rfl,_,AC.set5 (M 1 [] 0 0 cash) num,by decide,rfl,_,AC.set6 (M 1 [] num 0 cash) den,_,AC.g0 (M 1 [] num den cash),(nf rfl),fun _=>⟨_,AC.g0 (M 1 [] num den cash),fun _=>.inr ⟨_,_,_,O11 _ v 1000 rfl hv,⟨rfl,trivial⟩,rfl,fun _=>.inl ⟨_,zeroR_r,by decide,RQ.A_fits _,_,AC.setcash (M 1 [] num den cash) (RQ.of 0 1),.inr ⟨_,_,_,O12 _ v 1000 rfl hv,⟨rfl,trivial⟩,rfl,(nf rfl),fun _=>⟨AC.fits _,rfl,rfl,trivial⟩⟩⟩,(nf rfl)⟩,(nf rfl)⟩⟩⟩⟩⟩,(nf rfl)⟩⟩⟩⟩⟩⟩
   ·refine ⟨_,k12,by omega,by omega,⟨AC.nil key known,rfl,n0⟩,fun E v d hE hv=>?_⟩
    refine sx_ownT1 [] tt_ok mixed at22 E hE d (25,2,tb v k,tb v k12) [SV.ptr 1000 0,SV.c (.int .i64 day),SV.c (.int .i64 known)] _ rfl rfl fun w b hT=>?_
    have hv:=hv.of_old hE.symm hT
    exact .inr ⟨_,_,_,O1 _ v 1000 rfl hv,⟨rfl,trivial⟩,rfl,by decide,by decide,strs keysA,by kernel_rfl,rfl,.inr ⟨_,_,_,O2 _ v 1000 11 (by decide) rfl hv,⟨rfl,rfl,trivial⟩,rfl,.inr ⟨_,_,_,O3 _ v 1000 rfl hv,⟨rfl,trivial⟩,rfl,.inr ⟨_,_,_,O4 _ v 1000 rfl hv,⟨rfl,trivial⟩,rfl,_,fun w' _=>run_min_ct _ _ w',.inr ⟨_,_,_,O5 _ v 1000 rfl hv,⟨rfl,trivial⟩,rfl,.inr ⟨_,_,_,O6 _ v 1000 rfl hv,⟨rfl,trivial⟩,rfl,_,fill_made 1 (min 73048 (IntKind.i64.wrap (day+i4))) known key ins cur cash rfl,AC.fits (M 1 [] 0 0 cash),_,AC.g0 (M 1 [] 0 0 cash),fun _=>.inr ⟨_,_,_,O7 _ v 1000 rfl hv,⟨rfl,trivial⟩,rfl,by decide,by decide,ints [1,2,3,10,1000,IntKind.i64.wrap (1+i7)],by kernel_rfl,rfl,.inr ⟨_,_,_,O8 _ v 1000 33 (by decide) rfl hv,⟨rfl,rfl,trivial⟩,rfl,.inr ⟨_,_,_,O9 _ v 1000 rfl hv,⟨rfl,trivial⟩,rfl,by decide,by decide,ints [1,1,2,3,7,1000000,IntKind.i64.wrap (1+i9)],by kernel_rfl,rfl,.inr ⟨_,_,_,O10 _ v 1000 39 (by decide) rfl hv,⟨rfl,rfl,trivial⟩,rfl,by decide,rfl,_,AC.set5 (M 1 [] 0 0 cash) num,by decide,rfl,_,AC.set6 (M 1 [] num 0 cash) den,_,AC.g0 (M 1 [] num den cash),(nf rfl),fun _=>⟨_,AC.g0 (M 1 [] num den cash),fun _=>.inr ⟨_,_,_,O11 _ v 1000 rfl hv,⟨rfl,trivial⟩,rfl,fun _=>.inl ⟨_,zeroR_r,by decide,RQ.A_fits _,_,AC.setcash (M 1 [] num den cash) (RQ.of 0 1),.inr ⟨_,_,_,O12 _ v 1000 rfl hv,⟨rfl,trivial⟩,rfl,fun _=>⟨_,AC.g1 (M 1 [] num den (RQ.of 0 1)),_,fill_void key known rfl,AC.fits _,rfl,rfl,trivial⟩,(nf rfl)⟩⟩,(nf rfl)⟩,(nf rfl)⟩⟩⟩⟩⟩,(nf rfl)⟩⟩⟩⟩⟩⟩
 ·subst hk3
  obtain ⟨r7,k7,a7,b7,⟨i7,rfl,c7⟩,O7⟩:=next_g (n:=50) (by decide) zs k6 (by omega)
  have e7:IntKind.i64.wrap (1+i7)=1+i7:=i64_in (by omega)
  obtain ⟨r8,k8,a8,b8,⟨num,rfl,c8⟩,O8⟩:=pick_g (xs:=[1,2,3,10,1000,IntKind.i64.wrap (1+i7)]) (by simp) (by simp) zs k7 (by omega)
  obtain ⟨r9,k9,a9,b9,⟨i9,rfl,c9⟩,O9⟩:=next_g (n:=50) (by decide) zs k8 (by omega)
  have e9:IntKind.i64.wrap (1+i9)=1+i9:=i64_in (by omega)
  obtain ⟨r10,k10,a10,b10,⟨den,rfl,c10⟩,O10⟩:=pick_g (xs:=[1,1,2,3,7,1000000,IntKind.i64.wrap (1+i9)]) (by simp) (by simp) zs k9 (by omega)
  have q8:1≤num∧num≤1000:=by rw [e7] at c8;simp at c8;omega
  have q10:1≤den∧den≤1000000:=by rw [e9] at c10;simp at c10;omega
  obtain ⟨r11,k11,a11,b11,⟨zero,rfl⟩,O11⟩:=chance_g (a:=1) (b:=4) (by decide) zs k10 (by omega)
  obtain ⟨r12,k12,a12,b12,⟨void,rfl⟩,O12⟩:=chance_g (a:=1) (b:=8) (by decide) zs k11 (by omega)
  cases zero
  ·cases void
   ·refine ⟨_,k12,by omega,by omega,⟨(M 3 [78,69,87,67,79] num den cash),rfl,mk _ _ _ _ _ (by simp) c5.in_ (.inl c5) (.inr ⟨.inr ⟨rfl,rfl⟩,q8.1,q8.2,q10.1,q10.2⟩)⟩,fun E v d hE hv=>?_⟩
    refine sx_ownT1 [] tt_ok mixed at22 E hE d (25,2,tb v k,tb v k12) [SV.ptr 1000 0,SV.c (.int .i64 day),SV.c (.int .i64 known)] _ rfl rfl fun w b hT=>?_
    have hv:=hv.of_old hE.symm hT
    exact .inr ⟨_,_,_,O1 _ v 1000 rfl hv,⟨rfl,trivial⟩,rfl,by decide,by decide,strs keysA,by kernel_rfl,rfl,.inr ⟨_,_,_,O2 _ v 1000 11 (by decide) rfl hv,⟨rfl,rfl,trivial⟩,rfl,.inr ⟨_,_,_,O3 _ v 1000 rfl hv,⟨rfl,trivial⟩,rfl,.inr ⟨_,_,_,O4 _ v 1000 rfl hv,⟨rfl,trivial⟩,rfl,_,fun w' _=>run_min_ct _ _ w',.inr ⟨_,_,_,O5 _ v 1000 rfl hv,⟨rfl,trivial⟩,rfl,.inr ⟨_,_,_,O6 _ v 1000 rfl hv,⟨rfl,trivial⟩,rfl,_,fill_made 3 (min 73048 (IntKind.i64.wrap (day+i4))) known key ins cur cash rfl,AC.fits (M 3 [] 0 0 cash),_,AC.g0 (M 3 [] 0 0 cash),fun _=>.inr ⟨_,_,_,O7 _ v 1000 rfl hv,⟨rfl,trivial⟩,rfl,by decide,by decide,ints [1,2,3,10,1000,IntKind.i64.wrap (1+i7)],by kernel_rfl,rfl,.inr ⟨_,_,_,O8 _ v 1000 33 (by decide) rfl hv,⟨rfl,rfl,trivial⟩,rfl,.inr ⟨_,_,_,O9 _ v 1000 rfl hv,⟨rfl,trivial⟩,rfl,by decide,by decide,ints [1,1,2,3,7,1000000,IntKind.i64.wrap (1+i9)],by kernel_rfl,rfl,.inr ⟨_,_,_,O10 _ v 1000 39 (by decide) rfl hv,⟨rfl,rfl,trivial⟩,rfl,by decide,rfl,_,AC.set5 (M 3 [] 0 0 cash) num,by decide,rfl,_,AC.set6 (M 3 [] num 0 cash) den,_,AC.g0 (M 3 [] num den cash),fun _=>⟨by decide,rfl,_,AC.set3 (M 3 [] num den cash) [78,69,87,67,79],_,AC.g0 (M 3 [78,69,87,67,79] num den cash),fun _=>.inr ⟨_,_,_,O11 _ v 1000 rfl hv,⟨rfl,trivial⟩,rfl,(nf rfl),fun _=>.inr ⟨_,_,_,O12 _ v 1000 rfl hv,⟨rfl,trivial⟩,rfl,(nf rfl),fun _=>⟨AC.fits _,rfl,rfl,trivial⟩⟩⟩,(nf rfl)⟩,(nf rfl)⟩⟩⟩⟩,(nf rfl)⟩⟩⟩⟩⟩⟩
   ·refine ⟨_,k12,by omega,by omega,⟨AC.nil key known,rfl,n0⟩,fun E v d hE hv=>?_⟩
    refine sx_ownT1 [] tt_ok mixed at22 E hE d (25,2,tb v k,tb v k12) [SV.ptr 1000 0,SV.c (.int .i64 day),SV.c (.int .i64 known)] _ rfl rfl fun w b hT=>?_
    have hv:=hv.of_old hE.symm hT
    exact .inr ⟨_,_,_,O1 _ v 1000 rfl hv,⟨rfl,trivial⟩,rfl,by decide,by decide,strs keysA,by kernel_rfl,rfl,.inr ⟨_,_,_,O2 _ v 1000 11 (by decide) rfl hv,⟨rfl,rfl,trivial⟩,rfl,.inr ⟨_,_,_,O3 _ v 1000 rfl hv,⟨rfl,trivial⟩,rfl,.inr ⟨_,_,_,O4 _ v 1000 rfl hv,⟨rfl,trivial⟩,rfl,_,fun w' _=>run_min_ct _ _ w',.inr ⟨_,_,_,O5 _ v 1000 rfl hv,⟨rfl,trivial⟩,rfl,.inr ⟨_,_,_,O6 _ v 1000 rfl hv,⟨rfl,trivial⟩,rfl,_,fill_made 3 (min 73048 (IntKind.i64.wrap (day+i4))) known key ins cur cash rfl,AC.fits (M 3 [] 0 0 cash),_,AC.g0 (M 3 [] 0 0 cash),fun _=>.inr ⟨_,_,_,O7 _ v 1000 rfl hv,⟨rfl,trivial⟩,rfl,by decide,by decide,ints [1,2,3,10,1000,IntKind.i64.wrap (1+i7)],by kernel_rfl,rfl,.inr ⟨_,_,_,O8 _ v 1000 33 (by decide) rfl hv,⟨rfl,rfl,trivial⟩,rfl,.inr ⟨_,_,_,O9 _ v 1000 rfl hv,⟨rfl,trivial⟩,rfl,by decide,by decide,ints [1,1,2,3,7,1000000,IntKind.i64.wrap (1+i9)],by kernel_rfl,rfl,.inr ⟨_,_,_,O10 _ v 1000 39 (by decide) rfl hv,⟨rfl,rfl,trivial⟩,rfl,by decide,rfl,_,AC.set5 (M 3 [] 0 0 cash) num,by decide,rfl,_,AC.set6 (M 3 [] num 0 cash) den,_,AC.g0 (M 3 [] num den cash),fun _=>⟨by decide,rfl,_,AC.set3 (M 3 [] num den cash) [78,69,87,67,79],_,AC.g0 (M 3 [78,69,87,67,79] num den cash),fun _=>.inr ⟨_,_,_,O11 _ v 1000 rfl hv,⟨rfl,trivial⟩,rfl,(nf rfl),fun _=>.inr ⟨_,_,_,O12 _ v 1000 rfl hv,⟨rfl,trivial⟩,rfl,fun _=>⟨_,AC.g1 (M 3 [78,69,87,67,79] num den cash),_,fill_void key known rfl,AC.fits _,rfl,rfl,trivial⟩,(nf rfl)⟩⟩,(nf rfl)⟩,(nf rfl)⟩⟩⟩⟩,(nf rfl)⟩⟩⟩⟩⟩⟩
  ·cases void
   ·refine ⟨_,k12,by omega,by omega,⟨(M 3 [78,69,87,67,79] num den (RQ.of 0 1)),rfl,mk _ _ _ _ _ (by simp) one_in0 (.inr ⟨by decide,rfl⟩) (.inr ⟨.inr ⟨rfl,rfl⟩,q8.1,q8.2,q10.1,q10.2⟩)⟩,fun E v d hE hv=>?_⟩
    refine sx_ownT1 [] tt_ok mixed at22 E hE d (25,2,tb v k,tb v k12) [SV.ptr 1000 0,SV.c (.int .i64 day),SV.c (.int .i64 known)] _ rfl rfl fun w b hT=>?_
    have hv:=hv.of_old hE.symm hT
    exact .inr ⟨_,_,_,O1 _ v 1000 rfl hv,⟨rfl,trivial⟩,rfl,by decide,by decide,strs keysA,by kernel_rfl,rfl,.inr ⟨_,_,_,O2 _ v 1000 11 (by decide) rfl hv,⟨rfl,rfl,trivial⟩,rfl,.inr ⟨_,_,_,O3 _ v 1000 rfl hv,⟨rfl,trivial⟩,rfl,.inr ⟨_,_,_,O4 _ v 1000 rfl hv,⟨rfl,trivial⟩,rfl,_,fun w' _=>run_min_ct _ _ w',.inr ⟨_,_,_,O5 _ v 1000 rfl hv,⟨rfl,trivial⟩,rfl,.inr ⟨_,_,_,O6 _ v 1000 rfl hv,⟨rfl,trivial⟩,rfl,_,fill_made 3 (min 73048 (IntKind.i64.wrap (day+i4))) known key ins cur cash rfl,AC.fits (M 3 [] 0 0 cash),_,AC.g0 (M 3 [] 0 0 cash),fun _=>.inr ⟨_,_,_,O7 _ v 1000 rfl hv,⟨rfl,trivial⟩,rfl,by decide,by decide,ints [1,2,3,10,1000,IntKind.i64.wrap (1+i7)],by kernel_rfl,rfl,.inr ⟨_,_,_,O8 _ v 1000 33 (by decide) rfl hv,⟨rfl,rfl,trivial⟩,rfl,.inr ⟨_,_,_,O9 _ v 1000 rfl hv,⟨rfl,trivial⟩,rfl,by decide,by decide,ints [1,1,2,3,7,1000000,IntKind.i64.wrap (1+i9)],by kernel_rfl,rfl,.inr ⟨_,_,_,O10 _ v 1000 39 (by decide) rfl hv,⟨rfl,rfl,trivial⟩,rfl,by decide,rfl,_,AC.set5 (M 3 [] 0 0 cash) num,by decide,rfl,_,AC.set6 (M 3 [] num 0 cash) den,_,AC.g0 (M 3 [] num den cash),fun _=>⟨by decide,rfl,_,AC.set3 (M 3 [] num den cash) [78,69,87,67,79],_,AC.g0 (M 3 [78,69,87,67,79] num den cash),fun _=>.inr ⟨_,_,_,O11 _ v 1000 rfl hv,⟨rfl,trivial⟩,rfl,fun _=>.inl ⟨_,zeroR_r,by decide,RQ.A_fits _,_,AC.setcash (M 3 [78,69,87,67,79] num den cash) (RQ.of 0 1),.inr ⟨_,_,_,O12 _ v 1000 rfl hv,⟨rfl,trivial⟩,rfl,(nf rfl),fun _=>⟨AC.fits _,rfl,rfl,trivial⟩⟩⟩,(nf rfl)⟩,(nf rfl)⟩,(nf rfl)⟩⟩⟩⟩,(nf rfl)⟩⟩⟩⟩⟩⟩
   ·refine ⟨_,k12,by omega,by omega,⟨AC.nil key known,rfl,n0⟩,fun E v d hE hv=>?_⟩
    refine sx_ownT1 [] tt_ok mixed at22 E hE d (25,2,tb v k,tb v k12) [SV.ptr 1000 0,SV.c (.int .i64 day),SV.c (.int .i64 known)] _ rfl rfl fun w b hT=>?_
    have hv:=hv.of_old hE.symm hT
    exact .inr ⟨_,_,_,O1 _ v 1000 rfl hv,⟨rfl,trivial⟩,rfl,by decide,by decide,strs keysA,by kernel_rfl,rfl,.inr ⟨_,_,_,O2 _ v 1000 11 (by decide) rfl hv,⟨rfl,rfl,trivial⟩,rfl,.inr ⟨_,_,_,O3 _ v 1000 rfl hv,⟨rfl,trivial⟩,rfl,.inr ⟨_,_,_,O4 _ v 1000 rfl hv,⟨rfl,trivial⟩,rfl,_,fun w' _=>run_min_ct _ _ w',.inr ⟨_,_,_,O5 _ v 1000 rfl hv,⟨rfl,trivial⟩,rfl,.inr ⟨_,_,_,O6 _ v 1000 rfl hv,⟨rfl,trivial⟩,rfl,_,fill_made 3 (min 73048 (IntKind.i64.wrap (day+i4))) known key ins cur cash rfl,AC.fits (M 3 [] 0 0 cash),_,AC.g0 (M 3 [] 0 0 cash),fun _=>.inr ⟨_,_,_,O7 _ v 1000 rfl hv,⟨rfl,trivial⟩,rfl,by decide,by decide,ints [1,2,3,10,1000,IntKind.i64.wrap (1+i7)],by kernel_rfl,rfl,.inr ⟨_,_,_,O8 _ v 1000 33 (by decide) rfl hv,⟨rfl,rfl,trivial⟩,rfl,.inr ⟨_,_,_,O9 _ v 1000 rfl hv,⟨rfl,trivial⟩,rfl,by decide,by decide,ints [1,1,2,3,7,1000000,IntKind.i64.wrap (1+i9)],by kernel_rfl,rfl,.inr ⟨_,_,_,O10 _ v 1000 39 (by decide) rfl hv,⟨rfl,rfl,trivial⟩,rfl,by decide,rfl,_,AC.set5 (M 3 [] 0 0 cash) num,by decide,rfl,_,AC.set6 (M 3 [] num 0 cash) den,_,AC.g0 (M 3 [] num den cash),fun _=>⟨by decide,rfl,_,AC.set3 (M 3 [] num den cash) [78,69,87,67,79],_,AC.g0 (M 3 [78,69,87,67,79] num den cash),fun _=>.inr ⟨_,_,_,O11 _ v 1000 rfl hv,⟨rfl,trivial⟩,rfl,fun _=>.inl ⟨_,zeroR_r,by decide,RQ.A_fits _,_,AC.setcash (M 3 [78,69,87,67,79] num den cash) (RQ.of 0 1),.inr ⟨_,_,_,O12 _ v 1000 rfl hv,⟨rfl,trivial⟩,rfl,fun _=>⟨_,AC.g1 (M 3 [78,69,87,67,79] num den (RQ.of 0 1)),_,fill_void key known rfl,AC.fits _,rfl,rfl,trivial⟩,(nf rfl)⟩⟩,(nf rfl)⟩,(nf rfl)⟩,(nf rfl)⟩⟩⟩⟩,(nf rfl)⟩⟩⟩⟩⟩⟩
def ActM (D:Int) (n:Nat) (k:Nat) (v:Value) (x:Value) (U:MemL):Prop:=∃ (xs:List AC) (k':Nat) (b:Int),k≤k'∧k'≤k+1000∧IsL x n∧MkLA D n b xs∧b≤2+5*n∧U=[(1000,Blk.row 25 2 (tb v k')),(3000,Blk.own x 61 76 n (cat AC.A xs))]
theorem actions_m {E:Env} (hE:E.P=Tryz.prog) {v:Value} {zs:List Int} (hv:Tp E v zs) {n k:Nat} (hn:n≤8) (hk:k+1000≤4000000000000000000) {day:Int} (hD:0≤day∧day≤73048):OwnC E 20 [SV.ptr 1000 0,SV.c (.int .i64 (n:Nat)),SV.c (.int .i64 day)] [(1000,Blk.row 25 2 (tb v k))] (ActM day n k v):=by
 refine sx_ownC [] tt_ok mixed at20 E hE [SV.ptr 1000 0,SV.c (.int .i64 (n:Nat)),SV.c (.int .i64 day)] [(1000,Blk.row 25 2 (tb v k))] _ rfl rfl fun w X β hT=>?_
 have hv':Tp (envC Tryz.prog tt Tryz.f20.ntmps w X (tiedK [(1000,Blk.row 25 2 (tb v k))] β)).toEnv v zs:=hv.of_old hE.symm hT
 obtain ⟨r1,k1,a1,b1,⟨i1,rfl,c1⟩,O1⟩:=next_g (n:=3) (by decide) zs k (by omega)
 refine .inr (.inl ⟨_,_,_,O1 _ v 1000 rfl hv',⟨rfl,trivial⟩,rfl,?_⟩)
 refine ⟨fun q f m=>∃ (i k2:Nat) (xs:List AC) (x:Value) (known:Int),q=n - i∧i≤n∧k≤k2∧k2≤k+1+100*i∧IsL x i∧MkLA day i known xs∧0≤known∧known≤2+5*i∧f=[(0,SV.ptr 1000 0),(1,SV.c (.int .i64 (n:Nat))),(2,SV.c (.int .i64 day)),(7,SV.c x),(8,SV.c (.int .i64 known)),(9,SV.c (.int .i64 (i:Nat)))]∧m=[(1000,Blk.row 25 2 (tb v k2)),(3000,Blk.own x 61 76 i (cat AC.A xs))],n,⟨_,_,⟨0,k1,[],.slice none 0 0,i1,by omega,by omega,by omega,by omega,.nil,.nil c1.1,c1.1,by omega,rfl,rfl⟩,⟨rfl,rfl,rfl,rfl,rfl,rfl,trivial⟩,⟨rfl,.inr ⟨rfl,rfl,rfl⟩,trivial⟩,rfl⟩,?_⟩
 rintro q f m ⟨i,k2,xs,x,known,rfl,hi,hk1,hk2,hx,hM,h0,hb,rfl,rfl⟩
 refine ⟨fun h=>?_,fun h=>?_⟩
 ·have h:i < n:=by have:=of_decide_eq_true h;omega
  obtain ⟨r3,k3,a3,b3,⟨i3,rfl,c3⟩,O3⟩:=pick_g (xs:=[0,1,4]) (by decide) (by decide) zs k2 (by omega)
  have q3:0≤i3∧i3≤4:=by simp at c3;omega
  have e3:IntKind.i64.wrap (known+IntKind.i64.wrap (1+i3))=known+1+i3:=by rw [i64_in (x:=1+i3) (by omega),i64_in (by omega)];omega
  obtain ⟨r4,k4,a4,b4,⟨y,rfl,c4,c5⟩,O4⟩:=action_m hD (IntKind.i64.wrap (known+IntKind.i64.wrap (1+i3))) zs k3 (by omega)
  rw [e3] at c5
  refine .inl ⟨by decide,by decide,ints [0,1,4],by kernel_rfl,rfl,.inr (.inl ⟨_,_,_,O3 _ v 1000 19 (by decide) rfl hv',⟨rfl,rfl,trivial⟩,rfl,?_⟩)⟩
  have F1:=fill_act1 y
  have F2:=y.fits.one
  have F3:=y.ext76
  have F4:y.A.size=1*76:=y.size
  have F5:cat AC.A xs++y.A=cat AC.A (xs++[y]):=cat_snoc xs y
  have F6:=y.fits
  generalize hY:y.A=YA at F1 F2 F3 F4 F5 F6 O4
  refine .inr (.inl ⟨_,_,_,O4 _ v 1000 rfl hv',⟨rfl,trivial⟩,rfl,.inl ⟨by decide,by decide,_,F1,F4,by decide,3000,i,_,.inl rfl,by decide,F2,F4,_,F3,?_⟩⟩)
  obtain ⟨q,hq,hb⟩:=info_act
  refine ⟨by omega,by unfold maxLen;omega,⟨q,hq,by rw [hb];omega⟩,trivial,fun g2 cap2=>?_⟩
  refine ⟨n - (i+1),_,_,by omega,⟨i+1,k4,xs++[y],_,_,rfl,by omega,by omega,by omega,.some,?_,?_,?_,rfl,rfl⟩,⟨rfl,rfl,rfl,rfl,rfl,c_int (i64_succ (by omega)),trivial⟩,⟨rfl,.inl (own_eq F5),trivial⟩,rfl⟩
  ·rw [e3,← c5];exact hM.snoc c4.1 c4.2.1 c4.2.2 (by omega) h0 (by omega) (by omega)
  ·rw [e3];omega
  ·rw [e3];omega
 ·have h:i=n:=by have:=of_decide_eq_false h;omega
  subst h
  exact ⟨[(1000,Blk.row 25 2 (tb v k2)),(3000,Blk.own x 61 76 i (cat AC.A xs))],[],⟨xs,k2,known,by omega,by omega,hx,hM,hb,rfl⟩,⟨rfl,.inl rfl,trivial⟩,rfl⟩
theorem mk_ent {D kind i s qty amt known:Int} {key ins cur:Bs} (hD:0≤D∧D≤73048) (hi:0≤i∧i < 8) (hs:0≤s∧s≤3) (ha : -100000≤amt∧amt≤100000) (hc:cur∈codes3) (hk:(kind=1∧ins∈stocks4∧qty≠0∧-2000≤qty∧qty≤2000)∨(kind=2∧ins=[]∧qty=0)):MkB D ⟨kind,key,min 73048 (IntKind.i64.wrap (D+i)),min 73048 (IntKind.i64.wrap (min 73048 (IntKind.i64.wrap (D+i))+s)),ins,qty,amt,cur,known,false⟩:=by
 have e1:IntKind.i64.wrap (D+i)=D+i:=i64_in (by omega)
 rw [e1]
 have e2:IntKind.i64.wrap (min 73048 (D+i)+s)=min 73048 (D+i)+s:=i64_in (by omega)
 rw [e2]
 refine ⟨rfl,⟨?_,?_,?_⟩,⟨?_,?_,?_⟩,ha,hc,hk⟩
 ·show 0≤min 73048 (D+i);omega
 ·show D≤min 73048 (D+i)+1;omega
 ·show min 73048 (D+i)≤D+7;omega
 ·show min 73048 (D+i)≤min 73048 (min 73048 (D+i)+s);omega
 ·show min 73048 (min 73048 (D+i)+s)≤73048;omega
 ·show min 73048 (min 73048 (D+i)+s)≤D+10;omega
def RE (P:EC→Prop) (r:Value):Prop:=∃ x:EC,r=.agg x.A∧P x
theorem MkX.first {D:Int} {x:EC} (h:MkX D x) (hv:x.void=false) (hD:0≤D) (key:Bs):MkX D { x with key:=key,day:=max 0 (D - 1) }∧(x.kind=1→MkX D { x with key:=key,day:=max 0 (D - 1),qty:=2000 }):=by
 have hb:=h.live hv
 have h1:=hb.d
 have h2:=hb.s
 refine ⟨.inr ⟨hv,⟨by show (0:Int)≤max 0 (D - 1);omega,by show D≤max 0 (D - 1)+1;omega,by show max 0 (D - 1)≤D+7;omega⟩,⟨by show max 0 (D - 1)≤x.settle;omega,h2.2⟩,hb.a,hb.c,hb.k⟩,fun hk=>.inr ⟨hv,⟨by show (0:Int)≤max 0 (D - 1);omega,by show D≤max 0 (D - 1)+1;omega,by show max 0 (D - 1)≤D+7;omega⟩,⟨by show max 0 (D - 1)≤x.settle;omega,h2.2⟩,hb.a,hb.c,?_⟩⟩
 rcases hb.k with ⟨k1,k2,-⟩ | ⟨k1,-⟩
 ·exact .inl ⟨k1,k2,by show (2000:Int)≠0;decide,by show (-2000:Int)≤2000;decide,by show (2000:Int)≤2000;decide⟩
 ·omega
theorem fill_entry (day known qty amt:Int) (key ins cur:Bs) {pl:List (Nat×Nat)} (hpl:pl=[(0,1),(1,1),(2,1),(3,1),(4,1),(5,1),(6,1),(7,1),(8,1),(9,1)]):Instr.fill (fun k=>pl[k]?) ti31.zero [(0,.int .i64 1),(1,.string (S key)),(2,.int .i64 day),(4,.string (S ins)),(5,.int .i64 qty),(6,.int .i64 amt),(7,.string (S cur)),(8,.int .i64 known)]=some (EC.A ⟨1,key,day,0,ins,qty,amt,cur,known,false⟩):=by
 subst hpl;kernel_rfl
theorem EC.s0 (a:EC) (n:Int):a.A.setIfInBounds (0+0) (.int .i64 n)=({ a with kind:=n }:EC).A:=rfl
theorem EC.s1 (a:EC) (l:Bs):a.A.setIfInBounds (0+1) (.string (S l))=({ a with key:=l }:EC).A:=rfl
theorem EC.s2 (a:EC) (n:Int):a.A.setIfInBounds (0+2) (.int .i64 n)=({ a with day:=n }:EC).A:=rfl
theorem EC.s3 (a:EC) (n:Int):a.A.setIfInBounds (0+3) (.int .i64 n)=({ a with settle:=n }:EC).A:=rfl
theorem EC.s4 (a:EC) (l:Bs):a.A.setIfInBounds (0+4) (.string (S l))=({ a with ins:=l }:EC).A:=rfl
theorem EC.s5 (a:EC) (n:Int):a.A.setIfInBounds (0+5) (.int .i64 n)=({ a with qty:=n }:EC).A:=rfl
theorem entry_m {day:Int} (hD:0≤day∧day≤73048) (known:Int):Gen 21 [SV.c (.int .i64 day),SV.c (.int .i64 known)] 20 (RE fun x=>(MkX day x∧x.key∈keysE)∧x.known=known):=by
 intro zs k hk
 obtain ⟨r1,k1,a1,b1,⟨key,rfl,c1⟩,O1⟩:=one_g (xs:=[[101,49],[101,50],[101,51],[101,52],[101,53],[101,54]]) (by decide) (by decide) zs k (by omega)
 obtain ⟨r2,k2,a2,b2,⟨i2,rfl,c2⟩,O2⟩:=next_g (n:=8) (by decide) zs k1 (by omega)
 obtain ⟨r3,k3,a3,b3,⟨ins,rfl,c3⟩,O3⟩:=stock_m zs k2 (by omega)
 obtain ⟨r4,k4,a4,b4,⟨i4,rfl,c4⟩,O4⟩:=next_g (n:=1000) (by decide) zs k3 (by omega)
 obtain ⟨r5,k5,a5,b5,⟨amt,rfl,c5⟩,O5⟩:=range_g (lo:=-100000) (hi:=100000) (by decide) (by decide) (by decide) zs k4 (by omega)
 obtain ⟨r6,k6,a6,b6,⟨cur,rfl,c6⟩,O6⟩:=code_m zs k5 (by omega)
 obtain ⟨r7,k7,a7,b7,⟨i7,rfl,c7⟩,O7⟩:=pick_g (xs:=[0,0,1,2,3]) (by decide) (by decide) zs k6 (by omega)
 obtain ⟨r8,k8,a8,b8,⟨flow,rfl⟩,O8⟩:=chance_g (a:=1) (b:=4) (by decide) zs k7 (by omega)
 have ck:key∈keysE:=by
  simp only [List.mem_cons,List.not_mem_nil,or_false] at c1
  rcases c1 with rfl | rfl | rfl | rfl | rfl | rfl<;>decide
 have q7:0≤i7∧i7≤3:=by simp at c7;omega
 have q4:IntKind.i64.wrap (1+i4)=1+i4:=i64_in (by omega)
 have n0:(MkX day (EC.nil key known)∧key∈keysE)∧known=known:=⟨⟨.inl rfl,ck⟩,rfl⟩
 have mk:∀ (kind:Int) (ins:Bs) (qty:Int),((kind=1∧ins∈stocks4∧qty≠0∧-2000≤qty∧qty≤2000)∨(kind=2∧ins=[]∧qty=0))→(MkX day ⟨kind,key,min 73048 (IntKind.i64.wrap (day+i2)),min 73048 (IntKind.i64.wrap (min 73048 (IntKind.i64.wrap (day+i2))+i7)),ins,qty,amt,cur,known,false⟩∧key∈keysE)∧known=known:=fun kind ins qty h=>⟨⟨.inr (mk_ent hD ⟨c2.1,by omega⟩ q7 c5 c6 h),ck⟩,rfl⟩
 cases flow
 ·obtain ⟨r9,k9,a9,b9,⟨sale,rfl⟩,O9⟩:=chance_g (a:=1) (b:=3) (by decide) zs k8 (by omega)
  cases sale
  ·obtain ⟨r10,k10,a10,b10,⟨void,rfl⟩,O10⟩:=chance_g (a:=1) (b:=9) (by decide) zs k9 (by omega)
   cases void
   ·refine ⟨_,k10,by omega,by omega,⟨⟨1,key,min 73048 (IntKind.i64.wrap (day+i2)),min 73048 (IntKind.i64.wrap (min 73048 (IntKind.i64.wrap (day+i2))+i7)),ins,IntKind.i64.wrap (1+i4),amt,cur,known,false⟩,rfl,mk 1 ins _ (.inl ⟨rfl,c3,by rw [q4];omega,by rw [q4];omega,by rw [q4];omega⟩)⟩,fun E v d hE hv=>?_⟩
    refine sx_ownT1 [] tt_ok mixed at21 E hE d (25,2,tb v k,tb v k10) [SV.ptr 1000 0,SV.c (.int .i64 day),SV.c (.int .i64 known)] _ rfl rfl fun w b hT=>?_
    have hv:=hv.of_old hE.symm hT
    exact ⟨by decide,by decide,strs [[101,49],[101,50],[101,51],[101,52],[101,53],[101,54]],by kernel_rfl,rfl,.inr ⟨_,_,_,O1 _ v 1000 9 (by decide) rfl hv,⟨rfl,rfl,trivial⟩,rfl,.inr ⟨_,_,_,O2 _ v 1000 rfl hv,⟨rfl,trivial⟩,rfl,_,fun w' _=>run_min_ct _ _ w',.inr ⟨_,_,_,O3 _ v 1000 rfl hv,⟨rfl,trivial⟩,rfl,.inr ⟨_,_,_,O4 _ v 1000 rfl hv,⟨rfl,trivial⟩,rfl,.inr ⟨_,_,_,O5 _ v 1000 rfl hv,⟨rfl,trivial⟩,rfl,.inr ⟨_,_,_,O6 _ v 1000 rfl hv,⟨rfl,trivial⟩,rfl,_,fill_entry (min 73048 (IntKind.i64.wrap (day+i2))) known (IntKind.i64.wrap (1+i4)) amt key ins cur rfl,EC.fits ⟨1,key,min 73048 (IntKind.i64.wrap (day+i2)),0,ins,IntKind.i64.wrap (1+i4),amt,cur,known,false⟩,_,EC.g2 ⟨1,key,min 73048 (IntKind.i64.wrap (day+i2)),0,ins,IntKind.i64.wrap (1+i4),amt,cur,known,false⟩,by decide,by decide,ints [0,0,1,2,3],by kernel_rfl,rfl,.inr ⟨_,_,_,O7 _ v 1000 30 (by decide) rfl hv,⟨rfl,rfl,trivial⟩,rfl,_,fun w' _=>run_min_ct _ _ w',by decide,rfl,_,EC.s3 ⟨1,key,min 73048 (IntKind.i64.wrap (day+i2)),0,ins,IntKind.i64.wrap (1+i4),amt,cur,known,false⟩ _,by kernel_rfl,.inr ⟨_,_,_,O8 _ v 1000 rfl hv,⟨rfl,trivial⟩,rfl,(nf rfl),fun _=>⟨_,EC.g0 ⟨1,key,min 73048 (IntKind.i64.wrap (day+i2)),min 73048 (IntKind.i64.wrap (min 73048 (IntKind.i64.wrap (day+i2))+i7)),ins,IntKind.i64.wrap (1+i4),amt,cur,known,false⟩,fun _=>.inr ⟨_,_,_,O9 _ v 1000 rfl hv,⟨rfl,trivial⟩,rfl,(nf rfl),fun _=>.inr ⟨_,_,_,O10 _ v 1000 rfl hv,⟨rfl,trivial⟩,rfl,(nf rfl),fun _=>⟨EC.fits _,rfl,rfl,trivial⟩⟩⟩,(nf rfl)⟩⟩⟩⟩⟩⟩⟩⟩⟩⟩
   ·refine ⟨_,k10,by omega,by omega,⟨EC.nil key known,rfl,n0⟩,fun E v d hE hv=>?_⟩
    refine sx_ownT1 [] tt_ok mixed at21 E hE d (25,2,tb v k,tb v k10) [SV.ptr 1000 0,SV.c (.int .i64 day),SV.c (.int .i64 known)] _ rfl rfl fun w b hT=>?_
    have hv:=hv.of_old hE.symm hT
    exact ⟨by decide,by decide,strs [[101,49],[101,50],[101,51],[101,52],[101,53],[101,54]],by kernel_rfl,rfl,.inr ⟨_,_,_,O1 _ v 1000 9 (by decide) rfl hv,⟨rfl,rfl,trivial⟩,rfl,.inr ⟨_,_,_,O2 _ v 1000 rfl hv,⟨rfl,trivial⟩,rfl,_,fun w' _=>run_min_ct _ _ w',.inr ⟨_,_,_,O3 _ v 1000 rfl hv,⟨rfl,trivial⟩,rfl,.inr ⟨_,_,_,O4 _ v 1000 rfl hv,⟨rfl,trivial⟩,rfl,.inr ⟨_,_,_,O5 _ v 1000 rfl hv,⟨rfl,trivial⟩,rfl,.inr ⟨_,_,_,O6 _ v 1000 rfl hv,⟨rfl,trivial⟩,rfl,_,fill_entry (min 73048 (IntKind.i64.wrap (day+i2))) known (IntKind.i64.wrap (1+i4)) amt key ins cur rfl,EC.fits ⟨1,key,min 73048 (IntKind.i64.wrap (day+i2)),0,ins,IntKind.i64.wrap (1+i4),amt,cur,known,false⟩,_,EC.g2 ⟨1,key,min 73048 (IntKind.i64.wrap (day+i2)),0,ins,IntKind.i64.wrap (1+i4),amt,cur,known,false⟩,by decide,by decide,ints [0,0,1,2,3],by kernel_rfl,rfl,.inr ⟨_,_,_,O7 _ v 1000 30 (by decide) rfl hv,⟨rfl,rfl,trivial⟩,rfl,_,fun w' _=>run_min_ct _ _ w',by decide,rfl,_,EC.s3 ⟨1,key,min 73048 (IntKind.i64.wrap (day+i2)),0,ins,IntKind.i64.wrap (1+i4),amt,cur,known,false⟩ _,by kernel_rfl,.inr ⟨_,_,_,O8 _ v 1000 rfl hv,⟨rfl,trivial⟩,rfl,(nf rfl),fun _=>⟨_,EC.g0 ⟨1,key,min 73048 (IntKind.i64.wrap (day+i2)),min 73048 (IntKind.i64.wrap (min 73048 (IntKind.i64.wrap (day+i2))+i7)),ins,IntKind.i64.wrap (1+i4),amt,cur,known,false⟩,fun _=>.inr ⟨_,_,_,O9 _ v 1000 rfl hv,⟨rfl,trivial⟩,rfl,(nf rfl),fun _=>.inr ⟨_,_,_,O10 _ v 1000 rfl hv,⟨rfl,trivial⟩,rfl,fun _=>⟨_,EC.g1 ⟨1,key,min 73048 (IntKind.i64.wrap (day+i2)),min 73048 (IntKind.i64.wrap (min 73048 (IntKind.i64.wrap (day+i2))+i7)),ins,IntKind.i64.wrap (1+i4),amt,cur,known,false⟩,_,fill_voidE key known rfl,EC.fits _,rfl,rfl,trivial⟩,(nf rfl)⟩⟩,(nf rfl)⟩⟩⟩⟩⟩⟩⟩⟩⟩⟩
  ·obtain ⟨r10,k10,a10,b10,⟨i10,rfl,c10⟩,O10⟩:=next_g (n:=60) (by decide) zs k9 (by omega)
   have q10:IntKind.i64.wrap (0 - IntKind.i64.wrap (1+i10))=-(1+i10):=by rw [i64_in (x:=1+i10) (by omega),i64_in (by omega)];omega
   obtain ⟨r11,k11,a11,b11,⟨void,rfl⟩,O11⟩:=chance_g (a:=1) (b:=9) (by decide) zs k10 (by omega)
   cases void
   ·refine ⟨_,k11,by omega,by omega,⟨⟨1,key,min 73048 (IntKind.i64.wrap (day+i2)),min 73048 (IntKind.i64.wrap (min 73048 (IntKind.i64.wrap (day+i2))+i7)),ins,IntKind.i64.wrap (0 - IntKind.i64.wrap (1+i10)),amt,cur,known,false⟩,rfl,mk 1 ins _ (.inl ⟨rfl,c3,by rw [q10];omega,by rw [q10];omega,by rw [q10];omega⟩)⟩,fun E v d hE hv=>?_⟩
    refine sx_ownT1 [] tt_ok mixed at21 E hE d (25,2,tb v k,tb v k11) [SV.ptr 1000 0,SV.c (.int .i64 day),SV.c (.int .i64 known)] _ rfl rfl fun w b hT=>?_
    have hv:=hv.of_old hE.symm hT
    exact ⟨by decide,by decide,strs [[101,49],[101,50],[101,51],[101,52],[101,53],[101,54]],by kernel_rfl,rfl,.inr ⟨_,_,_,O1 _ v 1000 9 (by decide) rfl hv,⟨rfl,rfl,trivial⟩,rfl,.inr ⟨_,_,_,O2 _ v 1000 rfl hv,⟨rfl,trivial⟩,rfl,_,fun w' _=>run_min_ct _ _ w',.inr ⟨_,_,_,O3 _ v 1000 rfl hv,⟨rfl,trivial⟩,rfl,.inr ⟨_,_,_,O4 _ v 1000 rfl hv,⟨rfl,trivial⟩,rfl,.inr ⟨_,_,_,O5 _ v 1000 rfl hv,⟨rfl,trivial⟩,rfl,.inr ⟨_,_,_,O6 _ v 1000 rfl hv,⟨rfl,trivial⟩,rfl,_,fill_entry (min 73048 (IntKind.i64.wrap (day+i2))) known (IntKind.i64.wrap (1+i4)) amt key ins cur rfl,EC.fits ⟨1,key,min 73048 (IntKind.i64.wrap (day+i2)),0,ins,IntKind.i64.wrap (1+i4),amt,cur,known,false⟩,_,EC.g2 ⟨1,key,min 73048 (IntKind.i64.wrap (day+i2)),0,ins,IntKind.i64.wrap (1+i4),amt,cur,known,false⟩,by decide,by decide,ints [0,0,1,2,3],by kernel_rfl,rfl,.inr ⟨_,_,_,O7 _ v 1000 30 (by decide) rfl hv,⟨rfl,rfl,trivial⟩,rfl,_,fun w' _=>run_min_ct _ _ w',by decide,rfl,_,EC.s3 ⟨1,key,min 73048 (IntKind.i64.wrap (day+i2)),0,ins,IntKind.i64.wrap (1+i4),amt,cur,known,false⟩ _,by kernel_rfl,.inr ⟨_,_,_,O8 _ v 1000 rfl hv,⟨rfl,trivial⟩,rfl,(nf rfl),fun _=>⟨_,EC.g0 ⟨1,key,min 73048 (IntKind.i64.wrap (day+i2)),min 73048 (IntKind.i64.wrap (min 73048 (IntKind.i64.wrap (day+i2))+i7)),ins,IntKind.i64.wrap (1+i4),amt,cur,known,false⟩,fun _=>.inr ⟨_,_,_,O9 _ v 1000 rfl hv,⟨rfl,trivial⟩,rfl,fun _=>.inr ⟨_,_,_,O10 _ v 1000 rfl hv,⟨rfl,trivial⟩,rfl,by decide,rfl,_,EC.s5 ⟨1,key,min 73048 (IntKind.i64.wrap (day+i2)),min 73048 (IntKind.i64.wrap (min 73048 (IntKind.i64.wrap (day+i2))+i7)),ins,IntKind.i64.wrap (1+i4),amt,cur,known,false⟩ _,.inr ⟨_,_,_,O11 _ v 1000 rfl hv,⟨rfl,trivial⟩,rfl,(nf rfl),fun _=>⟨EC.fits _,rfl,rfl,trivial⟩⟩⟩,(nf rfl)⟩,(nf rfl)⟩⟩⟩⟩⟩⟩⟩⟩⟩⟩
   ·refine ⟨_,k11,by omega,by omega,⟨EC.nil key known,rfl,n0⟩,fun E v d hE hv=>?_⟩
    refine sx_ownT1 [] tt_ok mixed at21 E hE d (25,2,tb v k,tb v k11) [SV.ptr 1000 0,SV.c (.int .i64 day),SV.c (.int .i64 known)] _ rfl rfl fun w b hT=>?_
    have hv:=hv.of_old hE.symm hT
    exact ⟨by decide,by decide,strs [[101,49],[101,50],[101,51],[101,52],[101,53],[101,54]],by kernel_rfl,rfl,.inr ⟨_,_,_,O1 _ v 1000 9 (by decide) rfl hv,⟨rfl,rfl,trivial⟩,rfl,.inr ⟨_,_,_,O2 _ v 1000 rfl hv,⟨rfl,trivial⟩,rfl,_,fun w' _=>run_min_ct _ _ w',.inr ⟨_,_,_,O3 _ v 1000 rfl hv,⟨rfl,trivial⟩,rfl,.inr ⟨_,_,_,O4 _ v 1000 rfl hv,⟨rfl,trivial⟩,rfl,.inr ⟨_,_,_,O5 _ v 1000 rfl hv,⟨rfl,trivial⟩,rfl,.inr ⟨_,_,_,O6 _ v 1000 rfl hv,⟨rfl,trivial⟩,rfl,_,fill_entry (min 73048 (IntKind.i64.wrap (day+i2))) known (IntKind.i64.wrap (1+i4)) amt key ins cur rfl,EC.fits ⟨1,key,min 73048 (IntKind.i64.wrap (day+i2)),0,ins,IntKind.i64.wrap (1+i4),amt,cur,known,false⟩,_,EC.g2 ⟨1,key,min 73048 (IntKind.i64.wrap (day+i2)),0,ins,IntKind.i64.wrap (1+i4),amt,cur,known,false⟩,by decide,by decide,ints [0,0,1,2,3],by kernel_rfl,rfl,.inr ⟨_,_,_,O7 _ v 1000 30 (by decide) rfl hv,⟨rfl,rfl,trivial⟩,rfl,_,fun w' _=>run_min_ct _ _ w',by decide,rfl,_,EC.s3 ⟨1,key,min 73048 (IntKind.i64.wrap (day+i2)),0,ins,IntKind.i64.wrap (1+i4),amt,cur,known,false⟩ _,by kernel_rfl,.inr ⟨_,_,_,O8 _ v 1000 rfl hv,⟨rfl,trivial⟩,rfl,(nf rfl),fun _=>⟨_,EC.g0 ⟨1,key,min 73048 (IntKind.i64.wrap (day+i2)),min 73048 (IntKind.i64.wrap (min 73048 (IntKind.i64.wrap (day+i2))+i7)),ins,IntKind.i64.wrap (1+i4),amt,cur,known,false⟩,fun _=>.inr ⟨_,_,_,O9 _ v 1000 rfl hv,⟨rfl,trivial⟩,rfl,fun _=>.inr ⟨_,_,_,O10 _ v 1000 rfl hv,⟨rfl,trivial⟩,rfl,by decide,rfl,_,EC.s5 ⟨1,key,min 73048 (IntKind.i64.wrap (day+i2)),min 73048 (IntKind.i64.wrap (min 73048 (IntKind.i64.wrap (day+i2))+i7)),ins,IntKind.i64.wrap (1+i4),amt,cur,known,false⟩ _,.inr ⟨_,_,_,O11 _ v 1000 rfl hv,⟨rfl,trivial⟩,rfl,fun _=>⟨_,EC.g1 ⟨1,key,min 73048 (IntKind.i64.wrap (day+i2)),min 73048 (IntKind.i64.wrap (min 73048 (IntKind.i64.wrap (day+i2))+i7)),ins,IntKind.i64.wrap (0 - IntKind.i64.wrap (1+i10)),amt,cur,known,false⟩,_,fill_voidE key known rfl,EC.fits _,rfl,rfl,trivial⟩,(nf rfl)⟩⟩,(nf rfl)⟩,(nf rfl)⟩⟩⟩⟩⟩⟩⟩⟩⟩⟩
 ·obtain ⟨r9,k9,a9,b9,⟨void,rfl⟩,O9⟩:=chance_g (a:=1) (b:=9) (by decide) zs k8 (by omega)
  cases void
  ·refine ⟨_,k9,by omega,by omega,⟨⟨2,key,min 73048 (IntKind.i64.wrap (day+i2)),min 73048 (IntKind.i64.wrap (min 73048 (IntKind.i64.wrap (day+i2))+i7)),[],0,amt,cur,known,false⟩,rfl,mk 2 [] 0 (.inr ⟨rfl,rfl,rfl⟩)⟩,fun E v d hE hv=>?_⟩
   refine sx_ownT1 [] tt_ok mixed at21 E hE d (25,2,tb v k,tb v k9) [SV.ptr 1000 0,SV.c (.int .i64 day),SV.c (.int .i64 known)] _ rfl rfl fun w b hT=>?_
   have hv:=hv.of_old hE.symm hT
   exact ⟨by decide,by decide,strs [[101,49],[101,50],[101,51],[101,52],[101,53],[101,54]],by kernel_rfl,rfl,.inr ⟨_,_,_,O1 _ v 1000 9 (by decide) rfl hv,⟨rfl,rfl,trivial⟩,rfl,.inr ⟨_,_,_,O2 _ v 1000 rfl hv,⟨rfl,trivial⟩,rfl,_,fun w' _=>run_min_ct _ _ w',.inr ⟨_,_,_,O3 _ v 1000 rfl hv,⟨rfl,trivial⟩,rfl,.inr ⟨_,_,_,O4 _ v 1000 rfl hv,⟨rfl,trivial⟩,rfl,.inr ⟨_,_,_,O5 _ v 1000 rfl hv,⟨rfl,trivial⟩,rfl,.inr ⟨_,_,_,O6 _ v 1000 rfl hv,⟨rfl,trivial⟩,rfl,_,fill_entry (min 73048 (IntKind.i64.wrap (day+i2))) known (IntKind.i64.wrap (1+i4)) amt key ins cur rfl,EC.fits ⟨1,key,min 73048 (IntKind.i64.wrap (day+i2)),0,ins,IntKind.i64.wrap (1+i4),amt,cur,known,false⟩,_,EC.g2 ⟨1,key,min 73048 (IntKind.i64.wrap (day+i2)),0,ins,IntKind.i64.wrap (1+i4),amt,cur,known,false⟩,by decide,by decide,ints [0,0,1,2,3],by kernel_rfl,rfl,.inr ⟨_,_,_,O7 _ v 1000 30 (by decide) rfl hv,⟨rfl,rfl,trivial⟩,rfl,_,fun w' _=>run_min_ct _ _ w',by decide,rfl,_,EC.s3 ⟨1,key,min 73048 (IntKind.i64.wrap (day+i2)),0,ins,IntKind.i64.wrap (1+i4),amt,cur,known,false⟩ _,by kernel_rfl,.inr ⟨_,_,_,O8 _ v 1000 rfl hv,⟨rfl,trivial⟩,rfl,fun _=>⟨by decide,rfl,_,EC.s0 ⟨1,key,min 73048 (IntKind.i64.wrap (day+i2)),min 73048 (IntKind.i64.wrap (min 73048 (IntKind.i64.wrap (day+i2))+i7)),ins,IntKind.i64.wrap (1+i4),amt,cur,known,false⟩ 2,by decide,rfl,_,EC.s4 ⟨2,key,min 73048 (IntKind.i64.wrap (day+i2)),min 73048 (IntKind.i64.wrap (min 73048 (IntKind.i64.wrap (day+i2))+i7)),ins,IntKind.i64.wrap (1+i4),amt,cur,known,false⟩ [],by decide,rfl,_,EC.s5 ⟨2,key,min 73048 (IntKind.i64.wrap (day+i2)),min 73048 (IntKind.i64.wrap (min 73048 (IntKind.i64.wrap (day+i2))+i7)),[],IntKind.i64.wrap (1+i4),amt,cur,known,false⟩ 0,_,EC.g0 ⟨2,key,min 73048 (IntKind.i64.wrap (day+i2)),min 73048 (IntKind.i64.wrap (min 73048 (IntKind.i64.wrap (day+i2))+i7)),[],0,amt,cur,known,false⟩,(nf rfl),fun _=>⟨(nf rfl),fun _=>.inr ⟨_,_,_,O9 _ v 1000 rfl hv,⟨rfl,trivial⟩,rfl,(nf rfl),fun _=>⟨EC.fits _,rfl,rfl,trivial⟩⟩⟩⟩,(nf rfl)⟩⟩⟩⟩⟩⟩⟩⟩⟩
  ·refine ⟨_,k9,by omega,by omega,⟨EC.nil key known,rfl,n0⟩,fun E v d hE hv=>?_⟩
   refine sx_ownT1 [] tt_ok mixed at21 E hE d (25,2,tb v k,tb v k9) [SV.ptr 1000 0,SV.c (.int .i64 day),SV.c (.int .i64 known)] _ rfl rfl fun w b hT=>?_
   have hv:=hv.of_old hE.symm hT
   exact ⟨by decide,by decide,strs [[101,49],[101,50],[101,51],[101,52],[101,53],[101,54]],by kernel_rfl,rfl,.inr ⟨_,_,_,O1 _ v 1000 9 (by decide) rfl hv,⟨rfl,rfl,trivial⟩,rfl,.inr ⟨_,_,_,O2 _ v 1000 rfl hv,⟨rfl,trivial⟩,rfl,_,fun w' _=>run_min_ct _ _ w',.inr ⟨_,_,_,O3 _ v 1000 rfl hv,⟨rfl,trivial⟩,rfl,.inr ⟨_,_,_,O4 _ v 1000 rfl hv,⟨rfl,trivial⟩,rfl,.inr ⟨_,_,_,O5 _ v 1000 rfl hv,⟨rfl,trivial⟩,rfl,.inr ⟨_,_,_,O6 _ v 1000 rfl hv,⟨rfl,trivial⟩,rfl,_,fill_entry (min 73048 (IntKind.i64.wrap (day+i2))) known (IntKind.i64.wrap (1+i4)) amt key ins cur rfl,EC.fits ⟨1,key,min 73048 (IntKind.i64.wrap (day+i2)),0,ins,IntKind.i64.wrap (1+i4),amt,cur,known,false⟩,_,EC.g2 ⟨1,key,min 73048 (IntKind.i64.wrap (day+i2)),0,ins,IntKind.i64.wrap (1+i4),amt,cur,known,false⟩,by decide,by decide,ints [0,0,1,2,3],by kernel_rfl,rfl,.inr ⟨_,_,_,O7 _ v 1000 30 (by decide) rfl hv,⟨rfl,rfl,trivial⟩,rfl,_,fun w' _=>run_min_ct _ _ w',by decide,rfl,_,EC.s3 ⟨1,key,min 73048 (IntKind.i64.wrap (day+i2)),0,ins,IntKind.i64.wrap (1+i4),amt,cur,known,false⟩ _,by kernel_rfl,.inr ⟨_,_,_,O8 _ v 1000 rfl hv,⟨rfl,trivial⟩,rfl,fun _=>⟨by decide,rfl,_,EC.s0 ⟨1,key,min 73048 (IntKind.i64.wrap (day+i2)),min 73048 (IntKind.i64.wrap (min 73048 (IntKind.i64.wrap (day+i2))+i7)),ins,IntKind.i64.wrap (1+i4),amt,cur,known,false⟩ 2,by decide,rfl,_,EC.s4 ⟨2,key,min 73048 (IntKind.i64.wrap (day+i2)),min 73048 (IntKind.i64.wrap (min 73048 (IntKind.i64.wrap (day+i2))+i7)),ins,IntKind.i64.wrap (1+i4),amt,cur,known,false⟩ [],by decide,rfl,_,EC.s5 ⟨2,key,min 73048 (IntKind.i64.wrap (day+i2)),min 73048 (IntKind.i64.wrap (min 73048 (IntKind.i64.wrap (day+i2))+i7)),[],IntKind.i64.wrap (1+i4),amt,cur,known,false⟩ 0,_,EC.g0 ⟨2,key,min 73048 (IntKind.i64.wrap (day+i2)),min 73048 (IntKind.i64.wrap (min 73048 (IntKind.i64.wrap (day+i2))+i7)),[],0,amt,cur,known,false⟩,(nf rfl),fun _=>⟨(nf rfl),fun _=>.inr ⟨_,_,_,O9 _ v 1000 rfl hv,⟨rfl,trivial⟩,rfl,fun _=>⟨_,EC.g1 ⟨2,key,min 73048 (IntKind.i64.wrap (day+i2)),min 73048 (IntKind.i64.wrap (min 73048 (IntKind.i64.wrap (day+i2))+i7)),[],0,amt,cur,known,false⟩,_,fill_voidE key known rfl,EC.fits _,rfl,rfl,trivial⟩,(nf rfl)⟩⟩⟩,(nf rfl)⟩⟩⟩⟩⟩⟩⟩⟩⟩
def EntM (D:Int) (n:Nat) (k:Nat) (v:Value) (x:Value) (U:MemL):Prop:=∃ (xs:List EC) (k':Nat) (b:Int),k≤k'∧k'≤k+4000∧IsL x n∧MkL D n b xs∧b≤2+5*n∧U=[(1000,Blk.row 25 2 (tb v k')),(3001,Blk.own x 31 10 n (cat EC.A xs))]
theorem run_maxe {P:Program} {ats:Array TypeId} {ty:TypeId} {cs:Array Bool} (x y:Int) (w:World):(builtin .max ats ty cs #[.int .i64 x,.int .i64 y]).run P w=.ok (.value (.int .i64 (max x y))) w:=by
 simp [builtin,Go.Lib.run_max_ints]
theorem entries_m {E:Env} (hE:E.P=Tryz.prog) {v:Value} {zs:List Int} (hv:Tp E v zs) {n k:Nat} (hn:n≤30) (hk:k+4000≤4000000000000000000) {day:Int} (hD:0≤day∧day≤73048):OwnC E 11 [SV.ptr 1000 0,SV.c (.int .i64 (n:Nat)),SV.c (.int .i64 day)] [(1000,Blk.row 25 2 (tb v k))] (EntM day n k v):=by
 refine sx_ownC [13] tt_ok mixed at11 E hE [SV.ptr 1000 0,SV.c (.int .i64 (n:Nat)),SV.c (.int .i64 day)] [(1000,Blk.row 25 2 (tb v k))] _ rfl rfl fun w X β hT=>?_
 have hv':Tp (envC Tryz.prog tt Tryz.f11.ntmps w X (tiedK [(1000,Blk.row 25 2 (tb v k))] β)).toEnv v zs:=hv.of_old hE.symm hT
 obtain ⟨r1,k1,a1,b1,⟨i1,rfl,c1⟩,O1⟩:=next_g (n:=3) (by decide) zs k (by omega)
 refine .inr (.inl ⟨_,_,_,O1 _ v 1000 rfl hv',⟨rfl,trivial⟩,rfl,?_⟩)
 refine ⟨fun q f m=>∃ (i k2:Nat) (xs:List EC) (x:Value) (known:Int),q=n - i∧i≤n∧k≤k2∧k2≤k+1+100*i∧IsL x i∧MkL day i known xs∧0≤known∧known≤2+5*i∧f=[(0,SV.ptr 1000 0),(1,SV.c (.int .i64 (n:Nat))),(2,SV.c (.int .i64 day)),(7,SV.c x),(8,SV.c (.int .i64 known)),(9,SV.c (.int .i64 (i:Nat)))]∧m=[(1000,Blk.row 25 2 (tb v k2)),(3001,Blk.own x 31 10 i (cat EC.A xs))],n,⟨_,_,⟨0,k1,[],.slice none 0 0,i1,by omega,by omega,by omega,by omega,.nil,.nil c1.1,c1.1,by omega,rfl,rfl⟩,⟨rfl,rfl,rfl,rfl,rfl,rfl,trivial⟩,⟨rfl,.inr ⟨rfl,rfl,rfl⟩,trivial⟩,rfl⟩,?_⟩
 rintro q f m ⟨i,k2,xs,x,known,rfl,hi,hk1,hk2,hx,hM,h0,hb,rfl,rfl⟩
 refine ⟨fun h=>?_,fun h=>?_⟩
 ·have h:i < n:=by have:=of_decide_eq_true h;omega
  obtain ⟨r3,k3,a3,b3,⟨i3,rfl,c3⟩,O3⟩:=pick_g (xs:=[0,1,4]) (by decide) (by decide) zs k2 (by omega)
  have q3:0≤i3∧i3≤4:=by simp at c3;omega
  have e3:IntKind.i64.wrap (known+IntKind.i64.wrap (1+i3))=known+1+i3:=by rw [i64_in (x:=1+i3) (by omega),i64_in (by omega)];omega
  obtain ⟨r4,k4,a4,b4,⟨y,rfl,c4,c5⟩,O4⟩:=entry_m hD (IntKind.i64.wrap (known+IntKind.i64.wrap (1+i3))) zs k3 (by omega)
  have ed:IntKind.i64.wrap (day - 1)=day - 1:=i64_in (by omega)
  refine .inl ⟨by decide,by decide,ints [0,1,4],by kernel_rfl,rfl,.inr (.inl ⟨_,_,_,O3 _ v 1000 20 (by decide) rfl hv',⟨rfl,rfl,trivial⟩,rfl,?_⟩)⟩
  refine .inr (.inl ⟨_,_,_,O4 _ v 1000 rfl hv',⟨rfl,trivial⟩,rfl,y.fits,?_⟩)
  refine ⟨fun f m=>∃ (z:EC) (k5:Nat),k4≤k5∧k5≤k4+1∧(MkX day z∧z.key∈keysE)∧z.known=IntKind.i64.wrap (known+IntKind.i64.wrap (1+i3))∧f=[(0,SV.ptr 1000 0),(1,SV.c (.int .i64 (n:Nat))),(2,SV.c (.int .i64 day)),(7,SV.c x),(8,SV.c (.int .i64 (IntKind.i64.wrap (known+IntKind.i64.wrap (1+i3))))),(9,SV.c (.int .i64 (i:Nat))),(10,SV.ptr 10 0)]∧m=[(1000,Blk.row 25 2 (tb v k5)),(3001,Blk.own x 31 10 i (cat EC.A xs)),(10,Blk.row 31 10 z.A)],?_,?_⟩
  ·refine ⟨fun h3=>⟨_,EC.g9 y,fun hy=>?_,fun hy=>?_⟩,fun h3=>⟨nf rfl,fun _=>?_⟩⟩
   ·have hy:y.void=false:=by simpa using hy
    have hf:=c4.1.first hy hD.1
    obtain ⟨r5,k5,a5,b5,⟨key,rfl,c6⟩,O5⟩:=one_g (xs:=[[112,49],[112,50],[112,51]]) (by decide) (by decide) zs k4 (by omega)
    have hk5:key∈keysE:=by
     simp only [List.mem_cons,List.not_mem_nil,or_false] at c6
     rcases c6 with rfl | rfl | rfl<;>decide
    refine .inl ⟨by decide,by decide,strs [[112,49],[112,50],[112,51]],by kernel_rfl,rfl,.inr (.inl ⟨_,_,_,O5 _ v 1000 36 (by decide) rfl hv',⟨rfl,rfl,trivial⟩,rfl,by decide,rfl,_,EC.s1 y key,?_⟩)⟩
    refine ⟨_,fun w' _=>run_maxe _ _ w',by decide,rfl,_,EC.s2 ({ y with key:=key }:EC) _,?_⟩
    rw [ed]
    have fin:∀ z:EC,(MkX day z∧z.key∈keysE)→z.known=IntKind.i64.wrap (known+IntKind.i64.wrap (1+i3))→k4≤k5∧k5≤k4+1∧(MkX day z∧z.key∈keysE)∧z.known=IntKind.i64.wrap (known+IntKind.i64.wrap (1+i3)):=fun z h1 h2=>⟨by omega,by omega,h1,h2⟩
    refine ⟨_,EC.g0 ({ y with key:=key,day:=max 0 (day - 1) }:EC),fun hk=>⟨_,EC.g5 ({ y with key:=key,day:=max 0 (day - 1) }:EC),fun _=>⟨by decide,rfl,_,EC.s5 ({ y with key:=key,day:=max 0 (day - 1) }:EC) 2000,?_⟩,fun _=>?_⟩,fun _=>⟨nf rfl,fun _=>?_⟩⟩
    ·obtain ⟨d1,d2,d3,d4⟩:=fin { y with key:=key,day:=max 0 (day - 1),qty:=2000 } ⟨(hf key).2 (eq_of_beq hk),hk5⟩ c5
     exact ⟨_,_,⟨_,k5,d1,d2,d3,d4,rfl,rfl⟩,⟨rfl,rfl,rfl,rfl,rfl,rfl,rfl,trivial⟩,⟨rfl,.inl rfl,rfl,trivial⟩,rfl⟩
    all_goals
     obtain ⟨d1,d2,d3,d4⟩:=fin { y with key:=key,day:=max 0 (day - 1) } ⟨(hf key).1,hk5⟩ c5
     exact ⟨_,_,⟨_,k5,d1,d2,d3,d4,rfl,rfl⟩,⟨rfl,rfl,rfl,rfl,rfl,rfl,rfl,trivial⟩,⟨rfl,.inl rfl,rfl,trivial⟩,rfl⟩
   ·exact ⟨_,_,⟨y,k4,by omega,by omega,c4,c5,rfl,rfl⟩,⟨rfl,rfl,rfl,rfl,rfl,rfl,rfl,trivial⟩,⟨rfl,.inl rfl,rfl,trivial⟩,rfl⟩
   ·exact ⟨_,_,⟨y,k4,by omega,by omega,c4,c5,rfl,rfl⟩,⟨rfl,rfl,rfl,rfl,rfl,rfl,rfl,trivial⟩,⟨rfl,.inl rfl,rfl,trivial⟩,rfl⟩
  rintro f1 m1 ⟨z,k5,a6,b6,c6,c7,rfl,rfl⟩
  have F1:=fill_ent1 z
  have F5:cat EC.A xs++z.A=cat EC.A (xs++[z]):=cat_snoc xs z
  obtain ⟨q,hq,hb'⟩:=info_ent
  refine .inl ⟨by decide,by decide,_,F1,z.size,by decide,3001,i,_,.inl rfl,by decide,z.one,z.size,_,z.ext10,?_⟩
  refine ⟨by omega,by unfold maxLen;omega,⟨q,hq,by rw [hb'];omega⟩,trivial,fun g2 cap2=>?_⟩
  refine ⟨n - (i+1),_,_,by omega,⟨i+1,k5,xs++[z],_,_,rfl,by omega,by omega,by omega,.some,?_,?_,?_,rfl,rfl⟩,⟨rfl,rfl,rfl,rfl,rfl,c_int (i64_succ (by omega)),trivial⟩,⟨rfl,.inl (own_eq F5),trivial⟩,rfl⟩
  ·rw [e3] at c7;rw [e3,← c7];exact hM.snoc c6.1 c6.2 (by omega) h0 (by omega) (by omega)
  ·rw [e3];omega
  ·rw [e3];omega
 ·have h:i=n:=by have:=of_decide_eq_false h;omega
  subst h
  exact ⟨[(1000,Blk.row 25 2 (tb v k2)),(3001,Blk.own x 31 10 i (cat EC.A xs))],[],⟨xs,k2,known,by omega,by omega,hx,hM,hb,rfl⟩,⟨rfl,.inl rfl,trivial⟩,rfl⟩
end Go.Proofs.YtekfkdddadcalaaGreatDoor
