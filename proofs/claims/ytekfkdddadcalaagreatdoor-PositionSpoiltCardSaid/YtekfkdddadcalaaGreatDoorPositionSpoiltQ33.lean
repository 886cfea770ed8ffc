/- what a made action pays: plain law. what a fund has after ma; no condition. -/
import Derived.Test.YtekfkdddadcalaaGreatDoorPositionSpoiltQ32
import Derived.Test.YtekfkdddadcalaaGreatDoorPositionSpoiltQ25
set_option maxRecDepth 100000
set_option maxHeartbeats 4000000
namespace Go.Proofs.YtekfkdddadcalaaGreatDoor
open Go Go.RowKit Go.SX
structure MdA (a:AC):Prop where
 nd:a.kind≠2->1<=a.num/\a.num<=1000/\1<=a.den/\a.den<=1000000
 p:∃ u v:Int,a.cash=(mkQ u v).1/\0<=u/\u<=200000/\1<=v/\v<=1000000
 c:a.cur∈gR
def IX (i:Nat):Int:=if i=0 then 0 else if i=1 then 19000000 else 1000000000000000
def IY (i:Nat):Int:=if i=0 then 0 else if i=1 then 400000000000 else 410000000000000
structure BdS (i j:Nat) (g:Led):Prop where
 ok:LedOk g
 hq:∀ s,ay g.h s<=2000*(j:Int)+IX i
 cb:∀ k,-(100000*(j:Int))<=ay g.c k/\ay g.c k<=100000*(j:Int)+IY i
 pb:∀ k,-(100000*(j:Int))<=ay g.p k/\ay g.p k<=100000*(j:Int)
 ck:∀ y∈g.c,y.1∈gR.map fun c=>(c,(0:Int))
theorem BdS.zero:BdS 0 0 .zero:=⟨.zero,(fun s=>by show (0:Int)<=_;unfold IX;simp),(fun k=>by show _<=(0:Int)/\(0:Int)<=_;unfold IY;simp),(fun k=>by show _<=(0:Int)/\(0:Int)<=_;simp),(fun y h=>by cases h)⟩
def iZ:List Bs:=[[101,49],[101,50],[101,51],[101,52],[101,53],[101,54],[112,49],[112,50],[112,51]]
structure MkB (D:Int) (x:EC):Prop where
 v:x.void=false
 d:0<=x.day/\D<=x.day+1/\x.day<=D+7
 s:x.day<=x.settle/\x.settle<=73048/\x.settle<=D+10
 a : -100000<=x.amt/\x.amt<=100000
 c:x.cur∈gR
 k:(x.kind=1/\x.ins∈iw/\x.qty≠0/\-2000<=x.qty/\x.qty<=2000)\/(x.kind=2/\x.ins=[]/\x.qty=0)
def MkX (D:Int) (x:EC):Prop:=x=.nil x.key x.known\/MkB D x
theorem Fl {c:Bs} (h:c∈gR):dL c=true:=by
 simp only [gR,List.mem_cons,List.not_mem_nil,or_false] at h
 rcases h with rfl | rfl | rfl<;>decide
theorem yE {c:Bs} (h:c∈iw):cC c=true:=by
 simp only [iw,List.mem_cons,List.not_mem_nil,or_false] at h
 rcases h with rfl | rfl | rfl | rfl<;>decide
theorem pI {n lo hi:Int} (h1:lo<=n) (h2:n<=hi):inB n lo hi=true:=by
 unfold inB;rw [decide_eq_true h1,decide_eq_true h2];rfl
theorem EC.beq_self0 (key:Bs) (known:Int):(EC.nil key known).beq (.nil key known)=true:=by
 simp [EC.beq,EC.nil]
theorem MkX.md {D:Int} {x:EC} (h:MkX D x) (h1:iL x=true):MdE x:=by
 rcases h with h | h
 ·have hv:x.void=true:=by rw [h];rfl
  have a0:x.amt=0:=by rw [h];rfl
  have q0:x.qty=0:=by rw [h];rfl
  refine ⟨?_,by omega,by omega,fun n=>absurd a0 n,fun n=>absurd q0 n⟩
  unfold aV
  rw [h1,hv,Bool.true_and,if_pos rfl]
  generalize x.key=a at h
  generalize x.known=b at h
  rw [h]
  exact EC.beq_self0 a b
 ·have hk:dD x=true:=by
    unfold dD
    rcases h.k with ⟨e,hi,h0,h2,h3⟩ | ⟨e,hi,h0⟩
    ·rw [if_pos e,yE hi,pI (by omega) (by omega),beq_eq_false_iff_ne.2 h0];rfl
    ·rw [if_neg (by omega),if_pos e,hi,h0];rfl
  have hb:dh x=true:=by
   unfold dh
   rw [pI h.d.1 h.s.1,decide_eq_true h.s.2.1,pI (n:=x.amt) (by have:=h.a;omega) (by have:=h.a;omega),Fl h.c];rfl
  refine ⟨?_,h.a,?_,fun _=>h.c,fun hq=>?_⟩
  ·unfold aV
   rw [h1,h.v,if_neg Bool.false_ne_true,hb,hk];rfl
  ·rcases h.k with ⟨-,-,-,h2,h3⟩ | ⟨-,-,h0⟩<;>omega
  ·rcases h.k with ⟨-,hi,-⟩ | ⟨-,-,h0⟩
   ·exact hi
   ·exact absurd h0 hq
theorem xo {l:Bs} (h:cC l=true):l.length<=12:=by
 unfold cC at h
 simp only [Bool.and_eq_true,decide_eq_true_eq] at h
 exact h.2.2
theorem yI {x:EC} (h1:1<=x.key.length) (h2:x.key.length<=64) (h3:1<=x.known) (h4:x.known<=2147483647):iL x=true:=by
 unfold iL
 rw [pI (by omega) (by omega),pI h3 h4];rfl
theorem MkX.in_ {D:Int} {x:EC} (h:MkX D x) (hk:x.key.length<=64):x.In:=by
 rcases h with h | h
 ·have i0:x.ins=[]:=by rw [h];rfl
  have c0:x.cur=[]:=by rw [h];rfl
  exact ⟨by omega,by rw [i0];decide,by rw [c0];decide⟩
 ·refine ⟨by omega,?_,?_⟩
  ·rcases h.k with ⟨-,hi,-⟩ | ⟨-,hi,-⟩
   ·have:=xo (yE hi);omega
   ·rw [hi];decide
  ·have h3:=h.c
   simp only [gR,List.mem_cons,List.not_mem_nil,or_false] at h3
   rcases h3 with e | e | e<;>rw [e]<;>decide
theorem nm {k:Bs} (h:k∈iZ):k.length=2:=by
 simp only [iZ,List.mem_cons,List.not_mem_nil,or_false] at h
 rcases h with rfl | rfl | rfl | rfl | rfl | rfl | rfl | rfl | rfl<;>rfl
/-! ### a book that grows -/
theorem pz (l:List MK) (m:MK) (k:Int):nR (l++[m]) k=m.known:=by
 unfold nR;rw [List.getLast?_append];rfl
theorem Ha {x:EC} {k:Int} (h:iL x=true) (hk:k < x.known):bS k (mkE x)=true:=by
 unfold iL inB at h
 simp only [Bool.and_eq_true,decide_eq_true_eq] at h
 unfold bS mkE
 simp only [Bool.and_eq_true,decide_eq_true_eq]
 omega
theorem vZ {x:EC} (h:aV x=true):iL x=true:=by
 unfold aV at h
 rw [Bool.and_eq_true] at h
 exact h.1
theorem xm {xs:List EC} (h:cP xs=0):xs.all aV=true/\xs.length<=4096/\cY 0 (xs.map mkE)=true:=by
 unfold cP at h
 split at h
 ·rename_i h1
  unfold dq at h
  rw [List.length_map] at h
  split at h
  ·cases h
  ·rename_i h2
   split at h
   ·rename_i h3;exact ⟨h1,by omega,h3⟩
   ·cases h
 ·cases h
theorem Fp {xs:List EC} (h1:xs.all aV=true) (h2:xs.length<=4096) (h3:cY 0 (xs.map mkE)=true):cP xs=0:=by
 unfold cP dq
 rw [if_pos h1,List.length_map,if_neg (by omega),if_pos h3]
theorem AD {xs:List EC} {x:EC} (h:cP xs=0) (hl:xs.length < 4096) (hv:aV x=true) (hk:nR (xs.map mkE) 0 < x.known):cP (xs++[x])=0:=by
 obtain ⟨h1,-,h3⟩:=xm h
 refine Fp (by rw [List.all_append,h1];simp [hv]) (by rw [List.length_append];simp;omega) ?_
 rw [List.map_append,List.map_cons,List.map_nil,nB,h3,Ha (vZ hv) hk];rfl
structure MkL (D:Int) (n:Nat) (b:Int) (xs:List EC):Prop where
 l:xs.length=n
 x:∀ x∈xs,MkX D x/\MdE x/\x.key∈iZ/\x.known<=b
 c:cP xs=0
 k:nR (xs.map mkE) 0<=b
theorem MkL.nil {D b:Int} (h:0<=b):MkL D 0 b []:=⟨rfl,(fun x hx=>by cases hx),rfl,h⟩
theorem MkL.snoc {D b:Int} {n:Nat} {xs:List EC} (h:MkL D n b xs) {x:EC} (hx:MkX D x) (hk:x.key∈iZ) (hb:b < x.known) (h0:0<=b) (hm:x.known<=2147483647) (hn:n < 4096):MkL D (n+1) x.known (xs++[x]):=by
 have l2:=nm hk
 have md:=hx.md (yI (by omega) (by omega) (by omega) hm)
 refine ⟨by rw [List.length_append,h.l];rfl,fun y hy=>?_,AD h.c (by rw [h.l];exact hn) md.v (by have:=h.k;omega),by rw [List.map_append,List.map_cons,List.map_nil,pz];exact Int.le_refl _⟩
 rcases List.mem_append.1 hy with hy | hy
 ·obtain ⟨q1,q2,q3,q4⟩:=h.x y hy
  exact ⟨q1,q2,q3,by omega⟩
 ·have:y=x:=by simpa using hy
  rw [this];exact ⟨hx,md,hk,Int.le_refl _⟩
theorem MkL.in_ {D b:Int} {n:Nat} {xs:List EC} (h:MkL D n b xs):∀ x∈xs,x.In:=fun x hx=>by
 obtain ⟨q1,-,q3,-⟩:=h.x x hx
 exact q1.in_ (by have:=nm q3;omega)
theorem MkL.key {D b:Int} {n:Nat} {xs:List EC} (h:MkL D n b xs):∀ x∈xs,x.key.length=2:=fun x hx=>nm (h.x x hx).2.2.1
/-! ### the same of actions -/
def yz:List Bs:=[[115,49],[115,50],[100,49],[109,49]]
def MkA (D:Int) (a:AC):Prop:=a=.nil a.key a.known\/(a.void=false/\MdA a/\cz a=true/\bC a=true/\a.day<=D+7)
theorem zW {k:Bs} (h:k∈yz):k.length=2:=by
 simp only [yz,List.mem_cons,List.not_mem_nil,or_false] at h
 rcases h with rfl | rfl | rfl | rfl<;>rfl
theorem EV {a:AC} (h1:1<=a.key.length) (h2:a.key.length<=64) (h3:1<=a.known) (h4:a.known<=2147483647):dJ a=true:=by
 unfold dJ
 rw [beq_eq_false_iff_ne.2 (by omega),decide_eq_false (by omega),decide_eq_false (by omega),decide_eq_false (by omega)];rfl
theorem Hb {a:AC} {k:Int} (h:dJ a=true) (hk:k < a.known):bS k (du a)=true:=by
 unfold dJ at h
 simp only [Bool.and_eq_true,Bool.not_eq_true',beq_eq_false_iff_ne,decide_eq_false_iff_not] at h
 unfold bS du
 simp only [Bool.and_eq_true,decide_eq_true_eq]
 omega
theorem MkA.ok {D:Int} {a:AC} (h:MkA D a) (h1:dJ a=true):bh a=true:=by
 unfold bh
 rw [h1,Bool.true_and]
 rcases h with h | ⟨h2,-,h3,h4,-⟩
 ·have hv:a.void=true:=by rw [h];rfl
  rw [hv,if_pos rfl]
  generalize a.key=b at h
  generalize a.known=c at h
  rw [h]
  simp [AC.beq,AC.nil,RQ.beq]
 ·rw [h2,if_neg Bool.false_ne_true,h3,h4];rfl
theorem xn {xs:List AC} (h:cR xs=0):xs.all bh=true/\xs.length<=4096/\cY 0 (xs.map du)=true:=by
 unfold cR at h
 split at h
 ·rename_i h1
  unfold dq at h
  rw [List.length_map] at h
  split at h
  ·cases h
  ·rename_i h2
   split at h
   ·rename_i h3;exact ⟨h1,by omega,h3⟩
   ·cases h
 ·cases h
theorem AG {xs:List AC} {x:AC} (h:cR xs=0) (hl:xs.length < 4096) (hv:bh x=true) (hd:dJ x=true) (hk:nR (xs.map du) 0 < x.known):cR (xs++[x])=0:=by
 obtain ⟨h1,-,h3⟩:=xn h
 unfold cR dq
 rw [if_pos (by rw [List.all_append,h1];simp [hv]),List.length_map,if_neg (by rw [List.length_append];simp;omega),if_pos]
 rw [List.map_append,List.map_cons,List.map_nil,nB,h3,Hb hd hk];rfl
structure MkLA (D:Int) (n:Nat) (b:Int) (xs:List AC):Prop where
 l:xs.length=n
 x:∀ x∈xs,MkA D x/\x.key∈yz/\x.In
 c:cR xs=0
 k:nR (xs.map du) 0<=b
theorem MkLA.nil {D b:Int} (h:0<=b):MkLA D 0 b []:=⟨rfl,(fun x hx=>by cases hx),rfl,h⟩
theorem MkLA.snoc {D b:Int} {n:Nat} {xs:List AC} (h:MkLA D n b xs) {x:AC} (hx:MkA D x) (hk:x.key∈yz) (hi:x.In) (hb:b < x.known) (h0:0<=b) (hm:x.known<=2147483647) (hn:n < 4096):MkLA D (n+1) x.known (xs++[x]):=by
 have l2:=zW hk
 have hd:=EV (a:=x) (by omega) (by omega) (by omega) hm
 refine ⟨by rw [List.length_append,h.l];rfl,fun y hy=>?_,AG h.c (by rw [h.l];exact hn) (hx.ok hd) hd (by have:=h.k;omega),by rw [List.map_append,List.map_cons,List.map_nil,pz];exact Int.le_refl _⟩
 rcases List.mem_append.1 hy with hy | hy
 ·exact h.x y hy
 ·have:y=x:=by simpa using hy
  rw [this];exact ⟨hx,hk,hi⟩
/-! ### what the laws need of made books -/
theorem MkL.mono {D b c:Int} {n:Nat} {xs:List EC} (h:MkL D n b xs) (hc:b<=c):MkL D n c xs :=
 ⟨h.l,fun x hx=>⟨(h.x x hx).1,(h.x x hx).2.1,(h.x x hx).2.2.1,by have:=(h.x x hx).2.2.2;omega⟩,h.c,by have:=h.k;omega⟩
theorem MkLA.mono {D b c:Int} {n:Nat} {xs:List AC} (h:MkLA D n b xs) (hc:b<=c):MkLA D n c xs:=⟨h.l,h.x,h.c,by have:=h.k;omega⟩
theorem MkX.key {D:Int} {x:EC} (h:MkX D x) (k:Bs):MkX D { x with key:=k }:=by
 rcases h with h | h
 ·left;rw [h];rfl
 ·exact .inr ⟨h.v,h.d,h.s,h.a,h.c,h.k⟩
theorem MkX.live {D:Int} {x:EC} (h:MkX D x) (hv:x.void=false):MkB D x:=by
 rcases h with h | h
 ·rw [h] at hv;cases hv
 ·exact h
theorem MkB.of {D D':Int} {x y:EC} (h:MkB D x) (v:y.void=false) (d:0<=y.day/\D'<=y.day+1/\y.day<=D'+7) (s:y.day<=y.settle/\y.settle<=73048/\y.settle<=D'+10) (a : -100000<=y.amt/\y.amt<=100000) (e:y.kind=x.kind/\y.ins=x.ins/\y.cur=x.cur) (q:y.qty=x.qty\/(y.kind=1/\1<=y.qty/\y.qty<=2000)):MkB D' y:=by
 refine ⟨v,d,s,a,by rw [e.2.2];exact h.c,?_⟩
 rw [e.1,e.2.1]
 rcases q with q | ⟨q1,q2,q3⟩
 ·rw [q];exact h.k
 ·rw [e.1] at q1
  rcases h.k with ⟨k1,k2,-⟩ | ⟨k1,-⟩
  ·exact .inl ⟨k1,k2,by omega,by omega,q3⟩
  ·omega
theorem MkA.key {D:Int} {a:AC} (h:MkA D a) (k:Bs):MkA D { a with key:=k }:=by
 rcases h with h | ⟨h1,h2,h3,h4,h5⟩
 ·left;rw [h];rfl
 ·exact .inr ⟨h1,⟨h2.nd,h2.p,h2.c⟩,h3,h4,h5⟩
theorem MkA.day {D:Int} {a:AC} (h:MkA D a) (hv:a.void=false) {d:Int} (hd:0<=d/\d<=73048):MkA d { a with day:=d }:=by
 rcases h with h | ⟨h1,h2,h3,h4,h5⟩
 ·rw [h] at hv;cases hv
 ·refine .inr ⟨h1,⟨h2.nd,h2.p,h2.c⟩,?_,h4,by show d<=d+7;omega⟩
  unfold cz at h3 ⊢
  simp only [Bool.and_eq_true,Bool.not_eq_true',decide_eq_false_iff_not] at h3 ⊢
  exact ⟨h3.1,by omega,by omega,h3.2.2.2⟩
structure OrdL (n:Nat) (xs:List EC):Prop where
 l:xs.length=n
 x:∀ (j:Nat) x,xs[j]? = some x->MkB 9497 x/\0<=x.qty/\x.known=j+1/\x.key.length=1
theorem OrdL.md {n:Nat} {xs:List EC} (h:OrdL n xs) (hn:n<=7):∀ x∈xs,(MdE x/\0<=x.qty)/\(x.void=false/\x.known<=99)/\x.In:=fun x hx=>by
 obtain ⟨j,hj⟩:=List.mem_iff_getElem?.1 hx
 obtain ⟨h1,h2,h3,h4⟩:=h.x j x hj
 have hl:=(List.getElem?_eq_some_iff.1 hj).1
 have hl2:=h.l
 exact ⟨⟨MkX.md (.inr h1) (yI (by omega) (by omega) (by omega) (by omega)),h2⟩,⟨h1.v,by omega⟩,MkX.in_ (.inr h1) (by omega)⟩
theorem D9:Gen 50 [] 1 (RS (·∈iw)):=by
 intro zs k hk
 obtain ⟨r1,k1,a1,b1,⟨l,rfl,c1⟩,O1⟩:=qV (xs:=[[65,67,77,69],[66,79,78,68],[71,79,76,68],[88,49]]) (by decide) (by decide) zs k (by omega)
 refine ⟨_,k1,by omega,by omega,⟨l,rfl,c1⟩,fun E v d hE hv=>?_⟩
 refine de [] af ah Nc E hE d (25,2,tb v k,tb v k1) [SV.ptr 1000 0] _ rfl rfl fun w b hT=>?_
 have hv:=hv.of_old hE.symm hT
 exact ⟨by decide,by decide,jU [[65,67,77,69],[66,79,78,68],[71,79,76,68],[88,49]],by kernel_rfl,rfl,.inr ⟨_,_,_,O1 _ v 1000 4 (by decide) rfl hv,⟨rfl,rfl,trivial⟩,rfl,rfl,rfl,trivial⟩⟩
theorem Ho:Gen 52 [] 1 (RS (·∈gR)):=by
 intro zs k hk
 obtain ⟨r1,k1,a1,b1,⟨l,rfl,c1⟩,O1⟩:=qV (xs:=[[85,83,68],[85,83,68],[69,85,82],[71,66,80]]) (by decide) (by decide) zs k (by omega)
 refine ⟨_,k1,by omega,by omega,⟨l,rfl,by simp at c1;rcases c1 with rfl | rfl | rfl<;>simp [gR]⟩,fun E v d hE hv=>?_⟩
 refine de [] af ah Na E hE d (25,2,tb v k,tb v k1) [SV.ptr 1000 0] _ rfl rfl fun w b hT=>?_
 have hv:=hv.of_old hE.symm hT
 exact ⟨by decide,by decide,jU [[85,83,68],[85,83,68],[69,85,82],[71,66,80]],by kernel_rfl,rfl,.inr ⟨_,_,_,O1 _ v 1000 4 (by decide) rfl hv,⟨rfl,rfl,trivial⟩,rfl,rfl,rfl,trivial⟩⟩
theorem G3 {D kind i s qty amt known:Int} {key ins cur:Bs} (hD:0<=D/\D<=73048) (hi:0<=i/\i < 8) (hs:0<=s/\s<=3) (ha : -100000<=amt/\amt<=100000) (hc:cur∈gR) (hk:(kind=1/\ins∈iw/\qty≠0/\-2000<=qty/\qty<=2000)\/(kind=2/\ins=[]/\qty=0)):MkB D ⟨kind,key,min 73048 (IntKind.i64.wrap (D+i)),min 73048 (IntKind.i64.wrap (min 73048 (IntKind.i64.wrap (D+i))+s)),ins,qty,amt,cur,known,false⟩:=by
 have e1:IntKind.i64.wrap (D+i)=D+i:=i64_in (by omega)
 rw [e1]
 have e2:IntKind.i64.wrap (min 73048 (D+i)+s)=min 73048 (D+i)+s:=i64_in (by omega)
 rw [e2]
 refine ⟨rfl,⟨?_,?_,?_⟩,⟨?_,?_,?_⟩,ha,hc,hk⟩
 ·show 0<=min 73048 (D+i);omega
 ·show D<=min 73048 (D+i)+1;omega
 ·show min 73048 (D+i)<=D+7;omega
 ·show min 73048 (D+i)<=min 73048 (min 73048 (D+i)+s);omega
 ·show min 73048 (min 73048 (D+i)+s)<=73048;omega
 ·show min 73048 (min 73048 (D+i)+s)<=D+10;omega
def RE (P:EC->Prop) (r:Value):Prop:=∃ x:EC,r=.agg x.A/\P x
theorem MkX.first {D:Int} {x:EC} (h:MkX D x) (hv:x.void=false) (hD:0<=D) (key:Bs):MkX D { x with key:=key,day:=max 0 (D - 1) }/\(x.kind=1->MkX D { x with key:=key,day:=max 0 (D - 1),qty:=2000 }):=by
 have hb:=h.live hv
 have h1:=hb.d
 have h2:=hb.s
 refine ⟨.inr ⟨hv,⟨by show (0:Int)<=max 0 (D - 1);omega,by show D<=max 0 (D - 1)+1;omega,by show max 0 (D - 1)<=D+7;omega⟩,⟨by show max 0 (D - 1)<=x.settle;omega,h2.2⟩,hb.a,hb.c,hb.k⟩,fun hk=>.inr ⟨hv,⟨by show (0:Int)<=max 0 (D - 1);omega,by show D<=max 0 (D - 1)+1;omega,by show max 0 (D - 1)<=D+7;omega⟩,⟨by show max 0 (D - 1)<=x.settle;omega,h2.2⟩,hb.a,hb.c,?_⟩⟩
 rcases hb.k with ⟨k1,k2,-⟩ | ⟨k1,-⟩
 ·exact .inl ⟨k1,k2,by show (2000:Int)≠0;decide,by show (-2000:Int)<=2000;decide,by show (2000:Int)<=2000;decide⟩
 ·omega
theorem fa (day known qty amt:Int) (key ins cur:Bs) {pl:List (Nat×Nat)} (hpl:pl=[(0,1),(1,1),(2,1),(3,1),(4,1),(5,1),(6,1),(7,1),(8,1),(9,1)]):Instr.fill (fun k=>pl[k]?) dE.zero [(0,.int .i64 1),(1,.string (S key)),(2,.int .i64 day),(4,.string (S ins)),(5,.int .i64 qty),(6,.int .i64 amt),(7,.string (S cur)),(8,.int .i64 known)]=some (EC.A ⟨1,key,day,0,ins,qty,amt,cur,known,false⟩):=by
 subst hpl;kernel_rfl
theorem EC.s0 (a:EC) (n:Int):a.A.setIfInBounds (0+0) (.int .i64 n)=({ a with kind:=n }:EC).A:=rfl
theorem EC.s1 (a:EC) (l:Bs):a.A.setIfInBounds (0+1) (.string (S l))=({ a with key:=l }:EC).A:=rfl
theorem EC.s2 (a:EC) (n:Int):a.A.setIfInBounds (0+2) (.int .i64 n)=({ a with day:=n }:EC).A:=rfl
theorem EC.s3 (a:EC) (n:Int):a.A.setIfInBounds (0+3) (.int .i64 n)=({ a with settle:=n }:EC).A:=rfl
theorem EC.s4 (a:EC) (l:Bs):a.A.setIfInBounds (0+4) (.string (S l))=({ a with ins:=l }:EC).A:=rfl
theorem EC.s5 (a:EC) (n:Int):a.A.setIfInBounds (0+5) (.int .i64 n)=({ a with qty:=n }:EC).A:=rfl
theorem EC.s6 (a:EC) (n:Int):a.A.setIfInBounds (0+6) (.int .i64 n)=({ a with amt:=n }:EC).A:=rfl
theorem EC.s7 (a:EC) (l:Bs):a.A.setIfInBounds (0+7) (.string (S l))=({ a with cur:=l }:EC).A:=rfl
theorem EC.s8 (a:EC) (n:Int):a.A.setIfInBounds (0+8) (.int .i64 n)=({ a with known:=n }:EC).A:=rfl
theorem EC.s9 (a:EC) (b:Bool):a.A.setIfInBounds (0+9) (.bool b)=({ a with void:=b }:EC).A:=rfl
theorem Fe {day:Int} (hD:0<=day/\day<=73048) (known:Int):Gen 21 [SV.c (.int .i64 day),SV.c (.int .i64 known)] 20 (RE fun x=>(MkX day x/\x.key∈iZ)/\x.known=known):=by
 intro zs k hk
 obtain ⟨r1,k1,a1,b1,⟨key,rfl,c1⟩,O1⟩:=qV (xs:=[[101,49],[101,50],[101,51],[101,52],[101,53],[101,54]]) (by decide) (by decide) zs k (by omega)
 obtain ⟨r2,k2,a2,b2,⟨i2,rfl,c2⟩,O2⟩:=fY (n:=8) (by decide) zs k1 (by omega)
 obtain ⟨r3,k3,a3,b3,⟨ins,rfl,c3⟩,O3⟩:=D9 zs k2 (by omega)
 obtain ⟨r4,k4,a4,b4,⟨i4,rfl,c4⟩,O4⟩:=fY (n:=1000) (by decide) zs k3 (by omega)
 obtain ⟨r5,k5,a5,b5,⟨amt,rfl,c5⟩,O5⟩:=Ei (lo:=-100000) (hi:=100000) (by decide) (by decide) (by decide) zs k4 (by omega)
 obtain ⟨r6,k6,a6,b6,⟨cur,rfl,c6⟩,O6⟩:=Ho zs k5 (by omega)
 obtain ⟨r7,k7,a7,b7,⟨i7,rfl,c7⟩,O7⟩:=o9 (xs:=[0,0,1,2,3]) (by decide) (by decide) zs k6 (by omega)
 obtain ⟨r8,k8,a8,b8,⟨flow,rfl⟩,O8⟩:=jv (a:=1) (b:=4) (by decide) zs k7 (by omega)
 have ck:key∈iZ:=by
  simp only [List.mem_cons,List.not_mem_nil,or_false] at c1
  rcases c1 with rfl | rfl | rfl | rfl | rfl | rfl<;>decide
 have q7:0<=i7/\i7<=3:=by simp at c7;omega
 have q4:IntKind.i64.wrap (1+i4)=1+i4:=i64_in (by omega)
 have n0:(MkX day (EC.nil key known)/\key∈iZ)/\known=known:=⟨⟨.inl rfl,ck⟩,rfl⟩
 have mk:∀ (kind:Int) (ins:Bs) (qty:Int),((kind=1/\ins∈iw/\qty≠0/\-2000<=qty/\qty<=2000)\/(kind=2/\ins=[]/\qty=0))->(MkX day ⟨kind,key,min 73048 (IntKind.i64.wrap (day+i2)),min 73048 (IntKind.i64.wrap (min 73048 (IntKind.i64.wrap (day+i2))+i7)),ins,qty,amt,cur,known,false⟩/\key∈iZ)/\known=known:=fun kind ins qty h=>⟨⟨.inr (G3 hD ⟨c2.1,by omega⟩ q7 c5 c6 h),ck⟩,rfl⟩
 cases flow
 ·obtain ⟨r9,k9,a9,b9,⟨sale,rfl⟩,O9⟩:=jv (a:=1) (b:=3) (by decide) zs k8 (by omega)
  cases sale
  ·obtain ⟨r10,k10,a10,b10,⟨void,rfl⟩,O10⟩:=jv (a:=1) (b:=9) (by decide) zs k9 (by omega)
   cases void
   ·refine ⟨_,k10,by omega,by omega,⟨⟨1,key,min 73048 (IntKind.i64.wrap (day+i2)),min 73048 (IntKind.i64.wrap (min 73048 (IntKind.i64.wrap (day+i2))+i7)),ins,IntKind.i64.wrap (1+i4),amt,cur,known,false⟩,rfl,mk 1 ins _ (.inl ⟨rfl,c3,by rw [q4];omega,by rw [q4];omega,by rw [q4];omega⟩)⟩,fun E v d hE hv=>?_⟩
    refine de [] af ah AQ E hE d (25,2,tb v k,tb v k10) [SV.ptr 1000 0,SV.c (.int .i64 day),SV.c (.int .i64 known)] _ rfl rfl fun w b hT=>?_
    have hv:=hv.of_old hE.symm hT
    exact ⟨by decide,by decide,jU [[101,49],[101,50],[101,51],[101,52],[101,53],[101,54]],by kernel_rfl,rfl,.inr ⟨_,_,_,O1 _ v 1000 9 (by decide) rfl hv,⟨rfl,rfl,trivial⟩,rfl,.inr ⟨_,_,_,O2 _ v 1000 rfl hv,⟨rfl,trivial⟩,rfl,_,fun w' _=>ce _ _ w',.inr ⟨_,_,_,O3 _ v 1000 rfl hv,⟨rfl,trivial⟩,rfl,.inr ⟨_,_,_,O4 _ v 1000 rfl hv,⟨rfl,trivial⟩,rfl,.inr ⟨_,_,_,O5 _ v 1000 rfl hv,⟨rfl,trivial⟩,rfl,.inr ⟨_,_,_,O6 _ v 1000 rfl hv,⟨rfl,trivial⟩,rfl,_,fa (min 73048 (IntKind.i64.wrap (day+i2))) known (IntKind.i64.wrap (1+i4)) amt key ins cur rfl,EC.fits ⟨1,key,min 73048 (IntKind.i64.wrap (day+i2)),0,ins,IntKind.i64.wrap (1+i4),amt,cur,known,false⟩,_,EC.g2 ⟨1,key,min 73048 (IntKind.i64.wrap (day+i2)),0,ins,IntKind.i64.wrap (1+i4),amt,cur,known,false⟩,by decide,by decide,bd [0,0,1,2,3],by kernel_rfl,rfl,.inr ⟨_,_,_,O7 _ v 1000 30 (by decide) rfl hv,⟨rfl,rfl,trivial⟩,rfl,_,fun w' _=>ce _ _ w',by decide,rfl,_,EC.s3 ⟨1,key,min 73048 (IntKind.i64.wrap (day+i2)),0,ins,IntKind.i64.wrap (1+i4),amt,cur,known,false⟩ _,by kernel_rfl,.inr ⟨_,_,_,O8 _ v 1000 rfl hv,⟨rfl,trivial⟩,rfl,(nf rfl),fun _=>⟨_,EC.g0 ⟨1,key,min 73048 (IntKind.i64.wrap (day+i2)),min 73048 (IntKind.i64.wrap (min 73048 (IntKind.i64.wrap (day+i2))+i7)),ins,IntKind.i64.wrap (1+i4),amt,cur,known,false⟩,fun _=>.inr ⟨_,_,_,O9 _ v 1000 rfl hv,⟨rfl,trivial⟩,rfl,(nf rfl),fun _=>.inr ⟨_,_,_,O10 _ v 1000 rfl hv,⟨rfl,trivial⟩,rfl,(nf rfl),fun _=>⟨EC.fits _,rfl,rfl,trivial⟩⟩⟩,(nf rfl)⟩⟩⟩⟩⟩⟩⟩⟩⟩⟩
   ·refine ⟨_,k10,by omega,by omega,⟨EC.nil key known,rfl,n0⟩,fun E v d hE hv=>?_⟩
    refine de [] af ah AQ E hE d (25,2,tb v k,tb v k10) [SV.ptr 1000 0,SV.c (.int .i64 day),SV.c (.int .i64 known)] _ rfl rfl fun w b hT=>?_
    have hv:=hv.of_old hE.symm hT
    exact ⟨by decide,by decide,jU [[101,49],[101,50],[101,51],[101,52],[101,53],[101,54]],by kernel_rfl,rfl,.inr ⟨_,_,_,O1 _ v 1000 9 (by decide) rfl hv,⟨rfl,rfl,trivial⟩,rfl,.inr ⟨_,_,_,O2 _ v 1000 rfl hv,⟨rfl,trivial⟩,rfl,_,fun w' _=>ce _ _ w',.inr ⟨_,_,_,O3 _ v 1000 rfl hv,⟨rfl,trivial⟩,rfl,.inr ⟨_,_,_,O4 _ v 1000 rfl hv,⟨rfl,trivial⟩,rfl,.inr ⟨_,_,_,O5 _ v 1000 rfl hv,⟨rfl,trivial⟩,rfl,.inr ⟨_,_,_,O6 _ v 1000 rfl hv,⟨rfl,trivial⟩,rfl,_,fa (min 73048 (IntKind.i64.wrap (day+i2))) known (IntKind.i64.wrap (1+i4)) amt key ins cur rfl,EC.fits ⟨1,key,min 73048 (IntKind.i64.wrap (day+i2)),0,ins,IntKind.i64.wrap (1+i4),amt,cur,known,false⟩,_,EC.g2 ⟨1,key,min 73048 (IntKind.i64.wrap (day+i2)),0,ins,IntKind.i64.wrap (1+i4),amt,cur,known,false⟩,by decide,by decide,bd [0,0,1,2,3],by kernel_rfl,rfl,.inr ⟨_,_,_,O7 _ v 1000 30 (by decide) rfl hv,⟨rfl,rfl,trivial⟩,rfl,_,fun w' _=>ce _ _ w',by decide,rfl,_,EC.s3 ⟨1,key,min 73048 (IntKind.i64.wrap (day+i2)),0,ins,IntKind.i64.wrap (1+i4),amt,cur,known,false⟩ _,by kernel_rfl,.inr ⟨_,_,_,O8 _ v 1000 rfl hv,⟨rfl,trivial⟩,rfl,(nf rfl),fun _=>⟨_,EC.g0 ⟨1,key,min 73048 (IntKind.i64.wrap (day+i2)),min 73048 (IntKind.i64.wrap (min 73048 (IntKind.i64.wrap (day+i2))+i7)),ins,IntKind.i64.wrap (1+i4),amt,cur,known,false⟩,fun _=>.inr ⟨_,_,_,O9 _ v 1000 rfl hv,⟨rfl,trivial⟩,rfl,(nf rfl),fun _=>.inr ⟨_,_,_,O10 _ v 1000 rfl hv,⟨rfl,trivial⟩,rfl,fun _=>⟨_,EC.g1 ⟨1,key,min 73048 (IntKind.i64.wrap (day+i2)),min 73048 (IntKind.i64.wrap (min 73048 (IntKind.i64.wrap (day+i2))+i7)),ins,IntKind.i64.wrap (1+i4),amt,cur,known,false⟩,_,f4 key known rfl,EC.fits _,rfl,rfl,trivial⟩,(nf rfl)⟩⟩,(nf rfl)⟩⟩⟩⟩⟩⟩⟩⟩⟩⟩
  ·obtain ⟨r10,k10,a10,b10,⟨i10,rfl,c10⟩,O10⟩:=fY (n:=60) (by decide) zs k9 (by omega)
   have q10:IntKind.i64.wrap (0 - IntKind.i64.wrap (1+i10))=-(1+i10):=by rw [i64_in (x:=1+i10) (by omega),i64_in (by omega)];omega
   obtain ⟨r11,k11,a11,b11,⟨void,rfl⟩,O11⟩:=jv (a:=1) (b:=9) (by decide) zs k10 (by omega)
   cases void
   ·refine ⟨_,k11,by omega,by omega,⟨⟨1,key,min 73048 (IntKind.i64.wrap (day+i2)),min 73048 (IntKind.i64.wrap (min 73048 (IntKind.i64.wrap (day+i2))+i7)),ins,IntKind.i64.wrap (0 - IntKind.i64.wrap (1+i10)),amt,cur,known,false⟩,rfl,mk 1 ins _ (.inl ⟨rfl,c3,by rw [q10];omega,by rw [q10];omega,by rw [q10];omega⟩)⟩,fun E v d hE hv=>?_⟩
    refine de [] af ah AQ E hE d (25,2,tb v k,tb v k11) [SV.ptr 1000 0,SV.c (.int .i64 day),SV.c (.int .i64 known)] _ rfl rfl fun w b hT=>?_
    have hv:=hv.of_old hE.symm hT
    exact ⟨by decide,by decide,jU [[101,49],[101,50],[101,51],[101,52],[101,53],[101,54]],by kernel_rfl,rfl,.inr ⟨_,_,_,O1 _ v 1000 9 (by decide) rfl hv,⟨rfl,rfl,trivial⟩,rfl,.inr ⟨_,_,_,O2 _ v 1000 rfl hv,⟨rfl,trivial⟩,rfl,_,fun w' _=>ce _ _ w',.inr ⟨_,_,_,O3 _ v 1000 rfl hv,⟨rfl,trivial⟩,rfl,.inr ⟨_,_,_,O4 _ v 1000 rfl hv,⟨rfl,trivial⟩,rfl,.inr ⟨_,_,_,O5 _ v 1000 rfl hv,⟨rfl,trivial⟩,rfl,.inr ⟨_,_,_,O6 _ v 1000 rfl hv,⟨rfl,trivial⟩,rfl,_,fa (min 73048 (IntKind.i64.wrap (day+i2))) known (IntKind.i64.wrap (1+i4)) amt key ins cur rfl,EC.fits ⟨1,key,min 73048 (IntKind.i64.wrap (day+i2)),0,ins,IntKind.i64.wrap (1+i4),amt,cur,known,false⟩,_,EC.g2 ⟨1,key,min 73048 (IntKind.i64.wrap (day+i2)),0,ins,IntKind.i64.wrap (1+i4),amt,cur,known,false⟩,by decide,by decide,bd [0,0,1,2,3],by kernel_rfl,rfl,.inr ⟨_,_,_,O7 _ v 1000 30 (by decide) rfl hv,⟨rfl,rfl,trivial⟩,rfl,_,fun w' _=>ce _ _ w',by decide,rfl,_,EC.s3 ⟨1,key,min 73048 (IntKind.i64.wrap (day+i2)),0,ins,IntKind.i64.wrap (1+i4),amt,cur,known,false⟩ _,by kernel_rfl,.inr ⟨_,_,_,O8 _ v 1000 rfl hv,⟨rfl,trivial⟩,rfl,(nf rfl),fun _=>⟨_,EC.g0 ⟨1,key,min 73048 (IntKind.i64.wrap (day+i2)),min 73048 (IntKind.i64.wrap (min 73048 (IntKind.i64.wrap (day+i2))+i7)),ins,IntKind.i64.wrap (1+i4),amt,cur,known,false⟩,fun _=>.inr ⟨_,_,_,O9 _ v 1000 rfl hv,⟨rfl,trivial⟩,rfl,fun _=>.inr ⟨_,_,_,O10 _ v 1000 rfl hv,⟨rfl,trivial⟩,rfl,by decide,rfl,_,EC.s5 ⟨1,key,min 73048 (IntKind.i64.wrap (day+i2)),min 73048 (IntKind.i64.wrap (min 73048 (IntKind.i64.wrap (day+i2))+i7)),ins,IntKind.i64.wrap (1+i4),amt,cur,known,false⟩ _,.inr ⟨_,_,_,O11 _ v 1000 rfl hv,⟨rfl,trivial⟩,rfl,(nf rfl),fun _=>⟨EC.fits _,rfl,rfl,trivial⟩⟩⟩,(nf rfl)⟩,(nf rfl)⟩⟩⟩⟩⟩⟩⟩⟩⟩⟩
   ·refine ⟨_,k11,by omega,by omega,⟨EC.nil key known,rfl,n0⟩,fun E v d hE hv=>?_⟩
    refine de [] af ah AQ E hE d (25,2,tb v k,tb v k11) [SV.ptr 1000 0,SV.c (.int .i64 day),SV.c (.int .i64 known)] _ rfl rfl fun w b hT=>?_
    have hv:=hv.of_old hE.symm hT
    exact ⟨by decide,by decide,jU [[101,49],[101,50],[101,51],[101,52],[101,53],[101,54]],by kernel_rfl,rfl,.inr ⟨_,_,_,O1 _ v 1000 9 (by decide) rfl hv,⟨rfl,rfl,trivial⟩,rfl,.inr ⟨_,_,_,O2 _ v 1000 rfl hv,⟨rfl,trivial⟩,rfl,_,fun w' _=>ce _ _ w',.inr ⟨_,_,_,O3 _ v 1000 rfl hv,⟨rfl,trivial⟩,rfl,.inr ⟨_,_,_,O4 _ v 1000 rfl hv,⟨rfl,trivial⟩,rfl,.inr ⟨_,_,_,O5 _ v 1000 rfl hv,⟨rfl,trivial⟩,rfl,.inr ⟨_,_,_,O6 _ v 1000 rfl hv,⟨rfl,trivial⟩,rfl,_,fa (min 73048 (IntKind.i64.wrap (day+i2))) known (IntKind.i64.wrap (1+i4)) amt key ins cur rfl,EC.fits ⟨1,key,min 73048 (IntKind.i64.wrap (day+i2)),0,ins,IntKind.i64.wrap (1+i4),amt,cur,known,false⟩,_,EC.g2 ⟨1,key,min 73048 (IntKind.i64.wrap (day+i2)),0,ins,IntKind.i64.wrap (1+i4),amt,cur,known,false⟩,by decide,by decide,bd [0,0,1,2,3],by kernel_rfl,rfl,.inr ⟨_,_,_,O7 _ v 1000 30 (by decide) rfl hv,⟨rfl,rfl,trivial⟩,rfl,_,fun w' _=>ce _ _ w',by decide,rfl,_,EC.s3 ⟨1,key,min 73048 (IntKind.i64.wrap (day+i2)),0,ins,IntKind.i64.wrap (1+i4),amt,cur,known,false⟩ _,by kernel_rfl,.inr ⟨_,_,_,O8 _ v 1000 rfl hv,⟨rfl,trivial⟩,rfl,(nf rfl),fun _=>⟨_,EC.g0 ⟨1,key,min 73048 (IntKind.i64.wrap (day+i2)),min 73048 (IntKind.i64.wrap (min 73048 (IntKind.i64.wrap (day+i2))+i7)),ins,IntKind.i64.wrap (1+i4),amt,cur,known,false⟩,fun _=>.inr ⟨_,_,_,O9 _ v 1000 rfl hv,⟨rfl,trivial⟩,rfl,fun _=>.inr ⟨_,_,_,O10 _ v 1000 rfl hv,⟨rfl,trivial⟩,rfl,by decide,rfl,_,EC.s5 ⟨1,key,min 73048 (IntKind.i64.wrap (day+i2)),min 73048 (IntKind.i64.wrap (min 73048 (IntKind.i64.wrap (day+i2))+i7)),ins,IntKind.i64.wrap (1+i4),amt,cur,known,false⟩ _,.inr ⟨_,_,_,O11 _ v 1000 rfl hv,⟨rfl,trivial⟩,rfl,fun _=>⟨_,EC.g1 ⟨1,key,min 73048 (IntKind.i64.wrap (day+i2)),min 73048 (IntKind.i64.wrap (min 73048 (IntKind.i64.wrap (day+i2))+i7)),ins,IntKind.i64.wrap (0 - IntKind.i64.wrap (1+i10)),amt,cur,known,false⟩,_,f4 key known rfl,EC.fits _,rfl,rfl,trivial⟩,(nf rfl)⟩⟩,(nf rfl)⟩,(nf rfl)⟩⟩⟩⟩⟩⟩⟩⟩⟩⟩
 ·obtain ⟨r9,k9,a9,b9,⟨void,rfl⟩,O9⟩:=jv (a:=1) (b:=9) (by decide) zs k8 (by omega)
  cases void
  ·refine ⟨_,k9,by omega,by omega,⟨⟨2,key,min 73048 (IntKind.i64.wrap (day+i2)),min 73048 (IntKind.i64.wrap (min 73048 (IntKind.i64.wrap (day+i2))+i7)),[],0,amt,cur,known,false⟩,rfl,mk 2 [] 0 (.inr ⟨rfl,rfl,rfl⟩)⟩,fun E v d hE hv=>?_⟩
   refine de [] af ah AQ E hE d (25,2,tb v k,tb v k9) [SV.ptr 1000 0,SV.c (.int .i64 day),SV.c (.int .i64 known)] _ rfl rfl fun w b hT=>?_
   have hv:=hv.of_old hE.symm hT
   exact ⟨by decide,by decide,jU [[101,49],[101,50],[101,51],[101,52],[101,53],[101,54]],by kernel_rfl,rfl,.inr ⟨_,_,_,O1 _ v 1000 9 (by decide) rfl hv,⟨rfl,rfl,trivial⟩,rfl,.inr ⟨_,_,_,O2 _ v 1000 rfl hv,⟨rfl,trivial⟩,rfl,_,fun w' _=>ce _ _ w',.inr ⟨_,_,_,O3 _ v 1000 rfl hv,⟨rfl,trivial⟩,rfl,.inr ⟨_,_,_,O4 _ v 1000 rfl hv,⟨rfl,trivial⟩,rfl,.inr ⟨_,_,_,O5 _ v 1000 rfl hv,⟨rfl,trivial⟩,rfl,.inr ⟨_,_,_,O6 _ v 1000 rfl hv,⟨rfl,trivial⟩,rfl,_,fa (min 73048 (IntKind.i64.wrap (day+i2))) known (IntKind.i64.wrap (1+i4)) amt key ins cur rfl,EC.fits ⟨1,key,min 73048 (IntKind.i64.wrap (day+i2)),0,ins,IntKind.i64.wrap (1+i4),amt,cur,known,false⟩,_,EC.g2 ⟨1,key,min 73048 (IntKind.i64.wrap (day+i2)),0,ins,IntKind.i64.wrap (1+i4),amt,cur,known,false⟩,by decide,by decide,bd [0,0,1,2,3],by kernel_rfl,rfl,.inr ⟨_,_,_,O7 _ v 1000 30 (by decide) rfl hv,⟨rfl,rfl,trivial⟩,rfl,_,fun w' _=>ce _ _ w',by decide,rfl,_,EC.s3 ⟨1,key,min 73048 (IntKind.i64.wrap (day+i2)),0,ins,IntKind.i64.wrap (1+i4),amt,cur,known,false⟩ _,by kernel_rfl,.inr ⟨_,_,_,O8 _ v 1000 rfl hv,⟨rfl,trivial⟩,rfl,fun _=>⟨by decide,rfl,_,EC.s0 ⟨1,key,min 73048 (IntKind.i64.wrap (day+i2)),min 73048 (IntKind.i64.wrap (min 73048 (IntKind.i64.wrap (day+i2))+i7)),ins,IntKind.i64.wrap (1+i4),amt,cur,known,false⟩ 2,by decide,rfl,_,EC.s4 ⟨2,key,min 73048 (IntKind.i64.wrap (day+i2)),min 73048 (IntKind.i64.wrap (min 73048 (IntKind.i64.wrap (day+i2))+i7)),ins,IntKind.i64.wrap (1+i4),amt,cur,known,false⟩ [],by decide,rfl,_,EC.s5 ⟨2,key,min 73048 (IntKind.i64.wrap (day+i2)),min 73048 (IntKind.i64.wrap (min 73048 (IntKind.i64.wrap (day+i2))+i7)),[],IntKind.i64.wrap (1+i4),amt,cur,known,false⟩ 0,_,EC.g0 ⟨2,key,min 73048 (IntKind.i64.wrap (day+i2)),min 73048 (IntKind.i64.wrap (min 73048 (IntKind.i64.wrap (day+i2))+i7)),[],0,amt,cur,known,false⟩,(nf rfl),fun _=>⟨(nf rfl),fun _=>.inr ⟨_,_,_,O9 _ v 1000 rfl hv,⟨rfl,trivial⟩,rfl,(nf rfl),fun _=>⟨EC.fits _,rfl,rfl,trivial⟩⟩⟩⟩,(nf rfl)⟩⟩⟩⟩⟩⟩⟩⟩⟩
  ·refine ⟨_,k9,by omega,by omega,⟨EC.nil key known,rfl,n0⟩,fun E v d hE hv=>?_⟩
   refine de [] af ah AQ E hE d (25,2,tb v k,tb v k9) [SV.ptr 1000 0,SV.c (.int .i64 day),SV.c (.int .i64 known)] _ rfl rfl fun w b hT=>?_
   have hv:=hv.of_old hE.symm hT
   exact ⟨by decide,by decide,jU [[101,49],[101,50],[101,51],[101,52],[101,53],[101,54]],by kernel_rfl,rfl,.inr ⟨_,_,_,O1 _ v 1000 9 (by decide) rfl hv,⟨rfl,rfl,trivial⟩,rfl,.inr ⟨_,_,_,O2 _ v 1000 rfl hv,⟨rfl,trivial⟩,rfl,_,fun w' _=>ce _ _ w',.inr ⟨_,_,_,O3 _ v 1000 rfl hv,⟨rfl,trivial⟩,rfl,.inr ⟨_,_,_,O4 _ v 1000 rfl hv,⟨rfl,trivial⟩,rfl,.inr ⟨_,_,_,O5 _ v 1000 rfl hv,⟨rfl,trivial⟩,rfl,.inr ⟨_,_,_,O6 _ v 1000 rfl hv,⟨rfl,trivial⟩,rfl,_,fa (min 73048 (IntKind.i64.wrap (day+i2))) known (IntKind.i64.wrap (1+i4)) amt key ins cur rfl,EC.fits ⟨1,key,min 73048 (IntKind.i64.wrap (day+i2)),0,ins,IntKind.i64.wrap (1+i4),amt,cur,known,false⟩,_,EC.g2 ⟨1,key,min 73048 (IntKind.i64.wrap (day+i2)),0,ins,IntKind.i64.wrap (1+i4),amt,cur,known,false⟩,by decide,by decide,bd [0,0,1,2,3],by kernel_rfl,rfl,.inr ⟨_,_,_,O7 _ v 1000 30 (by decide) rfl hv,⟨rfl,rfl,trivial⟩,rfl,_,fun w' _=>ce _ _ w',by decide,rfl,_,EC.s3 ⟨1,key,min 73048 (IntKind.i64.wrap (day+i2)),0,ins,IntKind.i64.wrap (1+i4),amt,cur,known,false⟩ _,by kernel_rfl,.inr ⟨_,_,_,O8 _ v 1000 rfl hv,⟨rfl,trivial⟩,rfl,fun _=>⟨by decide,rfl,_,EC.s0 ⟨1,key,min 73048 (IntKind.i64.wrap (day+i2)),min 73048 (IntKind.i64.wrap (min 73048 (IntKind.i64.wrap (day+i2))+i7)),ins,IntKind.i64.wrap (1+i4),amt,cur,known,false⟩ 2,by decide,rfl,_,EC.s4 ⟨2,key,min 73048 (IntKind.i64.wrap (day+i2)),min 73048 (IntKind.i64.wrap (min 73048 (IntKind.i64.wrap (day+i2))+i7)),ins,IntKind.i64.wrap (1+i4),amt,cur,known,false⟩ [],by decide,rfl,_,EC.s5 ⟨2,key,min 73048 (IntKind.i64.wrap (day+i2)),min 73048 (IntKind.i64.wrap (min 73048 (IntKind.i64.wrap (day+i2))+i7)),[],IntKind.i64.wrap (1+i4),amt,cur,known,false⟩ 0,_,EC.g0 ⟨2,key,min 73048 (IntKind.i64.wrap (day+i2)),min 73048 (IntKind.i64.wrap (min 73048 (IntKind.i64.wrap (day+i2))+i7)),[],0,amt,cur,known,false⟩,(nf rfl),fun _=>⟨(nf rfl),fun _=>.inr ⟨_,_,_,O9 _ v 1000 rfl hv,⟨rfl,trivial⟩,rfl,fun _=>⟨_,EC.g1 ⟨2,key,min 73048 (IntKind.i64.wrap (day+i2)),min 73048 (IntKind.i64.wrap (min 73048 (IntKind.i64.wrap (day+i2))+i7)),[],0,amt,cur,known,false⟩,_,f4 key known rfl,EC.fits _,rfl,rfl,trivial⟩,(nf rfl)⟩⟩⟩,(nf rfl)⟩⟩⟩⟩⟩⟩⟩⟩⟩
def NF (D:Int) (n:Nat) (k:Nat) (v:Value) (x:Value) (U:az):Prop:=∃ (xs:List EC) (k':Nat) (b:Int),k<=k'/\k'<=k+4000/\IsL x n/\MkL D n b xs/\b<=2+5*n/\U=[(1000,Blk.row 25 2 (tb v k')),(3001,Blk.own x 31 10 n (cat EC.A xs))]
theorem BI {P:Program} {ats:Array TypeId} {ty:TypeId} {cs:Array Bool} (x y:Int) (w:World):(builtin .max ats ty cs #[.int .i64 x,.int .i64 y]).run P w=.ok (.value (.int .i64 (max x y))) w:=by
 simp [builtin,Go.Lib.run_max_ints]
theorem Ao {E:Env} (hE:E.P=Tryz.prog) {v:Value} {zs:List Int} (hv:Tp E v zs) {n k:Nat} (hn:n<=30) (hk:k+4000<=4000000000000000000) {day:Int} (hD:0<=day/\day<=73048):OwnC E 11 [SV.ptr 1000 0,SV.c (.int .i64 (n:Nat)),SV.c (.int .i64 day)] [(1000,Blk.row 25 2 (tb v k))] (NF day n k v):=by
 refine av [13] af ah NC E hE [SV.ptr 1000 0,SV.c (.int .i64 (n:Nat)),SV.c (.int .i64 day)] [(1000,Blk.row 25 2 (tb v k))] _ rfl rfl fun w X β hT=>?_
 have hv':Tp (aR Tryz.prog tt Tryz.f11.ntmps w X (aA [(1000,Blk.row 25 2 (tb v k))] β)).toEnv v zs:=hv.of_old hE.symm hT
 obtain ⟨r1,k1,a1,b1,⟨i1,rfl,c1⟩,O1⟩:=fY (n:=3) (by decide) zs k (by omega)
 refine .inr (.inl ⟨_,_,_,O1 _ v 1000 rfl hv',⟨rfl,trivial⟩,rfl,?_⟩)
 refine ⟨fun q f m=>∃ (i k2:Nat) (xs:List EC) (x:Value) (known:Int),q=n - i/\i<=n/\k<=k2/\k2<=k+1+100*i/\IsL x i/\MkL day i known xs/\0<=known/\known<=2+5*i/\f=[(0,SV.ptr 1000 0),(1,SV.c (.int .i64 (n:Nat))),(2,SV.c (.int .i64 day)),(7,SV.c x),(8,SV.c (.int .i64 known)),(9,SV.c (.int .i64 (i:Nat)))]/\m=[(1000,Blk.row 25 2 (tb v k2)),(3001,Blk.own x 31 10 i (cat EC.A xs))],n,⟨_,_,⟨0,k1,[],.slice none 0 0,i1,by omega,by omega,by omega,by omega,.nil,.nil c1.1,c1.1,by omega,rfl,rfl⟩,⟨rfl,rfl,rfl,rfl,rfl,rfl,trivial⟩,⟨rfl,.inr ⟨rfl,rfl,rfl⟩,trivial⟩,rfl⟩,?_⟩
 rintro q f m ⟨i,k2,xs,x,known,rfl,hi,hk1,hk2,hx,hM,h0,hb,rfl,rfl⟩
 refine ⟨fun h=>?_,fun h=>?_⟩
 ·have h:i < n:=by have:=ab h;omega
  obtain ⟨r3,k3,a3,b3,⟨i3,rfl,c3⟩,O3⟩:=o9 (xs:=[0,1,4]) (by decide) (by decide) zs k2 (by omega)
  have q3:0<=i3/\i3<=4:=by simp at c3;omega
  have e3:IntKind.i64.wrap (known+IntKind.i64.wrap (1+i3))=known+1+i3:=by rw [i64_in (x:=1+i3) (by omega),i64_in (by omega)];omega
  obtain ⟨r4,k4,a4,b4,⟨y,rfl,c4,c5⟩,O4⟩:=Fe hD (IntKind.i64.wrap (known+IntKind.i64.wrap (1+i3))) zs k3 (by omega)
  have ed:IntKind.i64.wrap (day - 1)=day - 1:=i64_in (by omega)
  refine .inl ⟨by decide,by decide,bd [0,1,4],by kernel_rfl,rfl,.inr (.inl ⟨_,_,_,O3 _ v 1000 20 (by decide) rfl hv',⟨rfl,rfl,trivial⟩,rfl,?_⟩)⟩
  refine .inr (.inl ⟨_,_,_,O4 _ v 1000 rfl hv',⟨rfl,trivial⟩,rfl,y.fits,?_⟩)
  refine ⟨fun f m=>∃ (z:EC) (k5:Nat),k4<=k5/\k5<=k4+1/\(MkX day z/\z.key∈iZ)/\z.known=IntKind.i64.wrap (known+IntKind.i64.wrap (1+i3))/\f=[(0,SV.ptr 1000 0),(1,SV.c (.int .i64 (n:Nat))),(2,SV.c (.int .i64 day)),(7,SV.c x),(8,SV.c (.int .i64 (IntKind.i64.wrap (known+IntKind.i64.wrap (1+i3))))),(9,SV.c (.int .i64 (i:Nat))),(10,SV.ptr 10 0)]/\m=[(1000,Blk.row 25 2 (tb v k5)),(3001,Blk.own x 31 10 i (cat EC.A xs)),(10,Blk.row 31 10 z.A)],?_,?_⟩
  ·refine ⟨fun h3=>⟨_,EC.g9 y,fun hy=>?_,fun hy=>?_⟩,fun h3=>⟨nf rfl,fun _=>?_⟩⟩
   ·have hy:y.void=false:=by simpa using hy
    have hf:=c4.1.first hy hD.1
    obtain ⟨r5,k5,a5,b5,⟨key,rfl,c6⟩,O5⟩:=qV (xs:=[[112,49],[112,50],[112,51]]) (by decide) (by decide) zs k4 (by omega)
    have hk5:key∈iZ:=by
     simp only [List.mem_cons,List.not_mem_nil,or_false] at c6
     rcases c6 with rfl | rfl | rfl<;>decide
    refine .inl ⟨by decide,by decide,jU [[112,49],[112,50],[112,51]],by kernel_rfl,rfl,.inr (.inl ⟨_,_,_,O5 _ v 1000 36 (by decide) rfl hv',⟨rfl,rfl,trivial⟩,rfl,by decide,rfl,_,EC.s1 y key,?_⟩)⟩
    refine ⟨_,fun w' _=>BI _ _ w',by decide,rfl,_,EC.s2 ({ y with key:=key }:EC) _,?_⟩
    rw [ed]
    have fin:∀ z:EC,(MkX day z/\z.key∈iZ)->z.known=IntKind.i64.wrap (known+IntKind.i64.wrap (1+i3))->k4<=k5/\k5<=k4+1/\(MkX day z/\z.key∈iZ)/\z.known=IntKind.i64.wrap (known+IntKind.i64.wrap (1+i3)):=fun z h1 h2=>⟨by omega,by omega,h1,h2⟩
    refine ⟨_,EC.g0 ({ y with key:=key,day:=max 0 (day - 1) }:EC),fun hk=>⟨_,EC.g5 ({ y with key:=key,day:=max 0 (day - 1) }:EC),fun _=>⟨by decide,rfl,_,EC.s5 ({ y with key:=key,day:=max 0 (day - 1) }:EC) 2000,?_⟩,fun _=>?_⟩,fun _=>⟨nf rfl,fun _=>?_⟩⟩
    ·obtain ⟨d1,d2,d3,d4⟩:=fin { y with key:=key,day:=max 0 (day - 1),qty:=2000 } ⟨(hf key).2 (eq_of_beq hk),hk5⟩ c5
     exact ⟨_,_,⟨_,k5,d1,d2,d3,d4,rfl,rfl⟩,⟨rfl,rfl,rfl,rfl,rfl,rfl,rfl,trivial⟩,⟨rfl,.inl rfl,rfl,trivial⟩,rfl⟩
    all_goals
     obtain ⟨d1,d2,d3,d4⟩:=fin { y with key:=key,day:=max 0 (day - 1) } ⟨(hf key).1,hk5⟩ c5
     exact ⟨_,_,⟨_,k5,d1,d2,d3,d4,rfl,rfl⟩,⟨rfl,rfl,rfl,rfl,rfl,rfl,rfl,trivial⟩,⟨rfl,.inl rfl,rfl,trivial⟩,rfl⟩
   ·exact ⟨_,_,⟨y,k4,by omega,by omega,c4,c5,rfl,rfl⟩,⟨rfl,rfl,rfl,rfl,rfl,rfl,rfl,trivial⟩,⟨rfl,.inl rfl,rfl,trivial⟩,rfl⟩
   ·exact ⟨_,_,⟨y,k4,by omega,by omega,c4,c5,rfl,rfl⟩,⟨rfl,rfl,rfl,rfl,rfl,rfl,rfl,trivial⟩,⟨rfl,.inl rfl,rfl,trivial⟩,rfl⟩
  rintro f1 m1 ⟨z,k5,a6,b6,c6,c7,rfl,rfl⟩
  have F1:=nr z
  have F5:cat EC.A xs++z.A=cat EC.A (xs++[z]):=vJ xs z
  obtain ⟨q,hq,hb'⟩:=pH
  refine .inl ⟨by decide,by decide,_,F1,z.size,by decide,3001,i,_,.inl rfl,by decide,z.one,z.size,_,z.ext10,?_⟩
  refine ⟨by omega,by unfold maxLen;omega,⟨q,hq,by rw [hb'];omega⟩,trivial,fun g2 cap2=>?_⟩
  refine ⟨n - (i+1),_,_,by omega,⟨i+1,k5,xs++[z],_,_,rfl,by omega,by omega,by omega,.some,?_,?_,?_,rfl,rfl⟩,⟨rfl,rfl,rfl,rfl,rfl,ag (au (by omega)),trivial⟩,⟨rfl,.inl (aC F5),trivial⟩,rfl⟩
  ·rw [e3] at c7;rw [e3,<- c7];exact hM.snoc c6.1 c6.2 (by omega) h0 (by omega) (by omega)
  ·rw [e3];omega
  ·rw [e3];omega
 ·have h:i=n:=by have:=ae h;omega
  subst h
  exact ⟨[(1000,Blk.row 25 2 (tb v k2)),(3001,Blk.own x 31 10 i (cat EC.A xs))],[],⟨xs,k2,known,by omega,by omega,hx,hM,hb,rfl⟩,⟨rfl,.inl rfl,trivial⟩,rfl⟩
theorem x8 (p:Nat):aZ 0 ((p:Nat):Int) dE.size=p*10:=by
 show aZ 0 ((p:Nat):Int) 10=p*10
 simp [aZ]
theorem mW {v:Value} {zs:List Int} {n:Int} (_hn : -9223372036854775808<=n/\n<=9223372036854775807) (w:World) (hv:Tp (aR Tryz.prog tt Tryz.f3.ntmps w [] []).toEnv v zs):Calls Tryz.prog 3 #[v,.int .i64 n] w fun e w'=>e=.returned (.bool true)/\Below w.heap.size w w':=by
 refine GH [25] af ah at3 [v,.int .i64 n] _ w rfl ?_
 have hv0:=hv
 obtain ⟨a,cap,rfl,-⟩:=hv0
 refine ⟨_,Ah a zs.length cap rfl,rfl,?_⟩
 generalize hvv:Value.slice a zs.length cap=v at *
 obtain ⟨r1,k1,a1,b1,⟨i1,rfl,c1⟩,O1⟩:=fY (n:=6) (by decide) zs 0 (by omega)
 obtain ⟨j,rfl⟩:∃ j:Nat,i1=(j:Nat):=⟨i1.toNat,by omega⟩
 have e1:IntKind.i64.wrap (1+((j:Nat):Int))=((j+1:Nat):Int):=by rw [i64_in (by omega)];omega
 have A1:=Ao (E:=(aR Tryz.prog tt Tryz.f3.ntmps w [] [] [25]).toEnv) rfl hv (n:=j+1) (k:=k1) (by omega) (by omega) (day:=9497) (by decide)
 rw [<- e1] at A1
 refine .inr (.inl ⟨_,_,_,O1 _ v 11 rfl hv,⟨rfl,trivial⟩,rfl,?_⟩)
 refine .inr (.inr (.inr ⟨[(1000,11)],[3001],[_,_,_],[_],_,A1,rfl,⟨rfl,trivial⟩,rfl,trivial,?_⟩))
 rintro x U ⟨xs,k2,b,a2,b2,hx,hM,hb,rfl⟩
 refine ⟨rfl,?_⟩
 rcases hx with ⟨-,h0⟩ | ⟨g,cp,rfl⟩
 ·omega
 have hxs:=hM.l
 have hin:=hM.in_
 refine ⟨_,fun w' _=>am Tryz.underlying26 w',?_⟩
 obtain ⟨r5,k5,a5,b5,⟨i5,rfl,c5⟩,O5⟩:=fY (n:=((j+1:Nat):Int)) (by omega) zs k2 (by omega)
 obtain ⟨p,rfl⟩:∃ p:Nat,i5=(p:Nat):=⟨i5.toNat,by omega⟩
 have hp:p < j+1:=by omega
 refine .inr (.inl ⟨_,_,_,O5 _ v 11 rfl hv,⟨rfl,trivial⟩,rfl,by omega,by omega,?_⟩)
 obtain ⟨r6,k6,a6,b6,⟨i6,rfl,c6⟩,O6⟩:=o9 (xs:=[n,0,-1,73048,73049,1000000000000001,-1000000000000001,2147483648]) (by simp) (by simp) zs k5 (by omega)
 refine .inl ⟨by decide,by decide,bd [n,0,-1,73048,73049,1000000000000001,-1000000000000001,2147483648],by kernel_rfl,rfl,.inr (.inl ⟨_,_,_,O6 _ v 11 25 (by decide) rfl hv,⟨rfl,rfl,trivial⟩,rfl,?_⟩)⟩
 refine ⟨fun f m=>∃ ys:List EC,ys.length=j+1/\(∀ y∈ys,y.In)/\f=[(6,SV.c (.slice (some ⟨g,0,none⟩) (j+1) cp))]/\m=[(3001,Blk.own (.slice (some ⟨g,0,none⟩) (j+1) cp) 31 10 (j+1) (cat EC.A ys))],?_,?_⟩
 rotate_left
 ·rintro f1 m1 ⟨ys,hys,hyin,rfl,rfl⟩
  have B1:=Fb (E:=(aR Tryz.prog tt Tryz.f3.ntmps w [] [] [25]).toEnv) rfl (x:=.slice (some ⟨g,0,none⟩) (j+1) cp) (xs:=ys) (nx:=j+1) (k:=60) (day:=9506) (by omega) (by omega) hyin
  exact .inr (.inr (.inl ⟨[(9640,3001)],[_,_,_,_],[_],_,[_],B1,rfl,⟨.inl rfl,trivial⟩,rfl,rfl,fun _=>.inl ⟨_,yy,rfl,trivial⟩,nf rfl⟩))
 obtain ⟨r7,k7,a7,b7,⟨i7,rfl,c7⟩,O7⟩:=fY (n:=10) (by decide) zs k6 (by omega)
 refine .inr (.inl ⟨_,_,_,O7 _ v 11 rfl hv,⟨rfl,trivial⟩,rfl,?_⟩)
 obtain ⟨y,hy⟩:∃ y,xs[p]? = some y:=⟨_,List.getElem?_eq_getElem (show p < xs.length by omega)⟩
 have yi:=hin y (List.mem_of_getElem? hy)
 have hsz:(cat EC.A xs).size=(j+1)*10:=by rw [Go.SX.cat_size EC.size,hxs]
 have hlt:∀ q,q < 10->aZ 0 ((p:Nat):Int) dE.size+q < (cat EC.A xs).size:=fun q hq=>by
  rw [x8,hsz]
  have:(p+1)*10<=(j+1)*10:=Nat.mul_le_mul_right 10 hp
  omega
 have hset:∀ (q:Nat) (u:Value) (y':EC),q < 10->y.A.setIfInBounds q u=y'.A->(cat EC.A xs).setIfInBounds (aZ 0 ((p:Nat):Int) dE.size+q) u=cat EC.A (xs.set p y'):=fun q u y' hq he=>by
  rw [x8];exact Dw EC.size hy hq he
 have hfin:∀ y':EC,y'.In->(xs.set p y').length=j+1/\∀ z∈xs.set p y',z.In:=fun y' hy'=>⟨by rw [List.length_set];exact hxs,fun z hz=>by
  rcases List.mem_or_eq_of_mem_set hz with h | h
  ·exact hin z h
  ·rw [h];exact hy'⟩
 refine ⟨fun h=>?_,fun h=>?_⟩
 ·obtain ⟨r8,k8,a8,b8,⟨i8,rfl,c8⟩,O8⟩:=o9 (xs:=[i6,1,2]) (by simp) (by simp) zs k7 (by omega)
  have S1:=hset 0 _ _ (by decide) (EC.s0 y i8)
  obtain ⟨d1,d2⟩:=hfin { y with kind:=i8 } ⟨yi.key,yi.ins,yi.cur⟩
  refine .inl ⟨by decide,by decide,bd [i6,1,2],by kernel_rfl,rfl,.inr (.inl ⟨_,_,_,O8 _ v 11 42 (by decide) rfl hv,⟨rfl,rfl,trivial⟩,rfl,3001,g,_,_,cp,_,_,_,rfl,rfl,hlt 0 (by decide),rfl,_,S1,_,_,⟨_,d1,d2,rfl,rfl⟩,⟨rfl,trivial⟩,⟨.inl rfl,trivial⟩,rfl⟩)⟩
 refine ⟨fun h=>?_,fun h=>?_⟩
 ·have S1:=hset 1 _ _ (by decide) (EC.s1 y [])
  obtain ⟨d1,d2⟩:=hfin { y with key:=[] } ⟨show (0:Nat)<=9223372036854775807 by decide,yi.ins,yi.cur⟩
  exact ⟨3001,g,_,_,cp,_,_,_,rfl,rfl,hlt 1 (by decide),rfl,_,S1,_,_,⟨_,d1,d2,rfl,rfl⟩,⟨rfl,trivial⟩,⟨.inl rfl,trivial⟩,rfl⟩
 refine ⟨fun h=>?_,fun h=>?_⟩
 ·have S1:=hset 2 _ _ (by decide) (EC.s2 y i6)
  obtain ⟨d1,d2⟩:=hfin { y with day:=i6 } ⟨yi.key,yi.ins,yi.cur⟩
  exact ⟨3001,g,_,_,cp,_,_,_,rfl,rfl,hlt 2 (by decide),rfl,_,S1,_,_,⟨_,d1,d2,rfl,rfl⟩,⟨rfl,trivial⟩,⟨.inl rfl,trivial⟩,rfl⟩
 refine ⟨fun h=>?_,fun h=>?_⟩
 ·have G2:(cat EC.A xs)[aZ 0 ((p:Nat):Int) dE.size+2]? = some (.int .i64 y.day):=by rw [x8,bN EC.size xs p y 2 hy (by decide)];exact y.g2
  obtain ⟨r8,k8,a8,b8,⟨i8,rfl,c8⟩,O8⟩:=o9 (xs:=[i6,IntKind.i64.wrap (y.day - 1)]) (by simp) (by simp) zs k7 (by omega)
  have S1:=hset 3 _ _ (by decide) (EC.s3 y i8)
  obtain ⟨d1,d2⟩:=hfin { y with settle:=i8 } ⟨yi.key,yi.ins,yi.cur⟩
  refine .inr ⟨3001,g,_,_,cp,_,_,_,rfl,rfl,_,G2,.inl ⟨by decide,by decide,bd [i6,IntKind.i64.wrap (y.day - 1)],by kernel_rfl,rfl,.inr (.inl ⟨_,_,_,O8 _ v 11 67 (by decide) rfl hv,⟨rfl,rfl,trivial⟩,rfl,3001,g,_,_,cp,_,_,_,rfl,rfl,hlt 3 (by decide),rfl,_,S1,_,_,⟨_,d1,d2,rfl,rfl⟩,⟨rfl,trivial⟩,⟨.inl rfl,trivial⟩,rfl⟩)⟩⟩
 refine ⟨fun h=>?_,fun h=>?_⟩
 ·obtain ⟨r8,k8,a8,b8,⟨l8,rfl,c8⟩,O8⟩:=qV (xs:=[[],[97,99,109,101],[71,79,76,68]]) (by simp) (by simp) zs k7 (by omega)
  have dl:l8.length<=9223372036854775807:=by
   simp at c8
   rcases c8 with rfl | rfl | rfl<;>decide
  have S1:=hset 4 _ _ (by decide) (EC.s4 y l8)
  obtain ⟨d1,d2⟩:=hfin { y with ins:=l8 } ⟨yi.key,dl,yi.cur⟩
  refine .inl ⟨by decide,by decide,jU [[],[97,99,109,101],[71,79,76,68]],by kernel_rfl,rfl,.inr (.inl ⟨_,_,_,O8 _ v 11 75 (by decide) rfl hv,⟨rfl,rfl,trivial⟩,rfl,3001,g,_,_,cp,_,_,_,rfl,rfl,hlt 4 (by decide),rfl,_,S1,_,_,⟨_,d1,d2,rfl,rfl⟩,⟨rfl,trivial⟩,⟨.inl rfl,trivial⟩,rfl⟩)⟩
 refine ⟨fun h=>?_,fun h=>?_⟩
 ·have S1:=hset 5 _ _ (by decide) (EC.s5 y i6)
  obtain ⟨d1,d2⟩:=hfin { y with qty:=i6 } ⟨yi.key,yi.ins,yi.cur⟩
  exact ⟨3001,g,_,_,cp,_,_,_,rfl,rfl,hlt 5 (by decide),rfl,_,S1,_,_,⟨_,d1,d2,rfl,rfl⟩,⟨rfl,trivial⟩,⟨.inl rfl,trivial⟩,rfl⟩
 refine ⟨fun h=>?_,fun h=>?_⟩
 ·have S1:=hset 6 _ _ (by decide) (EC.s6 y i6)
  obtain ⟨d1,d2⟩:=hfin { y with amt:=i6 } ⟨yi.key,yi.ins,yi.cur⟩
  exact ⟨3001,g,_,_,cp,_,_,_,rfl,rfl,hlt 6 (by decide),rfl,_,S1,_,_,⟨_,d1,d2,rfl,rfl⟩,⟨rfl,trivial⟩,⟨.inl rfl,trivial⟩,rfl⟩
 refine ⟨fun h=>?_,fun h=>?_⟩
 ·obtain ⟨r8,k8,a8,b8,⟨l8,rfl,c8⟩,O8⟩:=qV (xs:=[[],[117,115,100]]) (by simp) (by simp) zs k7 (by omega)
  have dl:l8.length<=9223372036854775807:=by
   simp at c8
   rcases c8 with rfl | rfl<;>decide
  have S1:=hset 7 _ _ (by decide) (EC.s7 y l8)
  obtain ⟨d1,d2⟩:=hfin { y with cur:=l8 } ⟨yi.key,yi.ins,dl⟩
  refine .inl ⟨by decide,by decide,jU [[],[117,115,100]],by kernel_rfl,rfl,.inr (.inl ⟨_,_,_,O8 _ v 11 95 (by decide) rfl hv,⟨rfl,rfl,trivial⟩,rfl,3001,g,_,_,cp,_,_,_,rfl,rfl,hlt 7 (by decide),rfl,_,S1,_,_,⟨_,d1,d2,rfl,rfl⟩,⟨rfl,trivial⟩,⟨.inl rfl,trivial⟩,rfl⟩)⟩
 refine ⟨fun h=>?_,fun h=>?_⟩
 ·have S1:=hset 8 _ _ (by decide) (EC.s8 y i6)
  obtain ⟨d1,d2⟩:=hfin { y with known:=i6 } ⟨yi.key,yi.ins,yi.cur⟩
  exact ⟨3001,g,_,_,cp,_,_,_,rfl,rfl,hlt 8 (by decide),rfl,_,S1,_,_,⟨_,d1,d2,rfl,rfl⟩,⟨rfl,trivial⟩,⟨.inl rfl,trivial⟩,rfl⟩
 ·have G2:(cat EC.A xs)[aZ 0 ((p:Nat):Int) dE.size+9]? = some (.bool y.void):=by rw [x8,bN EC.size xs p y 9 hy (by decide)];exact y.g9
  have S1:=hset 9 _ _ (by decide) (EC.s9 y (!y.void))
  obtain ⟨d1,d2⟩:=hfin { y with void:=!y.void } ⟨yi.key,yi.ins,yi.cur⟩
  exact .inr ⟨3001,g,_,_,cp,_,_,_,rfl,rfl,_,G2,3001,g,_,_,cp,_,_,_,rfl,rfl,hlt 9 (by decide),rfl,_,S1,_,_,⟨_,d1,d2,rfl,rfl⟩,⟨rfl,trivial⟩,⟨.inl rfl,trivial⟩,rfl⟩
end Go.Proofs.YtekfkdddadcalaaGreatDoor
