/- what a made action pays: plain law. what a fund has after ma; no condition. -/
import Derived.Test.YtekfkdddadcalaaGreatDoorPositionPlaysQ32
import Derived.Test.YtekfkdddadcalaaGreatDoorPositionPlaysQ21
open List (length_append length_map map_append map_cons map_nil mem_cons not_mem_nil)
set_option maxRecDepth 100000
set_option maxHeartbeats 4000000
namespace Go.Proofs.YtekfkdddadcalaaGreatDoor
open Go Go.RowKit Go.SX
structure MdA (a:AC):Prop where
 nd:a.kind≠2->1<=a.num/\a.num<=1000/\1<=a.den/\a.den<=1000000
 p:∃ u v:Int,a.cash=(mkQ u v).1/\0<=u/\u<=200000/\1<=v/\v<=1000000
 c:a.cur∈fP
def JR (i:Nat):Int:=if i=0 then 0 else if i=1 then 19000000 else 1000000000000000
def JS (i:Nat):Int:=if i=0 then 0 else if i=1 then 400000000000 else 410000000000000
structure BdS (i j:Nat) (g:Led):Prop where
 ok:LedOk g
 hq:∀ s,az g.h s<=2000*(j:Int)+JR i
 cb:∀ k,-(100000*(j:Int))<=az g.c k/\az g.c k<=100000*(j:Int)+JS i
 pb:∀ k,-(100000*(j:Int))<=az g.p k/\az g.p k<=100000*(j:Int)
 ck:∀ y∈g.c,y.1∈fP.map fun c=>(c,(0:Int))
theorem BdS.zero:BdS 0 0 .zero:=⟨.zero,(fun s=>by show (0:Int)<=_;unfold JR;simp),(fun k=>by show _<=(0:Int)/\(0:Int)<=_;unfold JS;simp),(fun k=>by show _<=(0:Int)/\(0:Int)<=_;simp),(fun y h=>by cases h)⟩
def js:List Bs:=[[101,49],[101,50],[101,51],[101,52],[101,53],[101,54],[112,49],[112,50],[112,51]]
structure MkB (D:Int) (x:EC):Prop where
 v:x.void=false
 d:0<=x.day/\D<=x.day+1/\x.day<=D+7
 s:x.day<=x.settle/\x.settle<=73048/\x.settle<=D+10
 a : -100000<=x.amt/\x.amt<=100000
 c:x.cur∈fP
 k:(x.kind=1/\x.ins∈eQ/\x.qty≠0/\-2000<=x.qty/\x.qty<=2000)\/(x.kind=2/\x.ins=[]/\x.qty=0)
def MkX (D:Int) (x:EC):Prop:=x=.nil x.key x.known\/MkB D x
theorem zw {c:Bs} (h:c∈fP):bH c=true:=by
 simp only [fP,mem_cons,not_mem_nil,or_false] at h
 rcases h with rfl | rfl | rfl<;>decide
theorem mv {c:Bs} (h:c∈eQ):bp c=true:=by
 simp only [eQ,mem_cons,not_mem_nil,or_false] at h
 rcases h with rfl | rfl | rfl | rfl<;>decide
theorem ql {n lo hi:Int} (h1:lo<=n) (h2:n<=hi):inB n lo hi=true:=by
 unfold inB;rw [decide_eq_true h1,decide_eq_true h2];rfl
theorem EC.beq_self0 (key:Bs) (known:Int):(EC.nil key known).beq (.nil key known)=true:=by
 simp [EC.beq,EC.nil]
theorem MkX.md {D:Int} {x:EC} (h:MkX D x) (h1:jg x=true):MdE x:=by
 rcases h with h | h
 ·have hv:x.void=true:=by rw [h];rfl
  have a0:x.amt=0:=by rw [h];rfl
  have q0:x.qty=0:=by rw [h];rfl
  refine ⟨?_,by omega,by omega,fun n=>absurd a0 n,fun n=>absurd q0 n⟩
  unfold aY
  rw [h1,hv,Bool.true_and,if_pos rfl]
  generalize x.key=a at h
  generalize x.known=b at h
  rw [h]
  exact EC.beq_self0 a b
 ·have hk:dO x=true:=by
    unfold dO
    rcases h.k with ⟨e,hi,h0,h2,h3⟩ | ⟨e,hi,h0⟩
    ·rw [if_pos e,mv hi,ql (by omega) (by omega),beq_eq_false_iff_ne.2 h0];rfl
    ·rw [if_neg (by omega),if_pos e,hi,h0];rfl
  have hb:dq x=true:=by
   unfold dq
   rw [ql h.d.1 h.s.1,decide_eq_true h.s.2.1,ql (n:=x.amt) (by have:=h.a;omega) (by have:=h.a;omega),zw h.c];rfl
  refine ⟨?_,h.a,?_,fun _=>h.c,fun hq=>?_⟩
  ·unfold aY
   rw [h1,h.v,if_neg Bool.false_ne_true,hb,hk];rfl
  ·rcases h.k with ⟨-,-,-,h2,h3⟩ | ⟨-,-,h0⟩<;>omega
  ·rcases h.k with ⟨-,hi,-⟩ | ⟨-,-,h0⟩
   ·exact hi
   ·exact absurd h0 hq
theorem jn {l:Bs} (h:bp l=true):l.length<=12:=by
 unfold bp at h
 simp only [Bool.and_eq_true,decide_eq_true_eq] at h
 exact h.2.2
theorem zl {x:EC} (h1:1<=x.key.length) (h2:x.key.length<=64) (h3:1<=x.known) (h4:x.known<=2147483647):jg x=true:=by
 unfold jg
 rw [ql (by omega) (by omega),ql h3 h4];rfl
theorem MkX.in_ {D:Int} {x:EC} (h:MkX D x) (hk:x.key.length<=64):x.In:=by
 rcases h with h | h
 ·have i0:x.ins=[]:=by rw [h];rfl
  have c0:x.cur=[]:=by rw [h];rfl
  exact ⟨by omega,by rw [i0];decide,by rw [c0];decide⟩
 ·refine ⟨by omega,?_,?_⟩
  ·rcases h.k with ⟨-,hi,-⟩ | ⟨-,hi,-⟩
   ·have:=jn (mv hi);omega
   ·rw [hi];decide
  ·have h3:=h.c
   simp only [fP,mem_cons,not_mem_nil,or_false] at h3
   rcases h3 with e | e | e<;>rw [e]<;>decide
theorem nP {k:Bs} (h:k∈js):k.length=2:=by
 simp only [js,mem_cons,not_mem_nil,or_false] at h
 rcases h with rfl | rfl | rfl | rfl | rfl | rfl | rfl | rfl | rfl<;>rfl
/-! ### a book that grows -/
theorem qb (l:List MK) (m:MK) (k:Int):ow (l++[m]) k=m.known:=by
 unfold ow;rw [List.getLast?_append];rfl
theorem H5 {x:EC} {k:Int} (h:jg x=true) (hk:k < x.known):bW k (mkE x)=true:=by
 unfold jg inB at h
 simp only [Bool.and_eq_true,decide_eq_true_eq] at h
 unfold bW mkE
 simp only [Bool.and_eq_true,decide_eq_true_eq]
 omega
theorem wE {x:EC} (h:aY x=true):jg x=true:=by
 unfold aY at h
 rw [Bool.and_eq_true] at h
 exact h.1
theorem xR {xs:List EC} (h:cT xs=0):xs.all aY=true/\xs.length<=4096/\dk 0 (xs.map mkE)=true:=by
 unfold cT at h
 split at h
 ·rename_i h1
  unfold dC at h
  rw [length_map] at h
  split at h
  ·cases h
  ·rename_i h2
   split at h
   ·rename_i h3;exact ⟨h1,by omega,h3⟩
   ·cases h
 ·cases h
theorem Gp {xs:List EC} (h1:xs.all aY=true) (h2:xs.length<=4096) (h3:dk 0 (xs.map mkE)=true):cT xs=0:=by
 unfold cT dC
 rw [if_pos h1,length_map,if_neg (by omega),if_pos h3]
theorem Bp {xs:List EC} {x:EC} (h:cT xs=0) (hl:xs.length < 4096) (hv:aY x=true) (hk:ow (xs.map mkE) 0 < x.known):cT (xs++[x])=0:=by
 obtain ⟨h1,-,h3⟩:=xR h
 refine Gp (by rw [List.all_append,h1];simp [hv]) (by rw [length_append];simp;omega) ?_
 rw [map_append,map_cons,map_nil,n4,h3,H5 (wE hv) hk];rfl
structure MkL (D:Int) (n:Nat) (b:Int) (xs:List EC):Prop where
 l:xs.length=n
 x:∀ x∈xs,MkX D x/\MdE x/\x.key∈js/\x.known<=b
 c:cT xs=0
 k:ow (xs.map mkE) 0<=b
theorem MkL.nil {D b:Int} (h:0<=b):MkL D 0 b []:=⟨rfl,(fun x hx=>by cases hx),rfl,h⟩
theorem MkL.snoc {D b:Int} {n:Nat} {xs:List EC} (h:MkL D n b xs) {x:EC} (hx:MkX D x) (hk:x.key∈js) (hb:b < x.known) (h0:0<=b) (hm:x.known<=2147483647) (hn:n < 4096):MkL D (n+1) x.known (xs++[x]):=by
 have l2:=nP hk
 have md:=hx.md (zl (by omega) (by omega) (by omega) hm)
 refine ⟨by rw [length_append,h.l];rfl,fun y hy=>?_,Bp h.c (by rw [h.l];exact hn) md.v (by have:=h.k;omega),by rw [map_append,map_cons,map_nil,qb];exact Int.le_refl _⟩
 rcases List.mem_append.1 hy with hy | hy
 ·obtain ⟨q1,q2,q3,q4⟩:=h.x y hy
  exact ⟨q1,q2,q3,by omega⟩
 ·have:y=x:=by simpa using hy
  rw [this];exact ⟨hx,md,hk,Int.le_refl _⟩
theorem MkL.in_ {D b:Int} {n:Nat} {xs:List EC} (h:MkL D n b xs):∀ x∈xs,x.In:=fun x hx=>by
 obtain ⟨q1,-,q3,-⟩:=h.x x hx
 exact q1.in_ (by have:=nP q3;omega)
theorem MkL.key {D b:Int} {n:Nat} {xs:List EC} (h:MkL D n b xs):∀ x∈xs,x.key.length=2:=fun x hx=>nP (h.x x hx).2.2.1
/-! ### the same of actions -/
def fG:List Bs:=[[115,49],[115,50],[100,49],[109,49]]
def MkA (D:Int) (a:AC):Prop:=a=.nil a.key a.known\/(a.void=false/\MdA a/\cv a=true/\bz a=true/\a.day<=D+7)
theorem rR {k:Bs} (h:k∈fG):k.length=2:=by
 simp only [fG,mem_cons,not_mem_nil,or_false] at h
 rcases h with rfl | rfl | rfl | rfl<;>rfl
theorem FQ {a:AC} (h1:1<=a.key.length) (h2:a.key.length<=64) (h3:1<=a.known) (h4:a.known<=2147483647):dZ a=true:=by
 unfold dZ
 rw [beq_eq_false_iff_ne.2 (by omega),decide_eq_false (by omega),decide_eq_false (by omega),decide_eq_false (by omega)];rfl
theorem H6 {a:AC} {k:Int} (h:dZ a=true) (hk:k < a.known):bW k (dG a)=true:=by
 unfold dZ at h
 simp only [Bool.and_eq_true,Bool.not_eq_true',beq_eq_false_iff_ne,decide_eq_false_iff_not] at h
 unfold bW dG
 simp only [Bool.and_eq_true,decide_eq_true_eq]
 omega
theorem MkA.ok {D:Int} {a:AC} (h:MkA D a) (h1:dZ a=true):bk a=true:=by
 unfold bk
 rw [h1,Bool.true_and]
 rcases h with h | ⟨h2,-,h3,h4,-⟩
 ·have hv:a.void=true:=by rw [h];rfl
  rw [hv,if_pos rfl]
  generalize a.key=b at h
  generalize a.known=c at h
  rw [h]
  simp [AC.beq,AC.nil,RQ.beq]
 ·rw [h2,if_neg Bool.false_ne_true,h3,h4];rfl
theorem xS {xs:List AC} (h:cZ xs=0):xs.all bk=true/\xs.length<=4096/\dk 0 (xs.map dG)=true:=by
 unfold cZ at h
 split at h
 ·rename_i h1
  unfold dC at h
  rw [length_map] at h
  split at h
  ·cases h
  ·rename_i h2
   split at h
   ·rename_i h3;exact ⟨h1,by omega,h3⟩
   ·cases h
 ·cases h
theorem Br {xs:List AC} {x:AC} (h:cZ xs=0) (hl:xs.length < 4096) (hv:bk x=true) (hd:dZ x=true) (hk:ow (xs.map dG) 0 < x.known):cZ (xs++[x])=0:=by
 obtain ⟨h1,-,h3⟩:=xS h
 unfold cZ dC
 rw [if_pos (by rw [List.all_append,h1];simp [hv]),length_map,if_neg (by rw [length_append];simp;omega),if_pos]
 rw [map_append,map_cons,map_nil,n4,h3,H6 hd hk];rfl
structure MkLA (D:Int) (n:Nat) (b:Int) (xs:List AC):Prop where
 l:xs.length=n
 x:∀ x∈xs,MkA D x/\x.key∈fG/\x.In
 c:cZ xs=0
 k:ow (xs.map dG) 0<=b
theorem MkLA.nil {D b:Int} (h:0<=b):MkLA D 0 b []:=⟨rfl,(fun x hx=>by cases hx),rfl,h⟩
theorem MkLA.snoc {D b:Int} {n:Nat} {xs:List AC} (h:MkLA D n b xs) {x:AC} (hx:MkA D x) (hk:x.key∈fG) (hi:x.In) (hb:b < x.known) (h0:0<=b) (hm:x.known<=2147483647) (hn:n < 4096):MkLA D (n+1) x.known (xs++[x]):=by
 have l2:=rR hk
 have hd:=FQ (a:=x) (by omega) (by omega) (by omega) hm
 refine ⟨by rw [length_append,h.l];rfl,fun y hy=>?_,Br h.c (by rw [h.l];exact hn) (hx.ok hd) hd (by have:=h.k;omega),by rw [map_append,map_cons,map_nil,qb];exact Int.le_refl _⟩
 rcases List.mem_append.1 hy with hy | hy
 ·exact h.x y hy
 ·have:y=x:=by simpa using hy
  rw [this];exact ⟨hx,hk,hi⟩
theorem C8 {l:Bs} (h:l∈eQ):¬ ([78,69,87,67,79]:Bs)=l:=by
 simp only [eQ,mem_cons,not_mem_nil,or_false] at h
 rcases h with rfl | rfl | rfl | rfl<;>decide
theorem HV {D kind num den i known:Int} {key ins into cur:Bs} {cash:RQ} (hD:0<=D/\D<=73048) (hi:0<=i/\i < 8) (hins:ins∈eQ) (hcur:cur∈fP) (hc:isPrice cash\/(kind≠2/\cash=.of 0 1)) (hk:(kind=2/\into=[]/\num=0/\den=0)\/(((kind=1/\into=[])\/(kind=3/\into=[78,69,87,67,79]))/\1<=num/\num<=1000/\1<=den/\den<=1000000)):MkA D ⟨kind,key,ins,into,min 73048 (IntKind.i64.wrap (D+i)),num,den,cash,cur,known,false⟩:=by
 have ew:IntKind.i64.wrap (D+i)=D+i:=i64_in (by omega)
 rw [ew]
 have hpay:eW cash=true:=by
  rcases hc with h | ⟨-,h⟩
  ·obtain ⟨n,d,-,-,-,-,-,-,h7,-⟩:=pK h;exact h7
  ·rw [h];decide
 refine .inr ⟨rfl,⟨?_,?_,hcur⟩,?_,?_,?_⟩
 ·intro hn
  rcases hk with ⟨h,-⟩ | ⟨-,h⟩
  ·exact absurd h hn
  ·exact ⟨h.1,h.2.1,h.2.2⟩
 ·rcases hc with h | ⟨-,h⟩
  ·obtain ⟨n,d,h1,h2,h3,h4,h5,-⟩:=pK h
   exact ⟨n,d,h1,by omega,h3,h4,h5⟩
  ·exact ⟨0,1,by rw [h];exact JE (Nx (by decide) (by decide)),by decide,by decide,by decide,by decide⟩
 ·unfold cv
  show (bp ins && (!decide (min 73048 (D+i) < 0) && (!decide (min 73048 (D+i) > 73048) && (eW cash && bH cur))))=true
  rw [mv hins,decide_eq_false (by omega),decide_eq_false (by omega),hpay,zw hcur];rfl
 ·unfold bz
  show (if kind=1 then decide (into=[]) && (de num && de den) else if kind=2 then decide (into=[]) && ((num == 0) && ((den == 0) && decide (sgn cash.p > 0))) else if kind=3 then bp into && (!decide (into=ins) && (de num && de den)) else false)=true
  have fac:∀ n:Int,1<=n->n<=1000000->de n=true:=fun n h1 h2=>by unfold de;rw [decide_eq_true h1,decide_eq_true h2];rfl
  rcases hk with ⟨h,h1,h2,h3⟩ | ⟨⟨h,h1⟩ | ⟨h,h1⟩,h2,h3,h4,h5⟩
  ·have hp:0 < cash.p:=by
     rcases hc with hc | ⟨hc,-⟩
     ·obtain ⟨n,d,-,-,-,-,-,-,-,-,h9⟩:=pK hc;exact h9
     ·exact absurd h hc
   have hs:sgn cash.p > 0:=by unfold sgn;rw [if_neg (by omega),if_neg (by omega)];decide
   rw [if_neg (by omega),if_pos h,h1,h2,h3,decide_eq_true hs];rfl
  ·rw [if_pos h,h1,fac num h2 (by omega),fac den h4 h5];rfl
  ·rw [if_neg (by omega),if_neg (by omega),if_pos h,h1,fac num h2 (by omega),fac den h4 h5,decide_eq_false (C8 hins)];rfl
 ·show min 73048 (D+i)<=D+7
  omega
/-! ### what the laws need of made books -/
theorem MkL.mono {D b c:Int} {n:Nat} {xs:List EC} (h:MkL D n b xs) (hc:b<=c):MkL D n c xs :=
 ⟨h.l,fun x hx=>⟨(h.x x hx).1,(h.x x hx).2.1,(h.x x hx).2.2.1,by have:=(h.x x hx).2.2.2;omega⟩,h.c,by have:=h.k;omega⟩
theorem MkLA.mono {D b c:Int} {n:Nat} {xs:List AC} (h:MkLA D n b xs) (hc:b<=c):MkLA D n c xs:=⟨h.l,h.x,h.c,by have:=h.k;omega⟩
theorem MkX.key {D:Int} {x:EC} (h:MkX D x) (k:Bs):MkX D { x with key:=k }:=by
 rcases h with h | h
 ·left;rw [h];rfl
 ·exact .inr ⟨h.v,h.d,h.s,h.a,h.c,h.k⟩
theorem MkX.live {D:Int} {x:EC} (h:MkX D x) (hv:x.void=false):MkB D x:=by
 rcases h with h | h
 ·rw [h] at hv;cases hv
 ·exact h
theorem MkB.of {D D':Int} {x y:EC} (h:MkB D x) (v:y.void=false) (d:0<=y.day/\D'<=y.day+1/\y.day<=D'+7) (s:y.day<=y.settle/\y.settle<=73048/\y.settle<=D'+10) (a : -100000<=y.amt/\y.amt<=100000) (e:y.kind=x.kind/\y.ins=x.ins/\y.cur=x.cur) (q:y.qty=x.qty\/(y.kind=1/\1<=y.qty/\y.qty<=2000)):MkB D' y:=by
 refine ⟨v,d,s,a,by rw [e.2.2];exact h.c,?_⟩
 rw [e.1,e.2.1]
 rcases q with q | ⟨q1,q2,q3⟩
 ·rw [q];exact h.k
 ·rw [e.1] at q1
  rcases h.k with ⟨k1,k2,-⟩ | ⟨k1,-⟩
  ·exact .inl ⟨k1,k2,by omega,by omega,q3⟩
  ·omega
theorem MkA.key {D:Int} {a:AC} (h:MkA D a) (k:Bs):MkA D { a with key:=k }:=by
 rcases h with h | ⟨h1,h2,h3,h4,h5⟩
 ·left;rw [h];rfl
 ·exact .inr ⟨h1,⟨h2.nd,h2.p,h2.c⟩,h3,h4,h5⟩
theorem MkA.day {D:Int} {a:AC} (h:MkA D a) (hv:a.void=false) {d:Int} (hd:0<=d/\d<=73048):MkA d { a with day:=d }:=by
 rcases h with h | ⟨h1,h2,h3,h4,h5⟩
 ·rw [h] at hv;cases hv
 ·refine .inr ⟨h1,⟨h2.nd,h2.p,h2.c⟩,?_,h4,by show d<=d+7;omega⟩
  unfold cv at h3 ⊢
  simp only [Bool.and_eq_true,Bool.not_eq_true',decide_eq_false_iff_not] at h3 ⊢
  exact ⟨h3.1,by omega,by omega,h3.2.2.2⟩
structure OrdL (n:Nat) (xs:List EC):Prop where
 l:xs.length=n
 x:∀ (j:Nat) x,xs[j]? = some x->MkB 9497 x/\0<=x.qty/\x.known=j+1/\x.key.length=1
theorem OrdL.md {n:Nat} {xs:List EC} (h:OrdL n xs) (hn:n<=7):∀ x∈xs,(MdE x/\0<=x.qty)/\(x.void=false/\x.known<=99)/\x.In:=fun x hx=>by
 obtain ⟨j,hj⟩:=List.mem_iff_getElem?.1 hx
 obtain ⟨h1,h2,h3,h4⟩:=h.x j x hj
 have hl:=(List.getElem?_eq_some_iff.1 hj).1
 have hl2:=h.l
 exact ⟨⟨MkX.md (.inr h1) (zl (by omega) (by omega) (by omega) (by omega)),h2⟩,⟨h1.v,by omega⟩,MkX.in_ (.inr h1) (by omega)⟩
def tU:List Bs:=[[69,85,82],[71,66,80],[85,83,68]]
structure PfM (i j k:Nat) (d:Int) (g:Led):Prop where
 h:SrtA ltB g.h
 hx:∀ x∈g.h,x.1∈eQ.take i/\1<=x.2/\x.2<=1000000
 hl:g.h.length<=i
 c:SrtA bh g.c
 cx:∀ x∈g.c,x.1.1∈tU.take j/\x.1.2=0/\x.2≠0/\-1000000<=x.2/\x.2<=1000000
 cl:g.c.length<=j
 p:SrtA bh g.p
 px:∀ x∈g.p,x.1.1∈tU.take k/\x.1.2=d/\x.2≠0/\-1000000<=x.2/\x.2<=1000000
 pl:g.p.length<=k
theorem PfM.zero {d:Int}:PfM 0 0 0 d .zero:=⟨.nil,(fun x hx=>by cases hx),Nat.le_refl _,.nil,(fun x hx=>by cases hx),Nat.le_refl _,.nil,(fun x hx=>by cases hx),Nat.le_refl _⟩
theorem pz {l:List Bs} {i j:Nat} (h:i<=j) {x:Bs} (hx:x∈l.take i):x∈l.take j:=by
 rw [<- Nat.min_eq_left h,<- List.take_take] at hx
 exact List.mem_of_mem_take hx
theorem PfM.mono {i j k i' j' k':Nat} {d:Int} {g:Led} (h:PfM i j k d g) (hi:i<=i') (hj:j<=j') (hk:k<=k'):PfM i' j' k' d g :=
 ⟨h.h,fun x hx=>⟨pz hi (h.hx x hx).1,(h.hx x hx).2⟩,Nat.le_trans h.hl hi,h.c,fun x hx=>⟨pz hj (h.cx x hx).1,(h.cx x hx).2⟩,Nat.le_trans h.cl hj,h.p,fun x hx=>⟨pz hk (h.px x hx).1,(h.px x hx).2⟩,Nat.le_trans h.pl hk⟩
theorem wg {c:Bs} {j:Nat} (h:c∈tU.take j):bH c=true/\c.length=3:=by
 have h:=List.mem_of_mem_take h
 simp only [tU,mem_cons,not_mem_nil,or_false] at h
 rcases h with rfl | rfl | rfl<;>exact ⟨by decide,rfl⟩
theorem PfM.own {i j k:Nat} {d:Int} {g:Led} (h:PfM i j k d g) (hi:i<=100/\j<=100/\k<=100):OwnP g:=by
 have h1:=h.hl
 have h2:=h.cl
 have h3:=h.pl
 refine ⟨by omega,fun x hx=>?_,fun x hx=>?_,fun x hx=>?_⟩
 ·have:=jn (mv (List.mem_of_mem_take (h.hx x hx).1));omega
 ·rw [(wg (h.cx x hx).1).2];decide
 ·rw [(wg (h.px x hx).1).2];decide
theorem zX {g:Led} (h:ct g=true) (b:g.h.length<=6000000000000/\g.c.length<=6000000000000/\g.p.length<=6000000000000):OwnP g:=by
 unfold ct at h
 simp only [Bool.and_eq_true] at h
 obtain ⟨-,h1,h2,h3,-⟩:=h
 have at_:∀ {p:Nat->Bool} {n i:Nat},cR p n=true->i < n->p i=true:=by
  intro p n i hp hi
  unfold cR at hp
  exact List.all_eq_true.1 hp i (List.mem_range.2 hi)
 have cl:∀ {c:Bs},bH c=true->c.length<=9223372036854775807:=fun {c} hc=>by
  unfold bH at hc
  simp only [Bool.and_eq_true,decide_eq_true_eq] at hc
  omega
 refine ⟨b,fun x hx=>?_,fun x hx=>?_,fun x hx=>?_⟩
 ·obtain ⟨i,hi⟩:=List.getElem?_of_mem hx
  have:=at_ h1 (List.getElem?_eq_some_iff.1 hi).1
  unfold okH at this
  rw [hi] at this
  simp only [Bool.and_eq_true] at this
  have:=jn this.1
  omega
 ·obtain ⟨i,hi⟩:=List.getElem?_of_mem hx
  have:=at_ h2 (List.getElem?_eq_some_iff.1 hi).1
  unfold okK at this
  rw [hi] at this
  simp only [Bool.and_eq_true] at this
  exact cl this.1
 ·obtain ⟨i,hi⟩:=List.getElem?_of_mem hx
  have:=at_ h3 (List.getElem?_eq_some_iff.1 hi).1
  unfold okK at this
  rw [hi] at this
  simp only [Bool.and_eq_true] at this
  exact cl this.1
end Go.Proofs.YtekfkdddadcalaaGreatDoor
