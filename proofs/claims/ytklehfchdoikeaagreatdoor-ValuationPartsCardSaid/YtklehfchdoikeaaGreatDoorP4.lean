/- An abstract walk over functions: states, regions in any orde; no condition. -/
import Derived.Below
import Derived.Deep.LoopGhost
import Derived.Deep.MidRow
set_option maxRecDepth 100000
set_option maxHeartbeats 4000000
namespace Go.SX
open Go Go.RowKit
theorem af {p : Prop} [i : Decidable p] (h : decide p = true) : p := of_decide_eq_true h
theorem ag {p : Prop} [i : Decidable p] (h : decide p = false) : ¬ p := of_decide_eq_false h

abbrev Key:=Nat
abbrev SV:=Value ⊕ ((Key×Nat) ⊕ ((Key×Nat×Nat×Nat) ⊕ ((FuncId×List Key) ⊕ Unit)))
abbrev SV.c (v:Value):SV:=.inl v
abbrev SV.ptr (d:Key) (off:Nat):SV:=.inr (.inl (d,off))
abbrev SV.sl (d:Key) (off len cap:Nat):SV:=.inr (.inr (.inl (d,off,len,cap)))
abbrev SV.clo (f:FuncId) (ds:List Key):SV:=.inr (.inr (.inr (.inl (f,ds))))
abbrev SV.bad:SV:=.inr (.inr (.inr (.inr ())))
abbrev Rho:=Key->Option Nat
def SV.rel (ρ:Rho):SV->Value->Prop
 | .inl v,x=>x=v
 | .inr (.inl (d,off)),x=>∃ b,ρ d=some b/\x=.pointer (some ⟨b,off,none⟩)
 | .inr (.inr (.inl (d,off,len,cap))),x=>∃ b,ρ d=some b/\x=.slice (some ⟨b,off,none⟩) len cap
 | .inr (.inr (.inr (.inl (f,ds)))),x=>∃ bs:List Nat,ds.map ρ=bs.map some/\x=.func (.func f) #[] (bs.map fun b=>Value.pointer (some ⟨b,0,none⟩)).toArray
 | .inr (.inr (.inr (.inr _))),_=>True
def Ext (ρ ρ':Rho):Prop:=∀ d k,ρ d=some k->ρ' d=some k
theorem Ext.refl (ρ:Rho):Ext ρ ρ:=fun _ _ h=>h
theorem Ext.trans {a b c:Rho} (h:Ext a b) (k:Ext b c):Ext a c:=fun d n hd=>k d n (h d n hd)
theorem Cb {ρ ρ':Rho} (h:Ext ρ ρ'):∀ (ds:List Key) (bs:List Nat),ds.map ρ=bs.map some->ds.map ρ'=bs.map some
 | [],[],_=>rfl
 | [],b :: bs,e=>by simp at e
 | d :: ds,[],e=>by simp at e
 | d :: ds,b :: bs,e=>by
  simp only [List.map_cons,List.cons.injEq] at e ⊢
  exact ⟨h d b e.1,Cb h ds bs e.2⟩
theorem SV.rel_ext {ρ ρ':Rho} (h:Ext ρ ρ'):∀ {v:SV} {x:Value},SV.rel ρ v x->SV.rel ρ' v x
 | .inl _,_,e=>e
 | .inr (.inl _),_,⟨b,hb,e⟩=>⟨b,h _ _ hb,e⟩
 | .inr (.inr (.inl _)),_,⟨b,hb,e⟩=>⟨b,h _ _ hb,e⟩
 | .inr (.inr (.inr (.inl _))),_,⟨bs,hb,e⟩=>⟨bs,Cb h _ _ hb,e⟩
 | .inr (.inr (.inr (.inr _))),_,_=>trivial
abbrev Blk:=(TypeId×Nat×Array Value) ⊕ ((TypeId×SV) ⊕ ((Value×TypeId×Nat×Nat×Array Value) ⊕ (Nat×(Obj->Prop))))
abbrev Blk.row (ty:TypeId) (n:Nat) (A:Array Value):Blk:=.inl (ty,n,A)
abbrev Blk.one (ty:TypeId) (v:SV):Blk:=.inr (.inl (ty,v))
abbrev Blk.own (v:Value) (e:TypeId) (sz n:Nat) (A:Array Value):Blk:=.inr (.inr (.inl (v,e,sz,n,A)))
abbrev Blk.res (b:Nat) (R:Obj->Prop):Blk:=.inr (.inr (.inr (b,R)))
def Blk.rel (ρ:Rho):Blk->Obj->Prop
 | .inl (ty,n,A),o=>A.size=n/\o=.cells A ty (0,0)
 | .inr (.inl (ty,v)),o=>∃ x,SV.rel ρ v x/\o=.cells #[x] ty (0,0)
 | .inr (.inr _),_=>False
theorem Blk.rel_ext {ρ ρ':Rho} (h:Ext ρ ρ'):∀ {B:Blk} {o:Obj},Blk.rel ρ B o->Blk.rel ρ' B o
 | .inl _,_,e=>e
 | .inr (.inl _),_,⟨x,hx,e⟩=>⟨x,SV.rel_ext h hx,e⟩
 | .inr (.inr _),_,e=>e
def Blk.tied:Blk->Bool
 | .inl _=>true
 | .inr (.inl _)=>true
 | .inr (.inr _)=>false
def Blk.num:Blk->Option Nat
 | .inr (.inr (.inl (v,_)))=>v.ownBlock
 | .inr (.inr (.inr (b,_)))=>some b
 | _=>none
def Blk.at (w:World):Blk->Prop
 | .inr (.inr (.inl (v,e,sz,n,A)))=>w.ownsRow 0 e sz v n A.toList
 | .inr (.inr (.inr (b,R)))=>∃ o,w.heap[b]? = some o/\R o
 | _=>False
theorem Blk.at_lt {w:World}:∀ {B:Blk} {b:Nat},B.at w->B.num=some b->b < w.heap.size
 | .inr (.inr (.inl (v,e,sz,n,A))),b,h,hb=>(World.ownsRow.lt h b hb).2
 | .inr (.inr (.inr (b,R))),b',⟨o,h,_⟩,hb=>by
  simp only [Blk.num,Option.some.injEq] at hb;subst hb
  exact (Array.getElem?_eq_some_iff.1 h).1
theorem Blk.at_same {w w':World}:∀ {B:Blk},(∀ b,B.num=some b->w'.heap[b]? = w.heap[b]?)->B.at w->B.at w'
 | .inr (.inr (.inl (v,e,sz,n,A))),hs,h=>by
  refine ⟨h.1,?_⟩
  rcases h.2 with h2 | ⟨g,cap,cur,hv,h3,h4,h5⟩
  ·exact .inl h2
  ·exact .inr ⟨g,cap,cur,hv,h3,by rw [hs g (by show Value.ownBlock v=some g;rw [hv];rfl)];exact h4,h5⟩
 | .inr (.inr (.inr (b,R))),hs,⟨o,h,hr⟩=>⟨o,by rw [hs b rfl];exact h,hr⟩
 | .inl _,_,h=>h
 | .inr (.inl _),_,h=>h
theorem Blk.num_none {B:Blk} (h:B.tied=true):B.num=none:=by
 match B,h with
 | .inl _,_=>rfl
 | .inr (.inl _),_=>rfl
abbrev Frm:=Tmp->SV
abbrev Mem:=Key->Option Blk
def Frm.put (f:Frm) (d:Option Tmp) (v:SV):Frm:=match d with
 | some d=>fun t=>if t=d then v else f t
 | none=>f
def lk (U:List (Key×Blk)) (d:Key):Option Blk:=match U with
 | []=>none
 | (k,B) :: r=>if k=d then some B else lk r d
def aS (m:Mem) (U:List (Key×Blk)):Mem:=fun d=>match lk U d with
 | some B=>some B
 | none=>m d
structure Env where
 P:Program
 w0:World
 X:List Nat
 n:Nat
 /-- the keys of blocks that came in, with their numbers -/
 pk:List (Key×Nat)
structure Fr (E:Env) (ρ:Rho) (f:Frm) (a:Act):Prop where
 defers:a.defers=[]
 size:a.tmps.size=E.n
 rel:∀ t,SV.rel ρ (f t) (a.tmps.getD t undef)
structure Wd (E:Env) (ρ:Rho) (m:Mem) (w:World):Prop where
 os:w.os=E.w0.os
 tape:w.tape=E.w0.tape
 output:w.output=E.w0.output
 size:E.w0.heap.size<=w.heap.size
 old:∀ k,k < E.w0.heap.size->k∉E.X->w.heap[k]? = E.w0.heap[k]?
 blk:∀ d B,m d=some B->B.tied=true->∃ k o,ρ d=some k/\(E.w0.heap.size<=k\/k∈E.X)/\w.heap[k]? = some o/\Blk.rel ρ B o
 dom:∀ d,m d=none->ρ d=none
 loose:∀ d B,m d=some B->B.tied=false->ρ d=none/\B.at w
 sep:∀ d B b,m d=some B->B.num=some b->(E.w0.heap.size<=b\/b∈E.X)/\(∀ e,ρ e≠some b)/\∀ e B',m e=some B'->B'.num=some b->e=d
 inj:∀ d e k,ρ d=some k->ρ e=some k->d=e
 par:∀ d k B,(d,k)∈E.pk->m d=some B->B.tied=true->ρ d=some k
theorem Wd.drew {E:Env} {ρ:Rho} {m:Mem} {w:World} (h:Wd E ρ m w):Wd E ρ m { w with drawn:=w.drawn+1 }:=⟨h.os,h.tape,h.output,h.size,h.old,h.blk,h.dom,h.loose,h.sep,h.inj,h.par⟩
theorem Wd.congr {E:Env} {ρ:Rho} {m m':Mem} {w:World} (h:Wd E ρ m w) (e:∀ d,m' d=m d):Wd E ρ m' w:=by
 have:m'=m:=funext e
 rw [this];exact h
theorem Fr.congr {E:Env} {ρ:Rho} {f g:Frm} {a:Act} (h:Fr E ρ f a) (e:∀ t,g t=f t):Fr E ρ g a:=by
 have:g=f:=funext e
 rw [this];exact h
theorem Fr.ext {E:Env} {ρ ρ':Rho} {f:Frm} {a:Act} (h:Fr E ρ f a) (e:Ext ρ ρ'):Fr E ρ' f a:=⟨h.defers,h.size,fun t=>SV.rel_ext e (h.rel t)⟩
theorem Fr.put {E:Env} {ρ:Rho} {f:Frm} {a:Act} (h:Fr E ρ f a) {d:Option Tmp} (hd:∀ t,d=some t->t < E.n) {v:SV} {x:Value} (hv:SV.rel ρ v x):Fr E ρ (f.put d v) (a.put d x):=by
 cases d with
 | none=>exact h
 | some d =>
  have hdn:=hd d rfl
  refine ⟨h.defers,by simp [Act.put,h.size],fun t=>?_⟩
  by_cases e:t=d
  ·subst e
   simp only [Frm.put,if_true,Act.put]
   rw [Array.getD_eq_getD_getElem?,Array.getElem?_setIfInBounds_self_of_lt (by rw [h.size];exact hdn)]
   exact hv
  ·simp only [Frm.put,if_neg e,Act.put]
   rw [Array.getD_eq_getD_getElem?,Array.getElem?_setIfInBounds_ne (fun e2=>e e2.symm),<- Array.getD_eq_getD_getElem?]
   exact h.rel t
def U7 (E:Env) (o:Oper) (f:Frm) (m:Mem) (v:SV) (U:List (Key×Blk)):Prop :=
 ∀ ρ a w,Fr E ρ f a->Wd E ρ m w->∀ (K:Act->World->Prop) (Q:Exit->Act->World->Prop),
  (∀ ρ' x w',Ext ρ ρ'->SV.rel ρ' v x->Wd E ρ' (aS m U) w'->K (a.put o.dst x) w')->o.wp E.P a w K Q
def gm (o:Oper):List Tmp:=o.op.operands.toList.filterMap fun | .tmp t=>some t | _=>none
def Out (E:Env) (o:Oper) (f:Frm) (m:Mem) (R:List Key) (v:SV) (U:List (Key×Blk)):Prop :=
 ∀ f' m',(∀ t,t∈gm o->f' t=f t)->(∀ d,d∈R->m' d=m d)->U7 E o f' m' v U
structure Ent where
 dst:Option Tmp
 v:SV
 R:List Key
 U:List (Key×Blk)
def rA (ops:Array Oper) (j:Nat):Option Tmp:=(ops[j]?).bind (·.dst)
def StepOk (E:Env) (ops:Array Oper) (o:Oper) (f:Frm) (m:Mem) (e:Ent):Prop :=
 ((o.guard=none\/∃ j b g,o.guard=some (j,b)/\rA ops j=some g/\g < E.n/\f g=SV.c (.bool b))/\(∀ d B,lk e.U d=some B->d∈e.R)/\Out E o f m e.R e.v e.U) \/
 (∃ j b c g,o.guard=some (j,b)/\rA ops j=some g/\g < E.n/\f g=SV.c c/\c≠.bool b/\e.v=SV.c undef/\e.R=[]/\e.U=[])
theorem iu {o:Oper} {y:Nat->Option Bool} (hg:o.guard=none):Region.wanted o y=true:=by simp [Region.wanted,hg]
theorem jp {E:Env} {ρ:Rho} {f:Frm} {a:Act} {ops:Array Oper} (h:Fr E ρ f a) {j:Nat} {g:Tmp} {b:Bool} (hgd:rA ops j=some g) (hgn:g < E.n) (hb:f g=SV.c (.bool b)):yielded ops a.tmps j=some b:=by
 have h1:=h.rel g
 rw [hb] at h1
 simp only [SV.rel] at h1
 have h2:a.tmps[g]? = some (.bool b):=by
  rw [Array.getD_eq_getD_getElem?] at h1
  have hs:g < a.tmps.size:=by rw [h.size];exact hgn
  rw [Array.getElem?_eq_getElem hs] at h1 ⊢
  simpa using h1
 unfold rA at hgd
 unfold yielded
 rw [hgd]
 simp [h2]
theorem re {E:Env} {ρ:Rho} {f:Frm} {a:Act} {ops:Array Oper} (h:Fr E ρ f a) {o:Oper} {j:Nat} {g:Tmp} {b:Bool} {c:Value} (hg:o.guard=some (j,b)) (hgd:rA ops j=some g) (hgn:g < E.n) (hb:f g=SV.c c) (hne:c≠.bool b):Region.wanted o (yielded ops a.tmps)=false:=by
 have h1:=h.rel g
 rw [hb] at h1
 simp only [SV.rel] at h1
 have h2:a.tmps[g]? = some c:=by
  rw [Array.getD_eq_getD_getElem?] at h1
  have hs:g < a.tmps.size:=by rw [h.size];exact hgn
  rw [Array.getElem?_eq_getElem hs] at h1 ⊢
  simpa using h1
 have h3:yielded ops a.tmps j≠some b:=by
  unfold rA at hgd
  unfold yielded
  rw [hgd]
  simp only [Option.bind_some,h2]
  split
  ·rename_i b' hb'
   intro e
   simp only [Option.some.injEq] at hb' e
   exact hne (by rw [hb',e])
  ·simp
 simp only [Region.wanted,hg]
 simpa using h3
theorem fJ (m:Mem):aS m []=m:=rfl

theorem Oper.wp_step {E:Env} {o:Oper} {f:Frm} {m:Mem} {R:List Key} {v:SV} {U:List (Key×Blk)} (ho:Out E o f m R v U) {ρ:Rho} {a:Act} {w:World} {f':Frm} {m':Mem} (hf:∀ t,t∈gm o->f' t=f t) (hm:∀ d,d∈R->m' d=m d)
    (hd:∀ t,o.dst=some t->t < E.n) (h1:Fr E ρ f' a) (h2:Wd E ρ m' w) {K:Act->World->Prop} {Q:Exit->Act->World->Prop} (hK:∀ ρ' a' w',Ext ρ ρ'->Fr E ρ' (f'.put o.dst v) a'->Wd E ρ' (aS m' U) w'->K a' w'):o.wp E.P a w K Q :=
 ho f' m' hf hm ρ a w h1 h2 K Q fun ρ' _x w' he hv hw=>hK ρ' _ w' he ((h1.ext he).put hd hv) hw

abbrev Done:=Nat->Bool
def frD (D:Done):Nat->List Ent->Frm->Frm
 | _,[],f=>f
 | i,e :: r,f=>frD D (i+1) r (if D i then f.put e.dst e.v else f)
def mD (D:Done):Nat->List Ent->Mem->Mem
 | _,[],m=>m
 | i,e :: r,m=>mD D (i+1) r (if D i then aS m e.U else m)
theorem Gj {f:Frm} {d:Option Tmp} {v:SV} {t:Tmp} (h:d≠some t):f.put d v t=f t:=by
 cases d with
 | none=>rfl
 | some d=>simp only [Frm.put];rw [if_neg (fun e=>h (by rw [e]))]
theorem Dv {f g:Frm} {d:Option Tmp} {v:SV} {t:Tmp} (h:f t=g t):f.put d v t=g.put d v t:=by
 cases d with
 | none=>exact h
 | some d=>simp only [Frm.put];rw [h]
theorem By {m:Mem} {U:List (Key×Blk)} {d:Key} (h:lk U d=none):aS m U d=m d:=by simp [aS,h]
theorem zG {m m':Mem} {U:List (Key×Blk)} {d:Key} (h:m d=m' d):aS m U d=aS m' U d:=by simp only [aS,h]
theorem fw (t:Tmp):∀ (L:List Ent) (i:Nat) (D D':Done) (f g:Frm),(∀ k e,L[k]? = some e->e.dst=some t->D (i+k)=D' (i+k))->f t=g t->frD D i L f t=frD D' i L g t
 | [],_,_,_,_,_,_,h=>h
 | e :: r,i,D,D',f,g,hw,h=>by
  simp only [frD]
  refine fw t r (i+1) D D' _ _ (fun k e' hk he=>by have:=hw (k+1) e' (by simpa using hk) he;simpa [Nat.add_assoc,Nat.add_comm 1 k] using this) ?_
  by_cases hd:e.dst=some t
  ·have:=hw 0 e rfl hd
   simp only [Nat.add_zero] at this
   rw [this]
   cases D' i
   ·simpa using h
   ·simpa using Dv h
  ·cases D i<;>cases D' i<;>simp [Gj hd,h]
theorem g9 (d:Key):∀ (L:List Ent) (i:Nat) (D D':Done) (f g:Mem),(∀ k e,L[k]? = some e->lk e.U d≠none->D (i+k)=D' (i+k))->f d=g d->mD D i L f d=mD D' i L g d
 | [],_,_,_,_,_,_,h=>h
 | e :: r,i,D,D',f,g,hw,h=>by
  simp only [mD]
  refine g9 d r (i+1) D D' _ _ (fun k e' hk he=>by have:=hw (k+1) e' (by simpa using hk) he;simpa [Nat.add_assoc,Nat.add_comm 1 k] using this) ?_
  by_cases hd:lk e.U d=none
  ·cases D i<;>cases D' i<;>simp [By hd,h]
  ·have:=hw 0 e rfl hd
   simp only [Nat.add_zero] at this
   rw [this]
   cases D' i
   ·simpa using h
   ·simpa using zG h
theorem yD (t:Tmp):∀ (L:List Ent) (i j:Nat) (D:Done) (f:Frm) (e:Ent),L[j]? = some e->e.dst=some t->D (i+j)=true->(∀ k e',L[k]? = some e'->e'.dst=some t->D (i+k)=true->k<=j)->frD D i L f t=e.v
 | [],_,_,_,_,_,h,_,_,_=>by simp at h
 | e0 :: r,i,0,D,f,e,h,he,hD,hl=>by
  simp only [List.getElem?_cons_zero,Option.some.injEq] at h
  subst h
  simp only [Nat.add_zero] at hD
  simp only [frD,hD,if_true]
  have:frD D (i+1) r (f.put e0.dst e0.v) t=frD (fun _=>false) (i+1) r (f.put e0.dst e0.v) t:=by
   refine fw t r (i+1) _ _ _ _ (fun k e' hk he'=>?_) rfl
   have:=hl (k+1) e' (by simpa using hk) he'
   rw [show i+1+k=i+(k+1) by omega]
   cases hb:D (i+(k+1))
   ·rfl
   ·exact absurd (this hb) (by omega)
  rw [this]
  have h2:∀ (r:List Ent) (i:Nat) (f:Frm),frD (fun _=>false) i r f=f:=by
   intro r;induction r with
   | nil=>intro i f;rfl
   | cons e r ih=>intro i f;simp only [frD,Bool.false_eq_true,if_false];exact ih _ _
  rw [h2,he];simp [Frm.put]
 | e0 :: r,i,j+1,D,f,e,h,he,hD,hl=>by
  simp only [frD]
  refine yD t r (i+1) j D _ e (by simpa using h) he (by rw [show i+1+j=i+(j+1) by omega];exact hD) (fun k e' hk he' hDk=>?_)
  have:=hl (k+1) e' (by simpa using hk) he' (by rw [show i+(k+1)=i+1+k by omega];exact hDk)
  omega
theorem Cd (d:Key):∀ (L:List Ent) (i j:Nat) (D:Done) (f:Mem) (e:Ent) (B:Blk),L[j]? = some e->lk e.U d=some B->D (i+j)=true->(∀ k e',L[k]? = some e'->lk e'.U d≠none->D (i+k)=true->k<=j)->mD D i L f d=some B
 | [],_,_,_,_,_,_,h,_,_,_=>by simp at h
 | e0 :: r,i,0,D,f,e,B,h,he,hD,hl=>by
  simp only [List.getElem?_cons_zero,Option.some.injEq] at h
  subst h
  simp only [Nat.add_zero] at hD
  simp only [mD,hD,if_true]
  have:mD D (i+1) r (aS f e0.U) d=mD (fun _=>false) (i+1) r (aS f e0.U) d:=by
   refine g9 d r (i+1) _ _ _ _ (fun k e' hk he'=>?_) rfl
   have:=hl (k+1) e' (by simpa using hk) he'
   rw [show i+1+k=i+(k+1) by omega]
   cases hb:D (i+(k+1))
   ·rfl
   ·exact absurd (this hb) (by omega)
  rw [this]
  have h2:∀ (r:List Ent) (i:Nat) (f:Mem),mD (fun _=>false) i r f=f:=by
   intro r;induction r with
   | nil=>intro i f;rfl
   | cons e r ih=>intro i f;simp only [mD,Bool.false_eq_true,if_false];exact ih _ _
  rw [h2];simp [aS,he]
 | e0 :: r,i,j+1,D,f,e,B,h,he,hD,hl=>by
  simp only [mD]
  refine Cd d r (i+1) j D _ e B (by simpa using h) he (by rw [show i+1+j=i+(j+1) by omega];exact hD) (fun k e' hk he' hDk=>?_)
  have:=hl (k+1) e' (by simpa using hk) he' (by rw [show i+(k+1)=i+1+k by omega];exact hDk)
  omega

/-! ### what comes before what -/
def dv (o:Oper):List Nat:=(o.after.toList.filter (Region.binds .any)).map (·.on)
def sU (acc:List Nat):List Nat->Nat
 | []=>0
 | e :: r=>2 ^ e ||| acc.getD e 0 ||| sU acc r
def zo:List Oper->List Nat->List Nat
 | [],acc=>acc
 | o :: r,acc=>zo r (acc++[sU acc (dv o)])
def La (b:List Nat) (i j:Nat):Bool:=(b.getD j 0).testBit i
theorem x8 {acc:List Nat}:∀ {es:List Nat} {k:Nat},(sU acc es).testBit k=true->∃ e,e∈es/\(k=e\/(acc.getD e 0).testBit k=true)
 | [],k,h=>by simp [sU] at h
 | e :: r,k,h=>by
  simp only [sU,Nat.testBit_or,Bool.or_eq_true,Nat.testBit_two_pow,decide_eq_true_eq] at h
  rcases h with (h | h) | h
  ·exact ⟨e,by simp,.inl h.symm⟩
  ·exact ⟨e,by simp,.inr h⟩
  ·obtain ⟨e',he,hk⟩:=x8 h
   exact ⟨e',by simp [he],hk⟩
theorem vk (ops:List Oper) (D:Done) (hD:∀ j o,ops[j]? = some o->D j=true->∀ e,e∈dv o->D e=true) :
    ∀ (l:List Oper) (acc:List Nat),(∀ j,l[j]? = ops[acc.length+j]?) ->
     (∀ j o,j < acc.length->ops[j]? = some o->(∀ e,e∈dv o->D e=true)->∀ k,(acc.getD j 0).testBit k=true->D k=true) ->
     ∀ j o,ops[j]? = some o->(∀ e,e∈dv o->D e=true)->∀ k,((zo l acc).getD j 0).testBit k=true->D k=true
 | [],acc,hl,ha,j,o,hj,he,k,hk=>by
  simp only [zo] at hk
  by_cases hlt:j < acc.length
  ·exact ha j o hlt hj he k hk
  ·rw [List.getD_eq_getElem?_getD,List.getElem?_eq_none (by omega)] at hk
   simp at hk
 | o0 :: l,acc,hl,ha,j,o,hj,he,k,hk=>by
  simp only [zo] at hk
  refine vk ops D hD l _ (fun j=>by have:=hl (j+1);simpa [Nat.add_assoc,Nat.add_comm 1 j] using this) ?_ j o hj he k hk
  intro j o hj hjo he k hk
  rw [List.length_append,List.length_singleton] at hj
  by_cases hlt:j < acc.length
  ·rw [List.getD_eq_getElem?_getD,List.getElem?_append_left hlt,<- List.getD_eq_getElem?_getD] at hk
   exact ha j o hlt hjo he k hk
  ·obtain rfl:j=acc.length:=by omega
   have h0:ops[acc.length]? = some o0:=by simpa using (hl 0).symm
   rw [h0] at hjo;cases hjo
   rw [List.getD_eq_getElem?_getD,List.getElem?_append_right (Nat.le_refl _)] at hk
   simp only [Nat.sub_self,List.getElem?_cons_zero,Option.getD_some] at hk
   obtain ⟨e,hee,h1⟩:=x8 hk
   rcases h1 with rfl | h1
   ·exact he _ hee
   ·by_cases hel:e < acc.length
    ·cases hoe:ops[e]? with
     | none =>
      exfalso
      have:=ha
      -- e is below acc.length, and so an operation
      rw [List.getElem?_eq_none_iff] at hoe
      have hh:acc.length < ops.length:=(List.getElem?_eq_some_iff.1 h0).1
      omega
     | some oe=>exact ha e oe hel hoe (hD e oe hoe (he e hee)) k h1
    ·rw [List.getD_eq_getElem?_getD,List.getElem?_eq_none (by omega)] at h1
     simp at h1
def x7 (ops:Array Oper) (oi oj:Oper) (ei ej:Ent):Bool :=
 (match ei.dst with | some d=>(oj.looksAt ops).contains d || ej.dst == some d | none=>false) ||
 (match ej.dst with | some d=>(oi.looksAt ops).contains d | none=>false) ||
 ei.U.any (fun x=>ej.R.contains x.1) || ej.U.any (fun x=>ei.R.contains x.1)
def rJ (ops:Array Oper) (l:List Oper) (L:List Ent) (b:List Nat):Bool :=
 (List.range l.length).all fun j=>(dv (l.getD j default)).all (· < j) && (List.range j).all fun i =>
  La b i j || match L[i]?,L[j]? with
   | some ei,some ej=>!(x7 ops (l.getD i default) (l.getD j default) ei ej)
   | _,_=>true
def eZ (ops:List Oper) (L:List Ent):Bool:=rJ ops.toArray ops L (zo ops [])

theorem yC:∀ (L:List Ent) (D:Done) (i:Nat) (f:Frm),(∀ k,D k=false)->frD D i L f=f
 | [],_,_,_,_=>rfl
 | e :: r,D,i,f,h=>by simp only [frD,h,Bool.false_eq_true,if_false];exact yC r D _ _ h
theorem Cc:∀ (L:List Ent) (D:Done) (i:Nat) (f:Mem),(∀ k,D k=false)->mD D i L f=f
 | [],_,_,_,_=>rfl
 | e :: r,D,i,f,h=>by simp only [mD,h,Bool.false_eq_true,if_false];exact Cc r D _ _ h
theorem Ao {U:List (Key×Blk)} {d:Key} {p:Key->Bool} (h:lk U d≠none) (hp:p d=true):U.any (fun x=>p x.1)=true:=by
 induction U with
 | nil=>simp [lk] at h
 | cons x r ih =>
  obtain ⟨k,B⟩:=x
  simp only [lk] at h
  by_cases e:k=d
  ·subst e;simp [hp]
  ·rw [if_neg e] at h;simp only [List.any_cons,ih h,Bool.or_true]
section
variable {E:Env} {ops:List Oper} {L:List Ent} {f0:Frm} {m0:Mem} {f':Frm} {m':Mem}
theorem Gx (h:eZ ops L=true) {j:Nat} {o:Oper} (hj:ops[j]? = some o):∀ e∈dv o,e < j:=by
 have hl:j < ops.length:=(List.getElem?_eq_some_iff.1 hj).1
 simp only [eZ,rJ,List.all_eq_true,List.mem_range,Bool.and_eq_true,decide_eq_true_eq] at h
 have:=(h j hl).1
 rw [List.getD_eq_getElem?_getD,hj] at this
 simpa using this
theorem lE (h:eZ ops L=true) {i j:Nat} {oi oj:Oper} {ei ej:Ent} (hi:ops[i]? = some oi) (hj:ops[j]? = some oj) (hij:i < j) (hei:L[i]? = some ei) (hej:L[j]? = some ej) :
    La (zo ops []) i j=true\/x7 ops.toArray oi oj ei ej=false:=by
 have hl:j < ops.length:=(List.getElem?_eq_some_iff.1 hj).1
 simp only [eZ,rJ,List.all_eq_true,List.mem_range,Bool.and_eq_true,decide_eq_true_eq] at h
 have:=(h j hl).2 i hij
 simp only [List.getD_eq_getElem?_getD,hi,hj,hei,hej,Option.getD_some,Bool.or_eq_true,Bool.not_eq_true'] at this
 exact this
def lp (ops:List Oper) (D:Done):Prop:=∀ j o,ops[j]? = some o->D j=true->∀ e,e∈dv o->D e=true
theorem oD {D:Done} (hD:lp ops D) {i j:Nat} {oj:Oper} (hj:ops[j]? = some oj) (he:∀ e,e∈dv oj->D e=true) (hb:La (zo ops []) i j=true):D i=true :=
 vk ops D hD ops [] (fun j=>by simp) (fun j o h=>by simp at h) j oj hj he i hb
theorem vt (hlen:L.length<=ops.length) (h:eZ ops L=true) {D:Done} (hD:lp ops D) {i:Nat} {oi:Oper} (hi:ops[i]? = some oi) (hDi:D i=false) (he:∀ e,e∈dv oi->D e=true) {ei:Ent} (hei:L[i]? = some ei) {t:Tmp} (ht:t∈oi.looksAt ops.toArray) :
    frD D 0 L f0 t=frD (fun k=>decide (k < i)) 0 L f0 t:=by
 refine fw t L 0 _ _ _ _ (fun k ek hk hdst=>?_) rfl
 rw [Nat.zero_add]
 have hkl:k < ops.length:=Nat.lt_of_lt_of_le (List.getElem?_eq_some_iff.1 hk).1 hlen
 obtain ⟨ok,hok⟩:∃ o,ops[k]? = some o:=⟨_,List.getElem?_eq_getElem hkl⟩
 rcases Nat.lt_trichotomy k i with hlt | rfl | hgt
 ·simp only [hlt,decide_true]
  rcases lE h hok hi hlt hk hei with hb | hb
  ·exact oD hD hi he hb
  ·exfalso
   simp only [x7,hdst,Bool.or_eq_false_iff] at hb
   have:=hb.1.1.1.1
   rw [List.contains_eq_mem] at this
   simp [ht] at this
 ·simp [hDi]
 ·rw [show decide (k < i)=false by simp;omega]
  cases hDk:D k with
  | false=>rfl
  | true =>
   exfalso
   rcases lE h hi hok hgt hei hk with hb | hb
   ·have:=oD hD hok (hD k ok hok hDk) hb
    rw [hDi] at this;cases this
   ·simp only [x7,hdst,Bool.or_eq_false_iff] at hb
    have:=hb.1.1.2
    rw [List.contains_eq_mem] at this
    simp [ht] at this
theorem vu (hlen:L.length<=ops.length) (h:eZ ops L=true) {D:Done} (hD:lp ops D) {i:Nat} {oi:Oper} (hi:ops[i]? = some oi) (hDi:D i=false) (he:∀ e,e∈dv oi->D e=true) {ei:Ent} (hei:L[i]? = some ei) {d:Key} (hd:d∈ei.R) :
    mD D 0 L m0 d=mD (fun k=>decide (k < i)) 0 L m0 d:=by
 refine g9 d L 0 _ _ _ _ (fun k ek hk hdst=>?_) rfl
 rw [Nat.zero_add]
 have hkl:k < ops.length:=Nat.lt_of_lt_of_le (List.getElem?_eq_some_iff.1 hk).1 hlen
 obtain ⟨ok,hok⟩:∃ o,ops[k]? = some o:=⟨_,List.getElem?_eq_getElem hkl⟩
 rcases Nat.lt_trichotomy k i with hlt | rfl | hgt
 ·simp only [hlt,decide_true]
  rcases lE h hok hi hlt hk hei with hb | hb
  ·exact oD hD hi he hb
  ·exfalso
   simp only [x7,Bool.or_eq_false_iff] at hb
   have:=Ao (p:=fun x=>ei.R.contains x) hdst (by simpa using hd)
   rw [hb.1.2] at this;cases this
 ·simp [hDi]
 ·rw [show decide (k < i)=false by simp;omega]
  cases hDk:D k with
  | false=>rfl
  | true =>
   exfalso
   rcases lE h hi hok hgt hei hk with hb | hb
   ·have:=oD hD hok (hD k ok hok hDk) hb
    rw [hDi] at this;cases this
   ·simp only [x7,Bool.or_eq_false_iff] at hb
    have:=Ao (p:=fun x=>ei.R.contains x) hdst (by simpa using hd)
    rw [hb.2] at this;cases this
def Done.add (D:Done) (i:Nat):Done:=fun k=>D k || k == i
theorem Lg (hlen:L.length<=ops.length) (h:eZ ops L=true) {D:Done} (hD:lp ops D) {i:Nat} {oi:Oper} (hi:ops[i]? = some oi) (hDi:D i=false) {ei:Ent} (hei:L[i]? = some ei) (t:Tmp) :
    frD (D.add i) 0 L f0 t=(frD D 0 L f0).put ei.dst ei.v t:=by
 by_cases hdst:ei.dst=some t
 ·rw [yD t L 0 i (D.add i) f0 ei hei hdst (by simp [Done.add]) ?_]
  ·rw [hdst];simp [Frm.put]
  ·intro k ek hk hdk hDk
   rcases Nat.lt_or_ge i k with hgt | hle
   ·exfalso
    have hDk':D k=true:=by
     simp only [Done.add,Nat.zero_add,Bool.or_eq_true,beq_iff_eq] at hDk
     rcases hDk with h1 | h1
     ·exact h1
     ·omega
    have hkl:k < ops.length:=Nat.lt_of_lt_of_le (List.getElem?_eq_some_iff.1 hk).1 hlen
    obtain ⟨ok,hok⟩:∃ o,ops[k]? = some o:=⟨_,List.getElem?_eq_getElem hkl⟩
    rcases lE h hi hok hgt hei hk with hb | hb
    ·have:=oD hD hok (hD k ok hok hDk') hb
     rw [hDi] at this;cases this
    ·simp [x7,hdst,hdk] at hb
   ·exact hle
 ·rw [Gj hdst]
  refine fw t L 0 _ _ _ _ (fun k ek hk hdk=>?_) rfl
  have:k≠i:=by rintro rfl;rw [hei] at hk;cases hk;exact hdst hdk
  simp [Done.add,this]
theorem Lh (hkeys:∀ (k:Nat) (e:Ent),L[k]? = some e->∀ d B,lk e.U d=some B->d∈e.R) (hlen:L.length<=ops.length) (h:eZ ops L=true) {D:Done} (hD:lp ops D) {i:Nat} {oi:Oper} (hi:ops[i]? = some oi) (hDi:D i=false) {ei:Ent} (hei:L[i]? = some ei) (d:Key) :
    mD (D.add i) 0 L m0 d=aS (mD D 0 L m0) ei.U d:=by
 cases hlk:lk ei.U d with
 | some B =>
  rw [Cd d L 0 i (D.add i) m0 ei B hei hlk (by simp [Done.add]) ?_]
  ·simp [aS,hlk]
  ·intro k ek hk hdk hDk
   rcases Nat.lt_or_ge i k with hgt | hle
   ·exfalso
    have hDk':D k=true:=by
     simp only [Done.add,Nat.zero_add,Bool.or_eq_true,beq_iff_eq] at hDk
     rcases hDk with h1 | h1
     ·exact h1
     ·omega
    have hkl:k < ops.length:=Nat.lt_of_lt_of_le (List.getElem?_eq_some_iff.1 hk).1 hlen
    obtain ⟨ok,hok⟩:∃ o,ops[k]? = some o:=⟨_,List.getElem?_eq_getElem hkl⟩
    have hdR:d∈ek.R:=by
     cases hlk2:lk ek.U d with
     | none=>exact absurd hlk2 hdk
     | some B2=>exact hkeys k ek hk d B2 hlk2
    rcases lE h hi hok hgt hei hk with hb | hb
    ·have:=oD hD hok (hD k ok hok hDk') hb
     rw [hDi] at this;cases this
    ·simp only [x7,Bool.or_eq_false_iff] at hb
     have:=Ao (U:=ei.U) (d:=d) (p:=fun x=>ek.R.contains x) (by rw [hlk];simp) (by simpa using hdR)
     rw [hb.1.2] at this;cases this
   ·exact hle
 | none =>
  rw [By hlk]
  refine g9 d L 0 _ _ _ _ (fun k ek hk hdk=>?_) rfl
  have:k≠i:=by rintro rfl;rw [hei] at hk;cases hk;exact hdk hlk
  simp [Done.add,this]

theorem tO {D:Done} (hD:lp ops D) {i:Nat} {oi:Oper} (hi:ops[i]? = some oi) (he:∀ e,e∈dv oi->D e=true):lp ops (D.add i):=by
 intro j o hj hDj e hee
 simp only [Done.add,Bool.or_eq_true,beq_iff_eq] at hDj ⊢
 rcases hDj with h | rfl
 ·exact .inl (hD j o hj h e hee)
 ·rw [hi] at hj;cases hj;exact .inl (he e hee)
theorem uH {o:Oper} {ops:Array Oper} {t:Tmp} (h:t∈gm o):t∈o.looksAt ops:=by
 unfold gm at h;unfold Oper.looksAt
 exact List.mem_append_left _ h


theorem lc:∀ (L:List Ent) (D:Done) (i:Nat) (f:Frm) (e:Ent),frD D i (L++[e]) f=if D (i+L.length) then (frD D i L f).put e.dst e.v else frD D i L f
 | [],D,i,f,e=>by simp [frD]
 | x :: r,D,i,f,e=>by
  simp only [List.cons_append,frD]
  rw [lc r D (i+1)]
  simp only [List.length_cons,show i+1+r.length=i+(r.length+1) from by omega]
theorem pN:∀ (L:List Ent) (D:Done) (i:Nat) (m:Mem) (e:Ent),mD D i (L++[e]) m=if D (i+L.length) then aS (mD D i L m) e.U else mD D i L m
 | [],D,i,m,e=>by simp [mD]
 | x :: r,D,i,m,e=>by
  simp only [List.cons_append,mD]
  rw [pN r D (i+1)]
  simp only [List.length_cons,show i+1+r.length=i+(r.length+1) from by omega]
theorem oz (D:Done):∀ (X L:List Ent) (i:Nat) (f:Frm),(∀ k,i+L.length<=k->D k=false)->frD D i (L++X) f=frD D i L f
 | [],L,i,f,_=>by simp
 | x :: X,L,i,f,h=>by
  rw [show L++x :: X=(L++[x])++X by simp,oz D X (L++[x]) i f (fun k hk=>h k (by simp at hk;omega)),lc,h _ (Nat.le_refl _)]
  simp
theorem qP (D:Done):∀ (X L:List Ent) (i:Nat) (m:Mem),(∀ k,i+L.length<=k->D k=false)->mD D i (L++X) m=mD D i L m
 | [],L,i,m,_=>by simp
 | x :: X,L,i,m,h=>by
  rw [show L++x :: X=(L++[x])++X by simp,qP D X (L++[x]) i m (fun k hk=>h k (by simp at hk;omega)),pN,h _ (Nat.le_refl _)]
  simp
theorem DD {X:List Ent} (h:eZ ops (L++X)=true):eZ ops L=true:=by
 simp only [eZ,rJ,List.all_eq_true,List.mem_range,Bool.and_eq_true,decide_eq_true_eq] at h ⊢
 intro j hj
 refine ⟨(h j hj).1,fun i hi=>?_⟩
 have:=(h j hj).2 i hi
 cases hLi:L[i]? with
 | none=>simp
 | some ei =>
  cases hLj:L[j]? with
  | none=>simp
  | some ej =>
   rw [List.getElem?_append_left (List.getElem?_eq_some_iff.1 hLi).1,List.getElem?_append_left (List.getElem?_eq_some_iff.1 hLj).1,hLi,hLj] at this
   exact this
end
def Lm (E:Env) (o:Oper) (f:Frm) (m:Mem) (R:List Key) (C:SV->List (Key×Blk)->Prop):Prop :=
 ∀ f' m',(∀ t,t∈gm o->f' t=f t)->(∀ d,d∈R->m' d=m d)->∀ ρ a w,Fr E ρ f' a->Wd E ρ m' w->∀ (K:Act->World->Prop) (Q:Exit->Act->World->Prop),
  (∀ ρ' x w' v U,C v U->Ext ρ ρ'->SV.rel ρ' v x->Wd E ρ' (aS m' U) w'->K (a.put o.dst x) w')->o.wp E.P a w K Q
def gg (o:Oper) (R:List Key):Ent:=⟨o.dst,SV.bad,R,R.map fun d=>(d,Blk.one 0 SV.bad)⟩
def vM (ops:List Oper) (i:Nat):Bool:=(List.range ops.length).all fun j=>decide (j<=i) || La (zo ops []) i j
def Bk (E:Env) (ops:Array Oper) (o:Oper) (f:Frm):Prop:=o.guard=none\/∃ j b g,o.guard=some (j,b)/\rA ops j=some g/\g < E.n/\f g=SV.c (.bool b)
def LexT (E:Env) (ops:List Oper) (draw:Bool):List Oper->Frm->Mem->List Ent->(Frm->Mem->Prop)->Prop
 | [],f,m,L,K=>(draw=true->eZ ops L=true)/\K f m
 | o :: r,f,m,L,K=>(∀ t,o.dst=some t->t < E.n) /\
  ((∃ e,e.dst=o.dst/\StepOk E ops.toArray o f m e/\LexT E ops draw r (f.put e.dst e.v) (aS m e.U) (L++[e]) K) \/
   (∃ R C,Bk E ops.toArray o f/\Lm E o f m R C/\(∀ v U,C v U->∀ d B,lk U d=some B->d∈R)/\(draw=true->(vM ops L.length && eZ ops (L++[gg o R]))=true) /\
    ∀ v U,C v U->LexT E ops draw r (f.put o.dst v) (aS m U) (L++[⟨o.dst,v,R,U⟩]) K))
theorem LexT.plain {E:Env} {ops:List Oper} {draw:Bool} {K:Frm->Mem->Prop}:∀ {l:List Oper} {f:Frm} {m:Mem} {L:List Ent} (_:LexT E ops draw l f m L K) {k:Nat} {ρ:Rho} {a:Act} {w:World} {Q:Exit->Act->World->Prop},(∀ j,l[j]? = ops[k+j]?)->Fr E ρ f a->Wd E ρ m w ->
    (∀ f' m' ρ' a' w',K f' m'->Ext ρ ρ'->Fr E ρ' f' a'->Wd E ρ' m' w'->Q .normal a' w')->wpOps E.P ops.toArray Q (List.range' k l.length) a w
 | [],f,m,L,h,k,ρ,a,w,Q,hl,h1,h2,hQ=>hQ f m ρ a w h.2 (Ext.refl _) h1 h2
 | o :: rest,f,m,L,h,k,ρ,a,w,Q,hl,h1,h2,hQ=>by
  obtain ⟨hd,h⟩:=h
  have h0:ops.toArray[k]? = some o:=by simpa using (hl 0).symm
  have hl':∀ j,rest[j]? = ops[k+1+j]?:=fun j=>by have:=hl (j+1);simpa [Nat.add_assoc,Nat.add_comm 1 j] using this
  simp only [List.length_cons,List.range'_succ,wpOps,h0]
  rcases h with ⟨e,hdst,hs,hr⟩ | ⟨R,C,hg,hout,hU,hok,hr⟩
  ·rcases hs with ⟨hg,hU,ho⟩ | ⟨j,b,c,g,hg,hgd,hgn,hb,hne,hv,hR,hU⟩
   ·have hw:Region.wanted o (yielded ops.toArray a.tmps)=true:=by
      rcases hg with hg | ⟨j,b,g,hg,hgd,hgn,hb⟩
      ·exact iu hg
      ·simp [Region.wanted,hg,jp h1 hgd hgn hb]
    rw [if_pos hw]
    refine .inl (Oper.wp_step ho (fun _ _=>rfl) (fun _ _=>rfl) hd h1 h2 fun ρ' a' w' he h3 h4=>?_)
    rw [<- hdst] at h3
    exact LexT.plain hr hl' h3 h4 (fun f' m' ρ'' a'' w'' hk he2 h5 h6=>hQ f' m' ρ'' a'' w'' hk (he.trans he2) h5 h6)
   ·rw [if_neg (by rw [re h1 hg hgd hgn hb hne];simp)]
    rw [hdst,hv,hU] at hr
    exact LexT.plain hr hl' (h1.put hd rfl) h2 hQ
  ·have hw:Region.wanted o (yielded ops.toArray a.tmps)=true:=by
     rcases hg with hg | ⟨j,b,g,hg,hgd,hgn,hb⟩
     ·exact iu hg
     ·simp [Region.wanted,hg,jp h1 hgd hgn hb]
   rw [if_pos hw]
   refine .inl (hout f m (fun _ _=>rfl) (fun _ _=>rfl) ρ a w h1 h2 _ _ fun ρ' x w' v U hC he hv hwd=>?_)
   exact LexT.plain (hr v U hC) hl' ((h1.ext he).put hd hv) hwd (fun f' m' ρ'' a'' w'' hk he2 h5 h6=>hQ f' m' ρ'' a'' w'' hk (he.trans he2) h5 h6)
section
variable {E:Env} {ops:List Oper} {f0:Frm} {m0:Mem} {K:Frm->Mem->Prop}
structure Com (E:Env) (ops:List Oper) (f0:Frm) (m0:Mem) (D:Done) (L:List Ent) (f:Frm) (m:Mem):Prop where
 len:L.length<=ops.length
 keys:∀ (k:Nat) (e:Ent),L[k]? = some e->∀ d B,lk e.U d=some B->d∈e.R
 step:∀ (i:Nat) (o:Oper) (e:Ent),ops[i]? = some o->L[i]? = some e->e.dst=o.dst/\(∀ t,o.dst=some t->t < E.n)/\(D i=true\/StepOk E ops.toArray o (frD (fun k=>decide (k < i)) 0 L f0) (mD (fun k=>decide (k < i)) 0 L m0) e)
 fin:frD (fun k=>decide (k < L.length)) 0 L f0=f
 finm:mD (fun k=>decide (k < L.length)) 0 L m0=m
theorem Com.mono {D D':Done} {L:List Ent} {f:Frm} {m:Mem} (h:Com E ops f0 m0 D L f m) (hD:∀ k,D k=true->D' k=true):Com E ops f0 m0 D' L f m :=
 ⟨h.len,h.keys,fun i o e h1 h2=>by
  obtain ⟨a,b,c⟩:=h.step i o e h1 h2
  exact ⟨a,b,c.imp (hD i) id⟩,h.fin,h.finm⟩
theorem Com.snoc {D:Done} {L:List Ent} {f:Frm} {m:Mem} (h:Com E ops f0 m0 D L f m) {o:Oper} {e:Ent} (ho:ops[L.length]? = some o) (hdst:e.dst=o.dst) (hd:∀ t,o.dst=some t->t < E.n) (hU:∀ d B,lk e.U d=some B->d∈e.R) (hs:D L.length=true\/StepOk E ops.toArray o f m e) :
    Com E ops f0 m0 D (L++[e]) (f.put e.dst e.v) (aS m e.U):=by
 have hlt:=(List.getElem?_eq_some_iff.1 ho).1
 have e1:∀ i,i<=L.length->frD (fun k=>decide (k < i)) 0 (L++[e]) f0=frD (fun k=>decide (k < i)) 0 L f0:=fun i hi=>oz _ [e] L 0 f0 (fun k hk=>by simp;omega)
 have e2:∀ i,i<=L.length->mD (fun k=>decide (k < i)) 0 (L++[e]) m0=mD (fun k=>decide (k < i)) 0 L m0:=fun i hi=>qP _ [e] L 0 m0 (fun k hk=>by simp;omega)
 have e3:frD (fun k=>decide (k < L.length+1)) 0 L f0=frD (fun k=>decide (k < L.length)) 0 L f0:=funext fun t=>fw t L 0 _ _ _ _ (fun k x hk _=>by
  have:=(List.getElem?_eq_some_iff.1 hk).1
  rw [Nat.zero_add,decide_eq_true (by omega),decide_eq_true (by omega)]) rfl
 have e4:mD (fun k=>decide (k < L.length+1)) 0 L m0=mD (fun k=>decide (k < L.length)) 0 L m0:=funext fun t=>g9 t L 0 _ _ _ _ (fun k x hk _=>by
  have:=(List.getElem?_eq_some_iff.1 hk).1
  rw [Nat.zero_add,decide_eq_true (by omega),decide_eq_true (by omega)]) rfl
 refine ⟨by simp;omega,fun k x hk=>?_,fun i o' x hi hx=>?_,?_,?_⟩
 ·rcases Nat.lt_trichotomy k L.length with hk2 | hk2 | hk2
  ·rw [List.getElem?_append_left hk2] at hk;exact h.keys k x hk
  ·subst hk2;simp at hk;subst hk;exact hU
  ·rw [List.getElem?_eq_none (by simp;omega)] at hk;cases hk
 ·rcases Nat.lt_trichotomy i L.length with hk2 | hk2 | hk2
  ·rw [List.getElem?_append_left hk2] at hx
   rw [e1 i (by omega),e2 i (by omega)]
   exact h.step i o' x hi hx
  ·subst hk2;simp at hx;subst hx
   rw [ho] at hi;cases hi
   rw [e1 _ (Nat.le_refl _),e2 _ (Nat.le_refl _),h.fin,h.finm]
   exact ⟨hdst,hd,hs⟩
  ·rw [List.getElem?_eq_none (by simp;omega)] at hx;cases hx
 ·rw [List.length_append,List.length_singleton,lc,Nat.zero_add,decide_eq_true (by omega),if_pos rfl,e3,h.fin]
 ·rw [List.length_append,List.length_singleton,pN,Nat.zero_add,decide_eq_true (by omega),if_pos rfl,e4,h.finm]
def Rest (E:Env) (ops:List Oper) (K:Frm->Mem->Prop) (L:List Ent) (f:Frm) (m:Mem):Prop :=
 (L.length=ops.length/\eZ ops L=true/\K f m) \/
 (∃ o,ops[L.length]? = some o/\(∀ t,o.dst=some t->t < E.n)/\∃ R C,Bk E ops.toArray o f/\Lm E o f m R C/\(∀ v U,C v U->∀ d B,lk U d=some B->d∈R)/\(vM ops L.length && eZ ops (L++[gg o R]))=true /\
  ∀ v U,C v U->LexT E ops true (ops.drop (L.length+1)) (f.put o.dst v) (aS m U) (L++[⟨o.dst,v,R,U⟩]) K)
theorem Rest.ok {L:List Ent} {f:Frm} {m:Mem} (h:Rest E ops K L f m):eZ ops L=true:=by
 rcases h with ⟨_,h,_⟩ | ⟨o,ho,hd,R,C,h1,h2,h3,h4,h5⟩
 ·exact h
 ·simp only [Bool.and_eq_true] at h4
  exact DD h4.2
theorem StepOk.keys {ops:Array Oper} {o:Oper} {f:Frm} {m:Mem} {e:Ent} (h:StepOk E ops o f m e):∀ d B,lk e.U d=some B->d∈e.R:=by
 rcases h with ⟨-,hU,-⟩ | ⟨_,_,_,_,_,_,_,_,_,_,_,hU⟩
 ·exact hU
 ·intro d B hb;rw [hU] at hb;simp [lk] at hb
theorem LexT.advance {D:Done}:∀ {l:List Oper} {f:Frm} {m:Mem} {L:List Ent},LexT E ops true l f m L K->l=ops.drop L.length->Com E ops f0 m0 D L f m ->
    ∃ L2 f2 m2,(∃ X,L2=L++X)/\Com E ops f0 m0 D L2 f2 m2/\Rest E ops K L2 f2 m2
 | [],f,m,L,h,hl,hc=>by
  have h1:ops.length<=L.length:=List.drop_eq_nil_iff.1 hl.symm
  have h2:=hc.len
  exact ⟨L,f,m,⟨[],by simp⟩,hc,.inl ⟨by omega,h.1 rfl,h.2⟩⟩
 | o :: r,f,m,L,h,hl,hc=>by
  obtain ⟨hd,h⟩:=h
  have hlt:L.length < ops.length:=by
   rcases Nat.lt_or_ge L.length ops.length with hlt | hge
   ·exact hlt
   ·rw [List.drop_eq_nil_of_le hge] at hl;cases hl
  have ho:ops[L.length]? = some o:=by
   have:=congrArg (fun l=>l[0]?) hl
   simpa using this.symm
  have hr:r=ops.drop (L.length+1):=by
   have:=congrArg List.tail hl
   simpa using this
  rcases h with ⟨e,hdst,hs,h⟩ | ⟨R,C,h1,h2,h3,h4,h5⟩
  ·obtain ⟨L2,f2,m2,⟨X,hX⟩,h6,h7⟩:=LexT.advance h (by rw [hr];simp) (hc.snoc ho hdst hd hs.keys (.inr hs))
   exact ⟨L2,f2,m2,⟨e :: X,by rw [hX];simp⟩,h6,h7⟩
  ·exact ⟨L,f,m,⟨[],by simp⟩,hc,.inr ⟨o,ho,hd,R,C,h1,h2,h3,h4 rfl,by rw [<- hr];exact h5⟩⟩

theorem IM {Q:Exit->Act->World->Prop} {ρ0:Rho} (hQ:∀ f m ρ a w,K f m->Ext ρ0 ρ->Fr E ρ f a->Wd E ρ m w->Q .normal a w) :
    ∀ (fuel:Nat) (listed:Array Bool) (ρ:Rho) (a:Act) (w:World) (L:List Ent) (f':Frm) (m':Mem),Com E ops f0 m0 (fun k=>listed.getD k false) L f' m'->Rest E ops K L f' m'->listed.size=ops.length->((List.range ops.length).filter fun k=>!listed.getD k false).length=fuel->lp ops (fun k=>listed.getD k false)->(∀ k,L.length<=k->listed.getD k false=false)->Ext ρ0 ρ ->
     Fr E ρ (frD (fun k=>listed.getD k false) 0 L f0) a->Wd E ρ (mD (fun k=>listed.getD k false) 0 L m0) w->wpAny E.P .any ops.toArray Q fuel listed a w:=by
 -- no operation is ready: all are done
 have hdone:∀ (L:List Ent) (_:eZ ops L=true) (listed:Array Bool),listed.size=ops.length->Region.ready .any ops.toArray listed=[]->∀ k,k < ops.length->listed.getD k false=true:=by
  intro L h listed hsz hr k
  induction k using Nat.strongRecOn with
  | _ k ih =>
   intro hk
   cases hl:listed.getD k false with
   | true=>rfl
   | false =>
    exfalso
    obtain ⟨o,ho⟩:∃ o,ops[k]? = some o:=⟨_,List.getElem?_eq_getElem hk⟩
    have:k∈Region.ready .any ops.toArray listed:=by
     simp only [Region.ready,List.mem_filter,List.mem_range,List.size_toArray,hk,true_and,List.getElem?_toArray,ho,Option.map_some,Option.getD_some,Bool.and_eq_true,Bool.not_eq_true']
     refine ⟨?_,?_⟩
     ·rw [Array.getD_eq_getD_getElem?] at hl ⊢
      have hks:k < listed.size:=by omega
      rw [Array.getElem?_eq_getElem hks] at hl ⊢
      simpa using hl
     ·rw [Array.all_eq_true_iff_forall_mem]
      intro e he
      cases hb:Region.binds .any e with
      | false=>simp
      | true =>
       have hlt:=Gx h ho e.on (by simp only [dv,List.mem_map,List.mem_filter];exact ⟨e,⟨by simpa using he,hb⟩,rfl⟩)
       simp [ih e.on hlt (by omega)]
    rw [hr] at this;cases this
 -- all are done: the walk is at its end
 have hend:∀ (listed:Array Bool) (ρ:Rho) (a:Act) (w:World) (L:List Ent) (f':Frm) (m':Mem),Com E ops f0 m0 (fun k=>listed.getD k false) L f' m'->Rest E ops K L f' m'->(∀ k,L.length<=k->listed.getD k false=false)->Ext ρ0 ρ ->
   Fr E ρ (frD (fun k=>listed.getD k false) 0 L f0) a->Wd E ρ (mD (fun k=>listed.getD k false) 0 L m0) w->(∀ k,k < ops.length->listed.getD k false=true)->Q .normal a w:=by
  intro listed ρ a w L f' m' hc hrest hbeyond hE h1 h2 hall
  have hlen:=hc.len
  have hLe:L.length=ops.length:=by
   rcases Nat.lt_or_ge L.length ops.length with hlt | hge
   ·have e1:=hall _ hlt
    rw [hbeyond _ (Nat.le_refl _)] at e1;cases e1
   ·omega
  have e1:frD (fun k=>listed.getD k false) 0 L f0=f':=by
   rw [<- hc.fin]
   exact funext fun t=>fw t L 0 _ _ _ _ (fun k x hk _=>by
    have:=(List.getElem?_eq_some_iff.1 hk).1
    rw [Nat.zero_add,hall k (by omega),decide_eq_true (by omega)]) rfl
  have e2:mD (fun k=>listed.getD k false) 0 L m0=m':=by
   rw [<- hc.finm]
   exact funext fun t=>g9 t L 0 _ _ _ _ (fun k x hk _=>by
    have:=(List.getElem?_eq_some_iff.1 hk).1
    rw [Nat.zero_add,hall k (by omega),decide_eq_true (by omega)]) rfl
  rw [e1] at h1;rw [e2] at h2
  rcases hrest with ⟨_,_,hK⟩ | ⟨o,ho,_⟩
  ·exact hQ f' m' ρ a w hK hE h1 h2
  ·have:=(List.getElem?_eq_some_iff.1 ho).1
   omega
 intro fuel
 induction fuel with
 | zero =>
  intro listed ρ a w L f' m' hcom hrest hsz hf hc hbeyond hE h1 h2
  have hall:∀ k,k < ops.length->listed.getD k false=true:=by
   intro k hk
   have hnil:=List.length_eq_zero_iff.1 hf
   cases hl:listed.getD k false with
   | true=>rfl
   | false =>
    have:k∈(List.range ops.length).filter fun k=>!listed.getD k false:=by simp only [List.mem_filter,List.mem_range,hk,hl,Bool.not_false,and_self]
    rw [hnil] at this;cases this
  refine ⟨?_,hend listed ρ a w L f' m' hcom hrest hbeyond hE h1 h2 hall⟩
  simp only [Region.ready,List.filter_eq_nil_iff,List.mem_range,List.size_toArray]
  intro k hk
  have:=hall k hk
  rw [Array.getD_eq_getD_getElem?,Array.getElem?_eq_getElem (by omega)] at this
  simp only [Option.getD_some] at this
  rw [Array.getD_eq_getD_getElem?,Array.getElem?_eq_getElem (by omega)]
  simp [this]
 | succ fuel ih =>
  intro listed ρ a w L f' m' hcom hrest hsz hf hc hbeyond hE h1 h2
  have h:=hrest.ok
  have hlen:=hcom.len
  refine ⟨fun hr=>hend listed ρ a w L f' m' hcom hrest hbeyond hE h1 h2 (hdone L h listed hsz hr),fun i hi=>?_⟩
  simp only [Region.ready,List.mem_filter,List.mem_range,List.size_toArray,List.getElem?_toArray,Bool.and_eq_true,Bool.not_eq_true'] at hi
  obtain ⟨hil,hin,hia⟩:=hi
  obtain ⟨o,ho⟩:∃ o,ops[i]? = some o:=⟨_,List.getElem?_eq_getElem hil⟩
  rw [ho] at hia
  simp only [Option.map_some,Option.getD_some] at hia
  have hDi:listed.getD i false=false:=by
   rw [Array.getD_eq_getD_getElem?] at hin ⊢
   rw [Array.getElem?_eq_getElem (by omega)] at hin ⊢
   simpa using hin
  have he:∀ e,e∈dv o->listed.getD e false=true:=by
   intro e hee
   simp only [dv,List.mem_map,List.mem_filter] at hee
   obtain ⟨e',⟨h3,h4⟩,rfl⟩:=hee
   have:=Array.all_eq_true_iff_forall_mem.1 hia e' (by simpa using h3)
   simpa [h4] using this
  have hadd:∀ k,(listed.setIfInBounds i true).getD k false=Done.add (fun k=>listed.getD k false) i k:=by
   intro k
   simp only [Done.add,Array.getD_eq_getD_getElem?]
   by_cases e:k=i
   ·subst e;rw [Array.getElem?_setIfInBounds_self_of_lt (by omega)];simp
   ·rw [Array.getElem?_setIfInBounds_ne (fun e2=>e e2.symm)];simp [e]
  have hfun:(fun k=>(listed.setIfInBounds i true).getD k false)=Done.add (fun k=>listed.getD k false) i:=funext hadd
  have hmono:∀ k,(fun k=>listed.getD k false) k=true->Done.add (fun k=>listed.getD k false) i k=true:=fun k hk=>by simp only [Done.add,Bool.or_eq_true];exact .inl hk
  have hcnt:((List.range ops.length).filter fun k=>!(listed.setIfInBounds i true).getD k false).length=fuel:=by
   have h3:∀ n,((List.range n).filter fun k=>!listed.getD k false).length=((List.range n).filter fun k=>!(listed.setIfInBounds i true).getD k false).length+(if i < n then 1 else 0):=by
    intro n
    induction n with
    | zero=>simp
    | succ n ihn =>
     rw [List.range_succ,List.filter_append,List.filter_append,List.length_append,List.length_append,ihn]
     by_cases e:n=i
     ·subst e
      have e2:=hadd n
      simp only [Done.add,BEq.rfl,Bool.or_true] at e2
      simp only [List.filter_cons,e2,hDi,List.filter_nil]
      simp
     ·have e2:=hadd n
      simp only [Done.add,show (n == i)=false by simpa using e,Bool.or_false] at e2
      simp only [List.filter_cons,e2,List.filter_nil]
      by_cases hlt:i < n
      ·have e4:i < n+1:=by omega
       simp only [hlt,e4,if_true]
       split<;>simp<;>omega
      ·have e4:¬ i < n+1:=by omega
       simp only [hlt,e4,if_false,Nat.add_zero]
   have:=h3 ops.length
   rw [hf,if_pos hil] at this
   omega
  have hgl:∀ j b g,o.guard=some (j,b)->rA ops.toArray j=some g->g∈o.looksAt ops.toArray:=by
   intro j b g hg hgd
   unfold Oper.looksAt
   unfold rA at hgd
   refine List.mem_append_right _ ?_
   rw [hg];simp only [hgd];simp
  unfold wpOp
  simp only [List.getElem?_toArray,ho]
  rcases Nat.lt_trichotomy i L.length with hiL | hiL | hiL
  · -- its outcome is laid
   obtain ⟨ei,hei⟩:∃ e,L[i]? = some e:=⟨_,List.getElem?_eq_getElem hiL⟩
   obtain ⟨hdst,hdn,hs⟩:=hcom.step i o ei ho hei
   have hs:=hs.resolve_left (by rw [hDi];simp)
   have hnext:∀ (ρ':Rho) (a':Act) (w':World),Ext ρ0 ρ'->Fr E ρ' ((frD (fun k=>listed.getD k false) 0 L f0).put ei.dst ei.v) a'->Wd E ρ' (aS (mD (fun k=>listed.getD k false) 0 L m0) ei.U) w' ->
     wpAny E.P .any ops.toArray Q fuel (listed.setIfInBounds i true) a' w':=by
    intro ρ' a' w' hE' h3 h4
    refine ih _ ρ' a' w' L f' m' (by rw [hfun];exact hcom.mono hmono) hrest (by simp [hsz]) hcnt ?_ (fun k hk=>?_) hE' ?_ ?_
    ·rw [hfun];exact tO hc ho he
    ·rw [hadd k,Done.add,hbeyond k hk];simp;omega
    ·rw [hfun];exact h3.congr fun t=>Lg hlen h hc ho hDi hei t
    ·rw [hfun];exact h4.congr fun d=>Lh hcom.keys hlen h hc ho hDi hei d
   have hlook:∀ t,t∈o.looksAt ops.toArray->frD (fun k=>listed.getD k false) 0 L f0 t=frD (fun k=>decide (k < i)) 0 L f0 t:=fun t ht=>vt hlen h hc ho hDi he hei ht
   rcases hs with ⟨hg,hU,hout⟩ | ⟨j,b,c,g,hg,hgd,hgn,hb,hne,hv,hR,hUn⟩
   ·have hw:Region.wanted o (yielded ops.toArray a.tmps)=true:=by
      rcases hg with hg | ⟨j,b,g,hg,hgd,hgn,hb⟩
      ·exact iu hg
      ·have:=hlook g (hgl j b g hg hgd)
       rw [hb] at this
       simp [Region.wanted,hg,jp h1 hgd hgn this]
    rw [if_pos hw]
    refine .inl (Oper.wp_step hout (fun t ht=>hlook t (uH ht)) (fun d hd=>vu hlen h hc ho hDi he hei hd) hdn h1 h2 fun ρ' a' w' hE' h3 h4=>?_)
    rw [<- hdst] at h3
    exact hnext ρ' a' w' (hE.trans hE') h3 h4
   ·have hw:Region.wanted o (yielded ops.toArray a.tmps)=false:=by
      have:=hlook g (hgl j b g hg hgd)
      rw [hb] at this
      exact re h1 hg hgd hgn this hne
    rw [if_neg (by rw [hw];simp)]
    refine hnext ρ _ w hE ?_ ?_
    ·rw [hdst,hv];exact h1.put hdn rfl
    ·rw [hUn];exact h2
  · -- its outcome is open
   subst hiL
   rcases hrest with ⟨hLe,_,_⟩ | ⟨o',ho',hdn,R,C,hg,hout,hU,hok,hrec⟩
   ·omega
   rw [ho] at ho';cases ho'
   simp only [Bool.and_eq_true] at hok
   have hp:∀ (D:Done),D L.length=false->frD D 0 (L++[gg o R]) f0=frD D 0 L f0:=fun D hD=>by rw [lc,Nat.zero_add,hD];simp
   have hp2:∀ (D:Done),D L.length=false->mD D 0 (L++[gg o R]) m0=mD D 0 L m0:=fun D hD=>by rw [pN,Nat.zero_add,hD];simp
   have hoe:(L++[gg o R])[L.length]? = some (gg o R):=by simp
   have hlook:∀ t,t∈o.looksAt ops.toArray->frD (fun k=>listed.getD k false) 0 L f0 t=f' t:=fun t ht=>by
    have:=vt (L:=L++[gg o R]) (f0:=f0) (by simp;omega) hok.2 hc ho hDi he hoe ht
    rw [hp _ hDi,hp _ (by simp),hcom.fin] at this
    exact this
   have hmem:∀ d,d∈R->mD (fun k=>listed.getD k false) 0 L m0 d=m' d:=fun d hd=>by
    have:=vu (L:=L++[gg o R]) (m0:=m0) (by simp;omega) hok.2 hc ho hDi he hoe (d:=d) hd
    rw [hp2 _ hDi,hp2 _ (by simp),hcom.finm] at this
    exact this
   have hw:Region.wanted o (yielded ops.toArray a.tmps)=true:=by
    rcases hg with hg | ⟨j,b,g,hg,hgd,hgn,hb⟩
    ·exact iu hg
    ·have:=hlook g (hgl j b g hg hgd)
     rw [hb] at this
     simp [Region.wanted,hg,jp h1 hgd hgn this]
   rw [if_pos hw]
   refine .inl (hout _ _ (fun t ht=>hlook t (uH ht)) hmem ρ a w h1 h2 _ _ fun ρ' x w' v U hC hE' hv hwd=>?_)
   have hcom2:Com E ops f0 m0 (Done.add (fun k=>listed.getD k false) L.length) (L++[⟨o.dst,v,R,U⟩]) (f'.put o.dst v) (aS m' U) :=
    (hcom.mono hmono).snoc (e:=⟨o.dst,v,R,U⟩) ho rfl hdn (hU v U hC) (.inl (by simp [Done.add]))
   obtain ⟨L2,f2,m2,⟨X,rfl⟩,hx3,hr3⟩:=(hrec v U hC).advance (by simp) hcom2
   have hDL:∀ k,L.length+1<=k->Done.add (fun k=>listed.getD k false) L.length k=false:=fun k hk=>by
    rw [Done.add,hbeyond k (by omega)];simp;omega
   have hsub:∀ t,frD (Done.add (fun k=>listed.getD k false) L.length) 0 L f0 t=frD (fun k=>listed.getD k false) 0 L f0 t:=fun t=>fw t L 0 _ _ _ _ (fun k e hk _=>by
    have:=(List.getElem?_eq_some_iff.1 hk).1
    simp [Done.add];omega) rfl
   have hsub2:∀ d,mD (Done.add (fun k=>listed.getD k false) L.length) 0 L m0 d=mD (fun k=>listed.getD k false) 0 L m0 d:=fun d=>g9 d L 0 _ _ _ _ (fun k e hk _=>by
    have:=(List.getElem?_eq_some_iff.1 hk).1
    simp [Done.add];omega) rfl
   refine ih _ ρ' _ w' _ f2 m2 (by rw [hfun];exact hx3) hr3 (by simp [hsz]) hcnt ?_ (fun k hk=>?_) (hE.trans hE') ?_ ?_
   ·rw [hfun];exact tO hc ho he
   ·rw [hadd k];exact hDL k (by simp at hk;omega)
   ·rw [hfun,oz _ _ _ _ _ (fun k hk=>hDL k (by simp at hk;omega)),lc,Nat.zero_add]
    rw [show Done.add (fun k=>listed.getD k false) L.length L.length=true by simp [Done.add],if_pos rfl,funext hsub]
    exact (h1.ext hE').put hdn hv
   ·rw [hfun,qP _ _ _ _ _ (fun k hk=>hDL k (by simp at hk;omega)),pN,Nat.zero_add]
    rw [show Done.add (fun k=>listed.getD k false) L.length L.length=true by simp [Done.add],if_pos rfl,funext hsub2]
    exact hwd
  · -- it is bound to follow
   exfalso
   rcases hrest with ⟨hLe,_,_⟩ | ⟨o',ho',hdn,R,C,hg,hout,hU,hok,hrec⟩
   ·omega
   simp only [Bool.and_eq_true] at hok
   have h3:=hok.1
   simp only [vM,List.all_eq_true,List.mem_range,Bool.or_eq_true,decide_eq_true_eq] at h3
   rcases h3 i hil with h4 | h4
   ·omega
   ·have:=oD hc ho he h4
    rw [hbeyond _ (Nat.le_refl _)] at this
    cases this
end
theorem gT (n k:Nat):(Array.replicate n false).getD k false=false:=by
 rw [Array.getD_eq_getD_getElem?,Array.getElem?_replicate];split<;>rfl
theorem LexT.drawn {E:Env} {ops:List Oper} {f:Frm} {m:Mem} {K:Frm->Mem->Prop} (hx:LexT E ops true ops f m [] K) (hmix:E.P.follows .mixedOrders=true) {id:Nat} {ρ:Rho} {a:Act} {w:World} {Q:Exit->Act->World->Prop} (h1:Fr E ρ f a) (h2:Wd E ρ m w)
    (hQ:∀ f' m' ρ' a' w',K f' m'->Ext ρ ρ'->Fr E ρ' f' a'->Wd E ρ' m' w'->Q .normal a' w'):(Code.region id ops.toArray true).wp E.P Q a w:=by
 obtain ⟨L2,f2,m2,⟨X,rfl⟩,hx2,hr2⟩:=hx.advance (f0:=f) (m0:=m) (D:=fun k=>(Array.replicate ops.toArray.size false).getD k false) (by simp) ⟨by simp,fun k e hk=>by simp at hk,fun i o e _ hk=>by simp at hk,rfl,rfl⟩
 refine wp_region_any hmix (IM (ρ0:=ρ) (fun f' m' ρ' a' w' hK hE h3 h4=>hQ f' m' ρ' a' w' hK hE h3 h4) _ _ ρ a _ _ f2 m2 hx2 hr2 (by simp) ?_ ?_ (fun k _=>gT _ _) (Ext.refl _) ?_ ?_)
 ·rw [List.filter_eq_self.2 (by intro k hk;rw [gT];rfl)]
  simp
 ·intro j o hj hD
  simp only [gT] at hD
  cases hD
 ·rw [yC _ _ _ _ (by intro k;exact gT _ _)];exact h1
 ·rw [Cc _ _ _ _ (by intro k;exact gT _ _)];exact h2.drew
theorem LexT.undrawn {E:Env} {ops:List Oper} {f:Frm} {m:Mem} {K:Frm->Mem->Prop} (hx:LexT E ops false ops f m [] K) {id:Nat} {ρ:Rho} {a:Act} {w:World} {Q:Exit->Act->World->Prop} (h1:Fr E ρ f a) (h2:Wd E ρ m w)
    (hQ:∀ f' m' ρ' a' w',K f' m'->Ext ρ ρ'->Fr E ρ' f' a'->Wd E ρ' m' w'->Q .normal a' w'):(Code.region id ops.toArray false).wp E.P Q a w:=by
 refine wp_region ?_
 have:=hx.plain (k:=0) (Q:=Q) (by simp) h1 h2 hQ
 rw [List.range_eq_range']
 simpa using this
end Go.SX
namespace Go.SX
open Go Go.RowKit

/-! ### what is known of the types -/
structure TI where
 /-- is it a struct or an array -/
 row:Bool
 size:Nat
 zero:Array Value
 /-- 1: a struct, 2: an array, 3: a slice, 4: an integer, 5: bool -/
 kind:Nat:=0
 fields:List (Nat×TypeId):=[]
 len:Nat:=0
 elem:TypeId:=0
 ik:IntKind:=.i64
def TI.says (i:TI) (d:TypeDesc):Prop:=match i.kind with
 | 1=>∃ fs,d=.struct fs/\fs.toList.map (fun f=>(f.offset,f.type))=i.fields
 | 2=>d=.array i.len i.elem
 | 3=>d=.slice i.elem
 | 4=>d=.int i.ik
 | 5=>d=.bool
 | _=>True
structure TIok (P:Program) (ty:TypeId) (i:TI):Prop where
 size:(P.info? ty).map (·.size)=some i.size
 desc:∃ d,P.underlying ty=some d/\d.isRow=i.row/\i.says d
 zero:((P.info? ty).bind (·.zero)).map Value.cells=some i.zero
 zsize:i.zero.size=i.size
theorem run_sizeOf {P:Program} {ty:TypeId} {i:TI} (h:TIok P ty i) (w:World):(sizeOf ty).run P w=.ok i.size w:=by
 have:=h.size
 cases hq:P.info? ty with
 | none=>simp [hq] at this
 | some j=>simp [hq] at this;simp [sizeOf,typeInfo,hq,this]
theorem qx {P:Program} {ty:TypeId} {i:TI} (h:TIok P ty i) (w:World):(isAgg ty).run P w=.ok i.row w:=by
 obtain ⟨d,hd,hr,_⟩:=h.desc
 unfold isAgg
 rw [Sem.run_bind,run_underlying hd w,<- hr]
 cases d<;>rfl
theorem je {P:Program} {ty:TypeId} {i:TI} (h:TIok P ty i) (w:World):∃ v,(zeroValue ty).run P w=.ok v w/\v.cells=i.zero:=by
 have:=h.zero
 cases hq:P.info? ty with
 | none=>simp [hq] at this
 | some j =>
  simp only [hq,Option.bind_some,Option.map_eq_some_iff] at this
  obtain ⟨v,h1,h2⟩:=this
  exact ⟨v,by simp [zeroValue,typeInfo,hq,h1],h2⟩

/-! ### the world -/
theorem Blk.rel_tied {ρ:Rho}:∀ {B:Blk} {o:Obj},Blk.rel ρ B o->B.tied=true
 | .inl _,_,_=>rfl
 | .inr (.inl _),_,_=>rfl
 | .inr (.inr _),_,h=>h.elim
theorem Wd.tied_of {E:Env} {ρ:Rho} {m:Mem} {w:World} (h:Wd E ρ m w) {d:Key} {k:Nat} (hd:ρ d=some k):∃ B,m d=some B/\B.tied=true:=by
 cases hm:m d with
 | none=>rw [h.dom d hm] at hd;cases hd
 | some B =>
  cases ht:B.tied with
  | true=>exact ⟨B,rfl,ht⟩
  | false=>rw [(h.loose d B hm ht).1] at hd;cases hd
theorem Wd.of_old {E:Env} {ρ:Rho} {m:Mem} {w w':World} {k:Nat} {d:Key} {B':Blk} {o':Obj} (h:Wd E ρ m w) (hos:w'.os=w.os) (htape:w'.tape=w.tape) (hout:w'.output=w.output) (hsz:w'.heap.size=w.heap.size)
    (hd:ρ d=some k) (hk:w'.heap[k]? = some o') (hB:Blk.rel ρ B' o') (hoth:∀ j,j≠k->w'.heap[j]? = w.heap[j]?):Wd E ρ (aS m [(d,B')]) w':=by
 obtain ⟨B,hmB,hBt⟩:=h.tied_of hd
 have hB't:=Blk.rel_tied hB
 refine ⟨hos.trans h.os,htape.trans h.tape,hout.trans h.output,by rw [hsz];exact h.size,fun j hj hx=>?_,fun e B2 he ht2=>?_,fun e he=>?_,fun e B2 he ht2=>?_,fun e B2 b he hb=>?_,h.inj,fun e j B2 he hm' ht2=>?_⟩
 ·obtain ⟨k',o,h1,h2,h3,h4⟩:=h.blk d B hmB hBt
  rw [hd] at h1;cases h1
  rw [hoth j (by rintro rfl;rcases h2 with h2 | h2;· omega
                 ·exact hx h2)]
  exact h.old j hj hx
 ·by_cases e1:d=e
  ·subst e1
   simp only [aS,lk,if_true,Option.some.injEq] at he
   subst he
   obtain ⟨k',o,h1,h2,h3,h4⟩:=h.blk d B hmB hBt
   rw [hd] at h1;cases h1
   exact ⟨k,o',hd,h2,hk,hB⟩
  ·simp only [aS,lk,if_neg e1] at he
   obtain ⟨k',o,h1,h2,h3,h4⟩:=h.blk e B2 he ht2
   refine ⟨k',o,h1,h2,?_,h4⟩
   rw [hoth k' (by rintro rfl;exact e1 (h.inj _ _ _ hd h1))]
   exact h3
 ·by_cases e1:d=e
  ·subst e1;simp [aS,lk] at he
  ·simp only [aS,lk,if_neg e1] at he
   exact h.dom e he
 ·by_cases e1:d=e
  ·subst e1
   simp only [aS,lk,if_true,Option.some.injEq] at he
   subst he
   rw [hB't] at ht2;cases ht2
  ·simp only [aS,lk,if_neg e1] at he
   obtain ⟨h1,h2⟩:=h.loose e B2 he ht2
   refine ⟨h1,Blk.at_same (fun b hb=>hoth b ?_) h2⟩
   rintro rfl
   exact (h.sep e B2 b he hb).2.1 d hd
 ·by_cases e1:d=e
  ·subst e1
   simp only [aS,lk,if_true,Option.some.injEq] at he
   subst he
   rw [Blk.num_none hB't] at hb;cases hb
  ·simp only [aS,lk,if_neg e1] at he
   obtain ⟨h1,h2,h3⟩:=h.sep e B2 b he hb
   refine ⟨h1,h2,fun e' B3 he' hb'=>?_⟩
   by_cases e2:d=e'
   ·subst e2
    simp only [aS,lk,if_true,Option.some.injEq] at he'
    subst he'
    rw [Blk.num_none hB't] at hb';cases hb'
   ·simp only [aS,lk,if_neg e2] at he'
    exact h3 e' B3 he' hb'
 ·by_cases e1:d=e
  ·subst e1;exact h.par d j B he hmB hBt
  ·simp only [aS,lk,if_neg e1] at hm';exact h.par e j B2 he hm' ht2
def Rho.set (ρ:Rho) (d:Key) (k:Nat):Rho:=fun e=>if e=d then some k else ρ e
theorem Rho.set_ext {ρ:Rho} {d:Key} {k:Nat} (h:ρ d=none):Ext ρ (ρ.set d k):=fun e j he=>by
 unfold Rho.set
 by_cases e1:e=d
 ·subst e1;rw [h] at he;cases he
 ·rw [if_neg e1];exact he
theorem Wd.lt {E:Env} {ρ:Rho} {m:Mem} {w:World} (h:Wd E ρ m w) {d:Key} {k:Nat} (hd:ρ d=some k):k < w.heap.size:=by
    obtain ⟨B,hm,ht⟩:=h.tied_of hd
    obtain ⟨k',o,h1,h2,h3,h4⟩:=h.blk d B hm ht
    rw [hd] at h1;cases h1
    exact (Array.getElem?_eq_some_iff.1 h3).1
theorem Wd.alloc {E:Env} {ρ:Rho} {m:Mem} {w:World} (h:Wd E ρ m w) {d:Key} {B:Blk} {o:Obj} (hm:m d=none) (hpk:E.pk.any (·.1 == d)=false) (hB:Blk.rel ρ B o):Wd E (ρ.set d w.heap.size) (aS m [(d,B)]) (w.alloc o):=by
 have hρ:=h.dom d hm
 have hnew:(w.alloc o).heap[w.heap.size]? = some o:=heap_alloc_new w o
 have hold:∀ j,j < w.heap.size->(w.alloc o).heap[j]? = w.heap[j]?:=fun j hj=>Below.heap_alloc w o j hj
 have hBt:=Blk.rel_tied hB
 refine ⟨h.os,h.tape,h.output,by show _<=(w.heap.push o).size;rw [Array.size_push];have:=h.size;omega,fun j hj hx=>?_,fun e B2 he ht2=>?_,fun e he=>?_,fun e B2 he ht2=>?_,fun e B2 b he hb=>?_,fun e1 e2 k h1 h2=>?_,fun e j B2 he hm' ht2=>?_⟩
 ·rw [hold j (by have:=h.size;omega)];exact h.old j hj hx
 ·by_cases e1:d=e
  ·subst e1
   simp only [aS,lk,if_true,Option.some.injEq] at he
   subst he
   exact ⟨w.heap.size,o,by simp [Rho.set],.inl h.size,hnew,Blk.rel_ext (Rho.set_ext hρ) hB⟩
  ·simp only [aS,lk,if_neg e1] at he
   obtain ⟨k',o',h1,h2,h3,h4⟩:=h.blk e B2 he ht2
   exact ⟨k',o',Rho.set_ext hρ _ _ h1,h2,by rw [hold k' (h.lt h1)];exact h3,Blk.rel_ext (Rho.set_ext hρ) h4⟩
 ·by_cases e1:d=e
  ·subst e1;simp [aS,lk] at he
  ·simp only [aS,lk,if_neg e1] at he
   simp only [Rho.set,if_neg (fun e2=>e1 (Eq.symm e2))]
   exact h.dom e he
 ·by_cases e1:d=e
  ·subst e1
   simp only [aS,lk,if_true,Option.some.injEq] at he
   subst he
   rw [hBt] at ht2;cases ht2
  ·simp only [aS,lk,if_neg e1] at he
   obtain ⟨h1,h2⟩:=h.loose e B2 he ht2
   refine ⟨by simp only [Rho.set,if_neg (fun e2=>e1 (Eq.symm e2))];exact h1,Blk.at_same (fun b hb=>hold b (Blk.at_lt h2 hb)) h2⟩
 ·by_cases e1:d=e
  ·subst e1
   simp only [aS,lk,if_true,Option.some.injEq] at he
   subst he
   rw [Blk.num_none hBt] at hb;cases hb
  ·simp only [aS,lk,if_neg e1] at he
   obtain ⟨h1,h2,h3⟩:=h.sep e B2 b he hb
   have hlt:b < w.heap.size:=by
    cases ht:B2.tied with
    | true=>rw [Blk.num_none ht] at hb;cases hb
    | false=>exact Blk.at_lt (h.loose e B2 he ht).2 hb
   refine ⟨h1,fun e'=>?_,fun e' B3 he' hb'=>?_⟩
   ·simp only [Rho.set]
    split
    ·intro hh;cases hh;omega
    ·exact h2 e'
   ·by_cases e2:d=e'
    ·subst e2
     simp only [aS,lk,if_true,Option.some.injEq] at he'
     subst he'
     rw [Blk.num_none hBt] at hb';cases hb'
    ·simp only [aS,lk,if_neg e2] at he'
     exact h3 e' B3 he' hb'
 ·simp only [Rho.set] at h1 h2
  split at h1<;>split at h2
  ·rename_i a b;rw [a,b]
  ·cases h1;have:=h.lt h2;omega
  ·cases h2;have:=h.lt h1;omega
  ·exact h.inj _ _ _ h1 h2
 ·have hne:e≠d:=by
    rintro rfl
    have:=List.any_eq_false.1 hpk (e,j) he
    simp at this
  simp only [Rho.set,if_neg hne]
  simp only [aS,lk,if_neg (Ne.symm hne)] at hm'
  exact h.par e j B2 he hm' ht2
theorem Du {w:World} {k:Nat} {A:Array Value} {ty:TypeId} (h:w.heap[k]? = some (.cells A ty (0,0))) (off:Nat):w.rangeAt k off (A.toList.drop off):=by
 intro j v hj
 rw [List.getElem?_drop] at hj
 simp only [World.cell?,h]
 simpa using hj
theorem cu {w:World} {k:Nat} {A:Array Value} {ty:TypeId} (h:w.heap[k]? = some (.cells A ty (0,0))) (off:Nat):w.cell? ⟨k,off,none⟩=A[off]?:=by
 simp [World.cell?,h]
theorem gS {w:World} {k:Nat} {A:Array Value} {ty:TypeId} (h:w.heap[k]? = some (.cells A ty (0,0))) (off:Nat):w.frozen? ⟨k,off,none⟩=false:=by
 simp [World.frozen?,h]
theorem ri {w:World} {k:Nat} {A:Array Value} {ty:TypeId} (h:w.heap[k]? = some (.cells A ty (0,0))) (off:Nat) (v:Value) :
    (w.setCell ⟨k,off,none⟩ v).heap[k]? = some (.cells (A.setIfInBounds off v) ty (0,0)):=by
 simp [World.setCell,Array.getElem?_modify,h]
def aM (A:Array Value) (off:Nat):List Value->Array Value
 | []=>A
 | v :: r=>aM (A.setIfInBounds off v) (off+1) r
theorem dC {k:Nat} {ty:TypeId}:∀ (l:List Value) (off:Nat) (w:World) (A:Array Value),w.heap[k]? = some (.cells A ty (0,0))->(w.setCells k off l).heap[k]? = some (.cells (aM A off l) ty (0,0))
 | [],off,w,A,h=>h
 | v :: r,off,w,A,h=>by rw [World.setCells];exact dC r (off+1) _ _ (ri h off v)
theorem cS {k:Nat}:∀ (l:List Value) (off:Nat) (w:World) (j:Nat),j≠k->(w.setCells k off l).heap[j]? = w.heap[j]?
 | [],off,w,j,h=>rfl
 | v :: r,off,w,j,h=>by rw [World.setCells,cS r (off+1) _ j h];exact Below.heap_setCell _ _ _ _ h
theorem dk (k:Nat):∀ (l:List Value) (off:Nat) (w:World),(w.setCells k off l).os=w.os/\(w.setCells k off l).tape=w.tape/\(w.setCells k off l).output=w.output/\(w.setCells k off l).heap.size=w.heap.size
 | [],off,w=>⟨rfl,rfl,rfl,rfl⟩
 | v :: r,off,w=>by
  rw [World.setCells]
  obtain ⟨h1,h2,h3,h4⟩:=dk k r (off+1) (w.setCell ⟨k,off,none⟩ v)
  exact ⟨h1,h2,h3,h4.trans (by simp [World.setCell])⟩
theorem co:∀ (l:List Value) (off:Nat) (A:Array Value),(aM A off l).size=A.size
 | [],_,_=>rfl
 | v :: r,off,A=>by rw [aM,co r];simp
theorem ct:∀ (l:List Value) (off:Nat) (A:Array Value) (j:Nat),(aM A off l)[j]? = if j < off\/off+l.length<=j then A[j]? else if j < A.size then l[j - off]? else none
 | [],off,A,j=>by
  by_cases h:j < off\/off+([]:List Value).length<=j
  ·rw [if_pos h];rfl
  ·simp at h;omega
 | v :: r,off,A,j=>by
  rw [aM,ct r (off+1) _ j]
  by_cases h1:j < off
  ·rw [if_pos (by omega),if_pos (by omega),Array.getElem?_setIfInBounds_ne (by omega)]
  ·by_cases h2:j=off
   ·subst h2
    rw [if_pos (by omega),if_neg (by simp)]
    rw [Array.getElem?_setIfInBounds_self]
    simp
   ·by_cases h3:off+(v :: r).length<=j
    ·simp at h3
     rw [if_pos (by omega),if_pos (by simp;omega),Array.getElem?_setIfInBounds_ne (by omega)]
    ·simp at h3
     have e1:¬ (j < off+1\/off+1+r.length<=j):=by omega
     have e2:¬ (j < off\/off+(v :: r).length<=j):=by simp;omega
     rw [if_neg e1,if_neg e2,Array.size_setIfInBounds,show j - off=(j - (off+1))+1 by omega,List.getElem?_cons_succ]
theorem vP {A B:Array Value} (h:B.size=A.size):aM A 0 B.toList=B:=by
 apply Array.ext_getElem?
 intro j
 rw [ct]
 by_cases hj:j < B.size
 ·rw [if_neg (by simp;omega),if_pos (by omega)];simp
 ·rw [if_pos (by simp;omega),Array.getElem?_eq_none (by omega),Array.getElem?_eq_none (by omega)]

abbrev bB:=List (Tmp×SV)
abbrev aA:=List (Key×Blk)
def aB:bB->Frm
 | [],_=>SV.bad
 | (k,v) :: r,t=>if k=t then v else aB r t
def aw:aA->Mem
 | [],_=>none
 | (k,v) :: r,t=>if k=t then some v else aw r t
def FY:aA->Key->Blk->aA
 | [],d,B=>[(d,B)]
 | (k,v) :: r,d,B=>if k=d then (d,B) :: r else (k,v) :: FY r d B
def Db (m:aA):List (Key×Blk)->aA
 | []=>m
 | (d,B) :: r=>FY (Db m r) d B
def vX (f:bB) (d:Option Tmp) (v:SV):bB:=match d with
 | some d=>(d,v) :: f
 | none=>f
theorem th (f:bB) (d:Option Tmp) (v:SV):aB (vX f d v)=(aB f).put d v:=by
 funext t
 cases d with
 | none=>rfl
 | some d=>simp only [vX,aB,Frm.put];rcases Decidable.em (d=t) with e | e<;>simp [e,eq_comm (a:=t)]
theorem yx:∀ (m:aA) (d:Key) (B:Blk) (e:Key),aw (FY m d B) e=if d=e then some B else aw m e
 | [],d,B,e=>by simp [FY,aw]
 | (k,v) :: r,d,B,e=>by
  simp only [FY]
  by_cases h1:k=d
  ·subst h1;simp only [if_true,aw];by_cases h2:k=e<;>simp [h2]
  ·simp only [if_neg h1,aw,yx r d B e]
   by_cases h2:k=e
   ·subst h2;simp [Ne.symm h1]
   ·simp [h2]
theorem yw (m:aA):∀ (U:List (Key×Blk)),aw (Db m U)=aS (aw m) U
 | []=>rfl
 | (d,B) :: r=>by
  funext e
  simp only [Db,yx,aS,lk]
  by_cases h:d=e
  ·simp [h]
  ·simp only [if_neg h]
   have:=congrFun (yw m r) e
   rw [this];rfl
def evF (f:Frm):Operand->SV
 | .tmp t=>f t
 | .const v=>SV.c v
 | .global g=>SV.c (.pointer (some ⟨g,0,none⟩))
 | .func f=>SV.c (.func (.func f) #[] #[])
theorem az {E:Env} {ρ:Rho} {f:Frm} {a:Act} (h:Fr E ρ f a):∀ x:Operand,SV.rel ρ (evF f x) (a.eval x)
 | .tmp t=>h.rel t
 | .const _=>rfl
 | .global _=>rfl
 | .func _=>rfl
theorem di {o:Oper} {f f':Frm} (h:∀ t,t∈gm o->f' t=f t) {x:Operand} (hx:x∈o.op.operands.toList):evF f' x=evF f x:=by
 cases x with
 | tmp t =>
  refine h t ?_
  unfold gm
  rw [List.mem_filterMap]
  exact ⟨_,hx,rfl⟩
 | const v=>rfl
 | global g=>rfl
 | func f=>rfl

structure VE extends Env where
 tt:TypeId->Option TI
 /-- the regions at which a joint is laid -/
 cuts:List Nat:=[]
 /-- are lists of the call's own known -/
 own:Bool:=false
def VOk (E:VE):Prop:=∀ ty i,E.tt ty=some i->TIok E.P ty i
structure OldW (E:Env) (w:World):Prop where
 os:w.os=E.w0.os
 tape:w.tape=E.w0.tape
 output:w.output=E.w0.output
 size:E.w0.heap.size<=w.heap.size
 old:∀ k,k < E.w0.heap.size->k∉E.X->w.heap[k]? = E.w0.heap[k]?
theorem Wd.oldW {E:Env} {ρ:Rho} {m:Mem} {w:World} (h:Wd E ρ m w):OldW E w:=⟨h.os,h.tape,h.output,h.size,h.old⟩
def fU (ρ:Rho):List SV->List Value->Prop
 | [],[]=>True
 | s :: ss,x :: xs=>SV.rel ρ s x/\fU ρ ss xs
 | _,_=>False
def Enters (P:Program) (f:FuncId):Prop:=∃ fn c,P.funcs[f]? = some fn/\fn.body=some c/\(fn.name == "runtime.NumGoroutine")=false
theorem Enters.run {P:Program} {f:FuncId} (h:Enters P f) (args:Array Value) (w:World):(callFunc f args).run P w=.ok (.enter f args) w:=by
 obtain ⟨fn,c,h1,h2,h3⟩:=h
 have h4:¬ fn.name = "runtime.NumGoroutine" := by simpa using h3
 simp [callFunc,program,Sem.run,h1,h2,h4]
def ay (P:Program) (f:FuncId) (args:List SV) (v:Value):Prop :=
 Enters P f/\∀ ρ w xs,fU ρ args xs->Calls P f xs.toArray w fun e w'=>e=.returned v/\Below w.heap.size w w'
def Mm (ρ:Rho) (pre:aA) (w:World):Prop:=∀ p,p∈pre->∃ k o,ρ p.1=some k/\w.heap[k]? = some o/\Blk.rel ρ p.2 o
structure After (ρ ρ':Rho) (post:aA) (w w':World):Prop where
 os:w'.os=w.os
 tape:w'.tape=w.tape
 output:w'.output=w.output
 size:w.heap.size<=w'.heap.size
 old:∀ k,k < w.heap.size->(∀ p,p∈post->ρ p.1≠some k)->w'.heap[k]? = w.heap[k]?
 blk:∀ d B,aw post d=some B->∃ k o,ρ' d=some k/\(ρ d=some k\/w.heap.size<=k)/\w'.heap[k]? = some o/\Blk.rel ρ' B o
 dom:∀ d,aw post d=none->ρ' d=ρ d
 inj:∀ d e k,ρ' d=some k->ρ' e=some k->d=e
 ext:Ext ρ ρ'
def Own (E:Env) (f:FuncId) (args:List SV) (pre:aA) (v:SV) (post:aA):Prop :=
 Enters E.P f/\(∀ p,p∈pre->p.2.tied=true)/\∀ ρ w xs,(∀ d e k,ρ d=some k->ρ e=some k->d=e)->(∀ d k,ρ d=some k->k < w.heap.size)->(∀ p,p∈post->aw pre p.1=none->ρ p.1=none)->fU ρ args xs->Mm ρ pre w->OldW E w->(∀ p,p∈pre->∀ k,ρ p.1=some k->E.w0.heap.size<=k\/k∈E.X) ->
  Calls E.P f xs.toArray w fun e w'=>∃ ρ' x,e=.returned x/\SV.rel ρ' v x/\After ρ ρ' post w w'
def bH (E:Env) (s:Sem Value) (r:Value):Prop:=∀ w,OldW E w->s.run E.P w=.ok r w
structure Fits (A:Array Value) (n:Nat):Prop where
 size:A.size=n
 one:A.all (·.oneCell')=true

theorem aT {E:Env} {o:Oper} {f:Frm} {m:Mem} {R:List Key} {v:SV} {U:List (Key×Blk)}
    (h:∀ f' m' ρ a w,(∀ x,x∈o.op.operands.toList->evF f' x=evF f x)->(∀ d,d∈R->m' d=m d)->Fr E ρ f' a->Wd E ρ m' w ->
     ∃ ρ' x w',(execOp a.eval o).run E.P w=.ok (.value x) w'/\Ext ρ ρ'/\SV.rel ρ' v x/\Wd E ρ' (aS m' U) w'):Out E o f m R v U:=by
 intro f' m' hf hm ρ a w h1 h2 K Q hK
 obtain ⟨ρ',x,w',hr,he,hv,hw⟩:=h f' m' ρ a w (fun x hx=>di hf hx) hm h1 h2
 unfold Oper.wp
 rw [hr]
 exact hK ρ' x w' he hv hw
theorem fM {E:Env} {o:Oper} {f:Frm} {m:Mem} {R:List Key} {U:List (Key×Blk)}
    (h:∀ f' m' ρ a w,(∀ x,x∈o.op.operands.toList->evF f' x=evF f x)->(∀ d,d∈R->m' d=m d)->Fr E ρ f' a->Wd E ρ m' w ->
     ∃ w',(execOp a.eval o).run E.P w=.ok .skip w'/\Wd E ρ (aS m' U) w'):Out E o f m R (SV.c undef) U:=by
 intro f' m' hf hm ρ a w h1 h2 K Q hK
 obtain ⟨w',hr,hw⟩:=h f' m' ρ a w (fun x hx=>di hf hx) hm h1 h2
 unfold Oper.wp
 rw [hr]
 exact hK ρ undef w' (Ext.refl _) rfl hw
theorem bg {E:Env} {o:Oper} {f:Frm} {m:Mem} {v:SV}
    (h:∀ f' ρ a w,(∀ x,x∈o.op.operands.toList->evF f' x=evF f x)->Fr E ρ f' a->OldW E w->∃ x,(execOp a.eval o).run E.P w=.ok (.value x) w/\SV.rel ρ v x):Out E o f m [] v [] :=
 aT fun f' m' ρ a w hf _ h1 h2=>by
  obtain ⟨x,hr,hv⟩:=h f' ρ a w hf h1 h2.oldW
  exact ⟨ρ,x,w,hr,Ext.refl _,hv,h2⟩
section
variable {E:VE} {o:Oper} {f:Frm} {m:Mem}
theorem bf {ρ:Rho} {v x:Value} (h:SV.rel ρ (SV.c v) x):x=v:=h
theorem Gt {x:Operand} (ho:o.op=.move x\/o.op=.assign x):Out E.toEnv o f m [] (evF f x) [] :=
 bg fun f' ρ a w hf h1 _=>by
  refine ⟨a.eval x,?_,?_⟩
  ·rcases ho with ho | ho<;>simp [execOp,ho]
  ·have:=az h1 x
   rwa [hf x (by rcases ho with ho | ho<;>simp [ho,Op.operands])] at this
theorem xR {c x y:Operand} {t:Bool} (ho:o.op=.pick c x y) (hc:evF f c=SV.c (.bool t)):Out E.toEnv o f m [] (match t with | true=>evF f x | false=>evF f y) [] :=
 bg fun f' ρ a w hf h1 _=>by
  have hcc:=az h1 c
  rw [hf c (by simp [ho,Op.operands]),hc] at hcc
  have hcc:=bf hcc
  cases t with
  | true =>
   refine ⟨a.eval x,by simp [execOp,ho,hcc,asBool],?_⟩
   have:=az h1 x
   rwa [hf x (by simp [ho,Op.operands])] at this
  | false =>
   refine ⟨a.eval y,by simp [execOp,ho,hcc,asBool],?_⟩
   have:=az h1 y
   rwa [hf y (by simp [ho,Op.operands])] at this
theorem Dz (hE:VOk E) {ty:TypeId} {d:Key} {i:TI} (ho:o.op=.alloc ty) (hm:m d=none) (hpk:E.pk.any (·.1 == d)=false) (hi:E.tt ty=some i):Out E.toEnv o f m [d] (SV.ptr d 0) [(d,Blk.row ty i.size i.zero)] :=
 aT fun f' m' ρ a w hf hmm h1 h2=>by
  obtain ⟨z,hz,hzc⟩:=je (hE ty i hi) w
  have hm':m' d=none:=(hmm d (by simp)).trans hm
  refine ⟨ρ.set d w.heap.size,.pointer (some ⟨w.heap.size,0,none⟩),w.alloc (.cells i.zero ty),?_,Rho.set_ext (h2.dom d hm'),⟨w.heap.size,by simp [Rho.set],rfl⟩,h2.alloc hm' hpk ⟨(hE ty i hi).zsize,rfl⟩⟩
  simp only [execOp,ho,Instr.alloc,Sem.run_bind,hz,Result.andThen_ok]
  simp [newVar,newRow,newObj,Sem.run,hzc]
theorem uC (_hE:VOk E) {ty:TypeId} {x:Operand} {d:Key} {v:Value} {n:Nat} {A:Array Value} (ho:o.op=.box ty x) (hm:m d=none) (hpk:E.pk.any (·.1 == d)=false) (hx:evF f x=SV.c v) (hA:v.cells=A) (hn:A.size=n):Out E.toEnv o f m [d] (SV.ptr d 0) [(d,Blk.row ty n A)] :=
 aT fun f' m' ρ a w hf hmm h1 h2=>by
  have hm':m' d=none:=(hmm d (by simp)).trans hm
  have hxx:=az h1 x
  rw [hf x (by simp [ho,Op.operands]),hx] at hxx
  have hxx:=bf hxx
  refine ⟨ρ.set d w.heap.size,.pointer (some ⟨w.heap.size,0,none⟩),w.alloc (.cells A ty),?_,Rho.set_ext (h2.dom d hm'),⟨w.heap.size,by simp [Rho.set],rfl⟩,h2.alloc hm' hpk ⟨hn,rfl⟩⟩
  simp [execOp,ho,Instr.box,newVar,newRow,newObj,Sem.run,hxx,hA]
def SV.solid:SV->Prop
 | .inl v=>v.oneCell'=true
 | .inr (.inr (.inr (.inr _)))=>False
 | _=>True
theorem ur {ρ:Rho}:∀ {v:SV} {x:Value},v.solid->SV.rel ρ v x->x.oneCell'=true/\x.cells=#[x]
 | .inl v,x,h,e=>by
  have e:x=v:=e
  subst e
  simp only [SV.solid] at h
  refine ⟨h,?_⟩
  cases x<;>simp_all [Value.oneCell',Value.cells]
 | .inr (.inl _),x,_,⟨b,_,e⟩=>by subst e;exact ⟨rfl,rfl⟩
 | .inr (.inr (.inl _)),x,_,⟨b,_,e⟩=>by subst e;exact ⟨rfl,rfl⟩
 | .inr (.inr (.inr (.inl _))),x,_,⟨bs,_,e⟩=>by subst e;exact ⟨rfl,rfl⟩
theorem xU {ty:TypeId} {x:Operand} {d:Key} {v:SV} (ho:o.op=.box ty x) (hm:m d=none) (hpk:E.pk.any (·.1 == d)=false) (hx:evF f x=v) (hv:v.solid):Out E.toEnv o f m [d] (SV.ptr d 0) [(d,Blk.one ty v)] :=
 aT fun f' m' ρ a w hf hmm h1 h2=>by
  have hm':m' d=none:=(hmm d (by simp)).trans hm
  have hxx:=az h1 x
  rw [hf x (by simp [ho,Op.operands]),hx] at hxx
  refine ⟨ρ.set d w.heap.size,.pointer (some ⟨w.heap.size,0,none⟩),w.alloc (.cells #[a.eval x] ty),?_,Rho.set_ext (h2.dom d hm'),⟨w.heap.size,by simp [Rho.set],rfl⟩,h2.alloc hm' hpk ⟨_,hxx,rfl⟩⟩
  simp [execOp,ho,Instr.box,newVar,newRow,newObj,Sem.run,(ur hv hxx).2]
theorem iR {ρ:Rho} {w:World} {m':Mem} (h2:Wd E.toEnv ρ m' w) {d:Key} {B:Blk} (hm:m' d=some B) (hBt:B.tied=true:=by rfl) {off:Nat} {x:Value} (hx:SV.rel ρ (SV.ptr d off) x):∃ k o,ρ d=some k/\x=.pointer (some ⟨k,off,none⟩)/\w.heap[k]? = some o/\Blk.rel ρ B o:=by
 obtain ⟨k,o,h3,h4,h5,h6⟩:=h2.blk d B hm hBt
 obtain ⟨b,hb,e⟩:=hx
 rw [h3] at hb;cases hb
 exact ⟨k,o,h3,e,h5,h6⟩
theorem drop_take {A:Array Value} {off n:Nat} (_h:off+n<=A.size):∀ (j:Nat) (v:Value),(A.extract off (off+n)).toList[j]? = some v->(A.toList.drop off)[j]? = some v:=by
 intro j v hj
 rw [Array.getElem?_toList,Array.getElem?_extract] at hj
 rw [List.getElem?_drop]
 split at hj
 ·simpa using hj
 ·cases hj
theorem pP {P:Program} {w:World} {k off:Nat} {A:Array Value} {ty t0:TypeId} {i:TI} (hi:TIok P ty i) (hk:w.heap[k]? = some (.cells A t0 (0,0))) (hr:i.row=true) (hn:off+i.size<=A.size) :
    (Instr.loadAt ty (.pointer (some ⟨k,off,none⟩))).run P w=.ok (.agg (A.extract off (off+i.size))) w:=by
 have hs:(A.extract off (off+i.size)).toList.length=i.size:=by simp;omega
 obtain ⟨d,hd,hdr,_⟩:=hi.desc
 have:=run_loadAt_mid (P:=P) w k off ty (A.extract off (off+i.size)).toList d (fun j v hj=>Du hk off j v (drop_take hn j v hj)) hd (hdr.trans hr) (by rw [hi.size,hs])
 simpa only [Array.toArray_toList] using this
theorem eo {P:Program} {w:World} {k off:Nat} {ty:TypeId} {i:TI} {v:Value} (hi:TIok P ty i) (hc:w.cell? ⟨k,off,none⟩=some v) (hr:i.row=false) :
    (Instr.loadAt ty (.pointer (some ⟨k,off,none⟩))).run P w=.ok v w:=by
 simp only [Instr.loadAt,Instr.sureAddr,loadVar,Sem.run_bind,Sem.run_pure,Result.andThen_ok,qx hi,hr]
 simp [load,Sem.run,hc]
theorem v8 (hE:VOk E) {ty:TypeId} {x:Operand} {d:Key} {off n:Nat} {t0:TypeId} {A:Array Value} {i:TI} (ho:o.op=.load ty x) (hx:evF f x=SV.ptr d off) (hm:m d=some (Blk.row t0 n A)) (hi:E.tt ty=some i) (hr:i.row=true) (hn:off+i.size<=n):Out E.toEnv o f m [d] (SV.c (.agg (A.extract off (off+i.size)))) [] :=
 aT fun f' m' ρ a w hf hmm h1 h2=>by
  have hxx:=az h1 x
  rw [hf x (by simp [ho,Op.operands]),hx] at hxx
  obtain ⟨k,ob,h3,h4,h5,h6,h7⟩:=iR h2 ((hmm d (by simp)).trans hm) rfl hxx
  subst h7
  have hl:=pP (hE ty i hi) h5 hr (by rw [h6];exact hn)
  exact ⟨ρ,_,w,by simp only [execOp,ho,h4,Sem.run_bind,hl,Result.andThen_ok,Sem.run_pure],Ext.refl _,rfl,h2⟩
theorem tZ (hE:VOk E) {ty:TypeId} {x:Operand} {d:Key} {off n:Nat} {t0:TypeId} {A:Array Value} {i:TI} {v:Value} (ho:o.op=.load ty x) (hx:evF f x=SV.ptr d off) (hm:m d=some (Blk.row t0 n A)) (hi:E.tt ty=some i) (hr:i.row=false) (hv:A[off]? = some v):Out E.toEnv o f m [d] (SV.c v) [] :=
 aT fun f' m' ρ a w hf hmm h1 h2=>by
  have hxx:=az h1 x
  rw [hf x (by simp [ho,Op.operands]),hx] at hxx
  obtain ⟨k,ob,h3,h4,h5,h6,h7⟩:=iR h2 ((hmm d (by simp)).trans hm) rfl hxx
  subst h7
  have hl:=eo (hE ty i hi) ((cu h5 off).trans hv) hr
  exact ⟨ρ,_,w,by simp only [execOp,ho,h4,Sem.run_bind,hl,Result.andThen_ok,Sem.run_pure],Ext.refl _,rfl,h2⟩
theorem wa (hE:VOk E) {ty:TypeId} {x:Operand} {d:Key} {t0:TypeId} {i:TI} {v:SV} (ho:o.op=.load ty x) (hx:evF f x=SV.ptr d 0) (hm:m d=some (Blk.one t0 v)) (hi:E.tt ty=some i) (hr:i.row=false):Out E.toEnv o f m [d] v [] :=
 aT fun f' m' ρ a w hf hmm h1 h2=>by
  have hxx:=az h1 x
  rw [hf x (by simp [ho,Op.operands]),hx] at hxx
  obtain ⟨k,ob,h3,h4,h5,y,h6,h7⟩:=iR h2 ((hmm d (by simp)).trans hm) rfl hxx
  subst h7
  have hl:=eo (v:=y) (hE ty i hi) ((cu h5 0).trans rfl) hr
  exact ⟨ρ,_,w,by simp only [execOp,ho,h4,Sem.run_bind,hl,Result.andThen_ok,Sem.run_pure],Ext.refl _,h6,h2⟩
theorem qu {P:Program} {w:World} {k off:Nat} {A B:Array Value} {ty t0:TypeId} {i:TI} (hi:TIok P ty i) (hk:w.heap[k]? = some (.cells A t0 (0,0))) (hB:Fits B i.size) (hn:off+i.size<=A.size) :
    (Instr.storeAt ty (.pointer (some ⟨k,off,none⟩)) (.agg B)).run P w=.ok () (w.setCells k off B.toList):=by
 have ht:w.there k off B.size:=fun j hj=>⟨by rw [cu hk,Array.getElem?_eq_getElem (by have:=hB.size;omega)];rfl,gS hk _⟩
 have:=run_storeVar_mid (P:=P) w k off ty B ht (by rw [hi.size,hB.size]) hB.one
 simp only [Instr.storeAt,Instr.sureAddr,Sem.run_bind,Sem.run_pure,Result.andThen_ok,this]
theorem jt {P:Program} {w:World} {k off:Nat} {ty:TypeId} {i:TI} {u v:Value} (hi:TIok P ty i) (hc:w.cell? ⟨k,off,none⟩=some u) (hf:w.frozen? ⟨k,off,none⟩=false) (hv:v.oneCell'=true) (hs:i.size=1) :
    (Instr.storeAt ty (.pointer (some ⟨k,off,none⟩)) v).run P w=.ok () (w.setCell ⟨k,off,none⟩ v):=by
 have hcs:v.cells=#[v]:=by cases v<;>simp_all [Value.oneCell',Value.cells]
 have hst:=run_store P w ⟨k,off,none⟩ v .plain hv
 simp only [hc,hf] at hst
 simp only [Instr.storeAt,Instr.sureAddr,storeVar,Sem.run_bind,Sem.run_pure,Result.andThen_ok,run_sizeOf hi,hcs,hs]
 simp [storeCells,Addr.add_zero',hst]
end
section
variable {E:VE} {o:Oper} {f:Frm} {m:Mem}
theorem tY (hE:VOk E) {ty:TypeId} {x y:Operand} {d:Key} {off n:Nat} {t0:TypeId} {A B:Array Value} {i:TI} (ho:o.op=.store ty x y) (hx:evF f x=SV.ptr d off) (hy:evF f y=SV.c (.agg B)) (hm:m d=some (Blk.row t0 n A)) (hi:E.tt ty=some i) (hB:Fits B i.size) (hn:off+i.size<=n) :
    Out E.toEnv o f m [d] (SV.c undef) [(d,Blk.row t0 n (aM A off B.toList))] :=
 fM fun f' m' ρ a w hf hmm h1 h2=>by
  have hxx:=az h1 x
  rw [hf x (by simp [ho,Op.operands]),hx] at hxx
  have hyy:=az h1 y
  rw [hf y (by simp [ho,Op.operands]),hy] at hyy
  have hyy:=bf hyy
  obtain ⟨k,ob,h3,h4,h5,h6,h7⟩:=iR h2 ((hmm d (by simp)).trans hm) rfl hxx
  subst h7
  have hl:=qu (hE ty i hi) h5 hB (by rw [h6];exact hn)
  obtain ⟨e1,e2,e3,e4⟩:=dk k B.toList off w
  exact ⟨_,by simp only [execOp,ho,h4,hyy,Sem.run_bind,hl,Result.andThen_ok,Sem.run_pure],h2.of_old e1 e2 e3 e4 h3 (dC _ _ _ _ h5) ⟨by rw [co,h6],rfl⟩ (fun j hj=>cS _ _ _ _ hj)⟩
theorem ry (hE:VOk E) {ty:TypeId} {x y:Operand} {d:Key} {n:Nat} {t0:TypeId} {A B:Array Value} {i:TI} (ho:o.op=.store ty x y) (hx:evF f x=SV.ptr d 0) (hy:evF f y=SV.c (.agg B)) (hm:m d=some (Blk.row t0 n A)) (hi:E.tt ty=some i) (hB:Fits B n) (hn:i.size=n) :
    Out E.toEnv o f m [d] (SV.c undef) [(d,Blk.row t0 n B)] :=
 fM fun f' m' ρ a w hf hmm h1 h2=>by
  have hxx:=az h1 x
  rw [hf x (by simp [ho,Op.operands]),hx] at hxx
  have hyy:=az h1 y
  rw [hf y (by simp [ho,Op.operands]),hy] at hyy
  have hyy:=bf hyy
  obtain ⟨k,ob,h3,h4,h5,h6,h7⟩:=iR h2 ((hmm d (by simp)).trans hm) rfl hxx
  subst h7
  have hl:=qu (hE ty i hi) (off:=0) h5 (by rw [hn];exact hB) (by rw [h6,hn];omega)
  obtain ⟨e1,e2,e3,e4⟩:=dk k B.toList 0 w
  have e5:=dC (k:=k) B.toList 0 w A h5
  rw [vP (by rw [hB.size,h6])] at e5
  exact ⟨_,by simp only [execOp,ho,h4,hyy,Sem.run_bind,hl,Result.andThen_ok,Sem.run_pure],h2.of_old e1 e2 e3 e4 h3 e5 ⟨hB.size,rfl⟩ (fun j hj=>cS _ _ _ _ hj)⟩
theorem rh {ρ:Rho} {m':Mem} {w:World} (h2:Wd E.toEnv ρ m' w) {d:Key} {k off:Nat} {B':Blk} {A:Array Value} {t0:TypeId} {v:Value} (h3:ρ d=some k) (h5:w.heap[k]? = some (.cells A t0 (0,0))) (hB:Blk.rel ρ B' (.cells (A.setIfInBounds off v) t0 (0,0))) :
    Wd E.toEnv ρ (aS m' [(d,B')]) (w.setCell ⟨k,off,none⟩ v) :=
 h2.of_old rfl rfl rfl (by simp [World.setCell]) h3 (ri h5 off v) hB (fun j hj=>Below.heap_setCell _ _ _ _ hj)
theorem sL (hE:VOk E) {ty:TypeId} {x y:Operand} {d:Key} {off n:Nat} {t0:TypeId} {A:Array Value} {v:Value} {i:TI} (ho:o.op=.store ty x y) (hx:evF f x=SV.ptr d off) (hy:evF f y=SV.c v) (hm:m d=some (Blk.row t0 n A)) (hi:E.tt ty=some i) (hs:i.size=1) (hn:off < n) (hv:v.oneCell'=true) :
    Out E.toEnv o f m [d] (SV.c undef) [(d,Blk.row t0 n (A.setIfInBounds off v))] :=
 fM fun f' m' ρ a w hf hmm h1 h2=>by
  have hxx:=az h1 x
  rw [hf x (by simp [ho,Op.operands]),hx] at hxx
  have hyy:=az h1 y
  rw [hf y (by simp [ho,Op.operands]),hy] at hyy
  have hyy:=bf hyy
  obtain ⟨k,ob,h3,h4,h5,h6,h7⟩:=iR h2 ((hmm d (by simp)).trans hm) rfl hxx
  subst h7
  have hl:=jt (v:=v) (hE ty i hi) ((cu h5 off).trans (Array.getElem?_eq_getElem (by omega))) (gS h5 off) hv hs
  exact ⟨_,by simp only [execOp,ho,h4,hyy,Sem.run_bind,hl,Result.andThen_ok,Sem.run_pure],rh h2 h3 h5 ⟨by simpa using h6,rfl⟩⟩
def qJ:Blk->Option TypeId
 | .inl (t,1,_)=>some t
 | .inr (.inl (t,_))=>some t
 | _=>none
theorem xW:∀ {B:Blk} {t:TypeId},qJ B=some t->B.tied=true
 | .inl _,_,_=>rfl
 | .inr (.inl _),_,_=>rfl
 | .inr (.inr _),_,h=>by simp [qJ] at h
theorem JY {ρ:Rho}:∀ {B:Blk} {o:Obj} {t:TypeId},qJ B=some t->Blk.rel ρ B o->∃ u,o=.cells #[u] t (0,0)
 | .inl (t0,1,A),o,t,h,⟨h1,h2⟩=>by
  simp only [qJ,Option.some.injEq] at h;subst h
  obtain ⟨l⟩:=A
  match l,h1 with
  | [u],_=>exact ⟨u,h2⟩
 | .inr (.inl (t0,v)),o,t,h,⟨x,_,h2⟩=>by
  simp only [qJ,Option.some.injEq] at h;subst h
  exact ⟨x,h2⟩
theorem mn (hE:VOk E) {ty:TypeId} {x y:Operand} {d:Key} {t0:TypeId} {B:Blk} {v:SV} {i:TI} (ho:o.op=.store ty x y) (hx:evF f x=SV.ptr d 0) (hy:evF f y=v) (hm:m d=some B) (hB:qJ B=some t0) (hi:E.tt ty=some i) (hs:i.size=1) (hv:v.solid) :
    Out E.toEnv o f m [d] (SV.c undef) [(d,Blk.one t0 v)] :=
 fM fun f' m' ρ a w hf hmm h1 h2=>by
  have hxx:=az h1 x
  rw [hf x (by simp [ho,Op.operands]),hx] at hxx
  have hyy:=az h1 y
  rw [hf y (by simp [ho,Op.operands]),hy] at hyy
  obtain ⟨k,ob,h3,h4,h5,h6⟩:=iR h2 ((hmm d (by simp)).trans hm) (xW hB) hxx
  obtain ⟨u,h7⟩:=JY hB h6
  subst h7
  have hl:=jt (v:=a.eval y) (hE ty i hi) ((cu h5 0).trans rfl) (gS h5 0) (ur hv hyy).1 hs
  exact ⟨w.setCell ⟨k,0,none⟩ (a.eval y),by simp only [execOp,ho,h4,Sem.run_bind,hl,Result.andThen_ok,Sem.run_pure],rh (off:=0) (v:=a.eval y) h2 h3 h5 ⟨_,hyy,rfl⟩⟩
theorem t7 (hE:VOk E) {s:TypeId} {x:Operand} {fld:Nat} {d:Key} {off:Nat} {fo:Nat} {fty:TypeId} {i j:TI} (ho:o.op=.fieldAddr s x fld) (hx:evF f x=SV.ptr d off) (hi:E.tt s=some i) (hd:i.kind=1) (hf0:i.fields[fld]? = some (fo,fty)) (hj:E.tt fty=some j) (hz:j.size≠0) :
    Out E.toEnv o f m [] (SV.ptr d (off+fo)) [] :=
 bg fun f' ρ a w hf h1 _=>by
  have hxx:=az h1 x
  rw [hf x (by simp [ho,Op.operands]),hx] at hxx
  obtain ⟨b,hb,e⟩:=hxx
  obtain ⟨dd,hu,_,hs⟩:=(hE s i hi).desc
  simp only [TI.says,hd] at hs
  obtain ⟨fs,rfl,hfs⟩:=hs
  obtain ⟨fd,hf1,rfl,rfl⟩:∃ fd,fs[fld]? = some fd/\fd.offset=fo/\fd.type=fty:=by
   rw [<- hfs,List.getElem?_map,Option.map_eq_some_iff] at hf0
   obtain ⟨fd,h1,h2⟩:=hf0
   simp only [Prod.mk.injEq] at h2
   exact ⟨fd,by simpa using h1,h2.1,h2.2⟩
  refine ⟨.pointer (some ⟨b,off+fd.offset,none⟩),?_,b,hb,rfl⟩
  simp only [execOp,ho,e,Instr.fieldAt,Sem.run_bind,run_underlying hu,Result.andThen_ok,hf1,Instr.sureAddr,Sem.run_pure,fieldPlace,run_sizeOf (hE fd.type j hj),if_neg hz,Addr.add_mid]
def aO (off:Nat) (i:Int) (sz:Nat):Nat:=match sz with
 | 1=>match off with
  | 0=>i.toNat
  | k+1=>k+1+i.toNat
 | s=>off+i.toNat*s
theorem pH (off:Nat) (i:Int) (sz:Nat):aO off i sz=off+i.toNat*sz:=by
 unfold aO
 split
 ·cases off<;>simp
 ·rfl
theorem t6 (hE:VOk E) {t:TypeId} {x ix:Operand} {d:Key} {off:Nat} {i j:TI} {k:IntKind} {n:Int} (ho:o.op=.indexAddr t x ix) (hx:evF f x=SV.ptr d off) (hix:evF f ix=SV.c (.int k n)) (hi:E.tt t=some i) (hd:i.kind=2) (hj:E.tt i.elem=some j) (h0:0<=n) (h1:n < i.len) :
    Out E.toEnv o f m [] (SV.ptr d (aO off n j.size)) [] :=
 bg fun f' ρ a w hf hF _=>by
  have hxx:=az hF x
  rw [hf x (by simp [ho,Op.operands]),hx] at hxx
  obtain ⟨b,hb,e⟩:=hxx
  have hii:=az hF ix
  rw [hf ix (by simp [ho,Op.operands]),hix] at hii
  have hii:=bf hii
  obtain ⟨dd,hu,_,hs⟩:=(hE t i hi).desc
  simp only [TI.says,hd] at hs
  subst hs
  refine ⟨.pointer (some ⟨b,off+n.toNat*j.size,none⟩),?_,b,hb,by rw [pH]⟩
  simp only [execOp,ho,e,hii,Instr.indexAt,asIntOf,Sem.run_bind,run_underlying hu,Result.andThen_ok,Instr.sureAddr,Sem.run_pure]
  have hc:0<=n/\n < (i.len:Int):=⟨h0,h1⟩
  simp only [hc,and_self,if_true,Sem.run_bind,run_sizeOf (hE _ j hj),Result.andThen_ok,Sem.run_pure,Addr.add_mid]
theorem sO (hE:VOk E) {t:TypeId} {x ix:Operand} {d:Key} {off len cap:Nat} {i j:TI} {k:IntKind} {n:Int} (ho:o.op=.indexAddr t x ix) (hx:evF f x=SV.sl d off len cap) (hix:evF f ix=SV.c (.int k n)) (hi:E.tt t=some i) (hd:i.kind=3) (hj:E.tt i.elem=some j) (h0:0<=n) (h1:n < len) :
    Out E.toEnv o f m [] (SV.ptr d (aO off n j.size)) [] :=
 bg fun f' ρ a w hf hF _=>by
  have hxx:=az hF x
  rw [hf x (by simp [ho,Op.operands]),hx] at hxx
  obtain ⟨b,hb,e⟩:=hxx
  have hii:=az hF ix
  rw [hf ix (by simp [ho,Op.operands]),hix] at hii
  have hii:=bf hii
  obtain ⟨dd,hu,_,hs⟩:=(hE t i hi).desc
  simp only [TI.says,hd] at hs
  subst hs
  refine ⟨.pointer (some ⟨b,off+n.toNat*j.size,none⟩),?_,b,hb,by rw [pH]⟩
  simp only [execOp,ho,e,hii,Instr.indexAt,asIntOf,Sem.run_bind,run_underlying hu,Result.andThen_ok,Sem.run_pure]
  have hc:0<=n/\n < (len:Int):=⟨h0,h1⟩
  simp only [hc,and_self,if_true,Sem.run_bind,run_sizeOf (hE _ j hj),Result.andThen_ok,Sem.run_pure,Addr.add_mid]
theorem v6 {x:Operand} {d:Key} {off:Nat} (ho:o.op=.nilCheck x) (hx:evF f x=SV.ptr d off):Out E.toEnv o f m [] (SV.ptr d off) [] :=
 bg fun f' ρ a w hf h1 _=>by
  have hxx:=az h1 x
  rw [hf x (by simp [ho,Op.operands]),hx] at hxx
  obtain ⟨b,hb,e⟩:=hxx
  exact ⟨_,by simp [execOp,ho,e],b,hb,rfl⟩
theorem sN {x:Operand} {b:Addr} (ho:o.op=.nilCheck x) (hx:evF f x=SV.c (.pointer (some b))):Out E.toEnv o f m [] (SV.c (.pointer (some b))) [] :=
 bg fun f' ρ a w hf h1 _=>by
  have hxx:=az h1 x
  rw [hf x (by simp [ho,Op.operands]),hx] at hxx
  have hxx:=bf hxx
  exact ⟨_,by simp [execOp,ho,hxx],rfl⟩
theorem sM {x:Operand} {g:FuncId} {p q:Array Value} (ho:o.op=.nilCheck x) (hx:evF f x=SV.c (.func (.func g) p q)):Out E.toEnv o f m [] (SV.c (.func (.func g) p q)) [] :=
 bg fun f' ρ a w hf h1 _=>by
  have hxx:=az h1 x
  rw [hf x (by simp [ho,Op.operands]),hx] at hxx
  have hxx:=bf hxx
  exact ⟨_,by simp [execOp,ho,hxx],rfl⟩
theorem xT {x:Operand} {i:Nat} {vs:Array Value} {v:Value} (ho:o.op=.extract x i) (hx:evF f x=SV.c (.tuple vs)) (hv:vs[i]? = some v):Out E.toEnv o f m [] (SV.c v) [] :=
 bg fun f' ρ a w hf h1 _=>by
  have hxx:=az h1 x
  rw [hf x (by simp [ho,Op.operands]),hx] at hxx
  have hxx:=bf hxx
  exact ⟨v,by simp [execOp,ho,hxx,Instr.extract,hv],rfl⟩
def eY:SV->Option Value
 | .inl v=>some v
 | _=>none
theorem sJ {ρ:Rho} {a:Act} {f':Frm} (hF:Fr E.toEnv ρ f' a) {x:Operand} {s:SV} {v:Value} (he:evF f' x=s) (hs:eY s=some v):a.eval x=v:=by
 have h:=az hF x
 rw [he] at h
 match s,hs with
 | .inl u,hs=>simp only [eY,Option.some.injEq] at hs;subst hs;exact h
theorem gf {x:Operand} {s:Value->Sem Value} {u r:Value} (ho:∀ a:Act,execOp a.eval o=(do pure (.value (<- s (a.eval x))))) (hin:x∈o.op.operands.toList) (hx:evF f x=SV.c u) (hr:bH E.toEnv (s u) r):Out E.toEnv o f m [] (SV.c r) [] :=
 bg fun f' ρ a w hf h1 hw=>by
  have hxx:=az h1 x
  rw [hf x hin,hx] at hxx
  have hxx:=bf hxx
  exact ⟨r,by rw [ho,hxx];simp [hr w hw],rfl⟩
theorem jz {x y:Operand} {s:Value->Value->Sem Value} {u v r:Value} (ho:∀ a:Act,execOp a.eval o=(do pure (.value (<- s (a.eval x) (a.eval y))))) (hin:x∈o.op.operands.toList) (hin2:y∈o.op.operands.toList) (hx:evF f x=SV.c u) (hy:evF f y=SV.c v) (hr:bH E.toEnv (s u v) r):Out E.toEnv o f m [] (SV.c r) [] :=
 bg fun f' ρ a w hf h1 hw=>by
  have hxx:=az h1 x
  rw [hf x hin,hx] at hxx
  have hxx:=bf hxx
  have hyy:=az h1 y
  rw [hf y hin2,hy] at hyy
  have hyy:=bf hyy
  exact ⟨r,by rw [ho,hxx,hyy];simp [hr w hw],rfl⟩
end
section
variable {E:VE} {o:Oper} {f:Frm} {m:Mem}
theorem Hv {E:Env} {ρ:Rho} {m:Mem} {w:World} (h:Wd E ρ m w) {pre:aA} (ht:∀ p,p∈pre->p.2.tied=true) (hp:∀ p,p∈pre->m p.1=some p.2):Mm ρ pre w:=fun p hpp=>by
 obtain ⟨k,o,h1,h2,h3,h4⟩:=h.blk p.1 p.2 (hp p hpp) (ht p hpp)
 exact ⟨k,o,h1,h3,h4⟩
theorem e9:∀ (U:aA) (d:Key),lk U d=aw U d
 | [],_=>rfl
 | (k,B) :: r,d=>by simp only [lk,aw,e9 r d]
theorem aW:∀ {U:aA} {d:Key} {B:Blk},aw U d=some B->(d,B)∈U
 | (k,B') :: r,d,B,h=>by
  simp only [aw] at h
  by_cases e:k=d
  ·subst e;simp at h;subst h;simp
  ·rw [if_neg e] at h;exact List.mem_cons_of_mem _ (aW h)
theorem pV:∀ {U:aA} {d:Key},aw U d=none->∀ p,p∈U->p.1≠d
 | (k,B') :: r,d,h,p,hp=>by
  simp only [aw] at h
  by_cases e:k=d
  ·rw [if_pos e] at h;cases h
  ·rw [if_neg e] at h
   rcases List.mem_cons.1 hp with rfl | hp
   ·exact e
   ·exact pV h p hp
theorem pU:∀ {U:aA} {p:Key×Blk},p∈U->∃ B,aw U p.1=some B
 | (k,B') :: r,p,hp=>by
  simp only [aw]
  by_cases e:k=p.1
  ·rw [if_pos e];exact ⟨_,rfl⟩
  ·rw [if_neg e]
   rcases List.mem_cons.1 hp with rfl | hp
   ·exact absurd rfl e
   ·exact pU hp
theorem Wd.after {E:Env} {ρ ρ':Rho} {m:Mem} {w w':World} {pre post:aA} (h:Wd E ρ m w) (ht:∀ p,p∈pre->p.2.tied=true) (hp:∀ p,p∈pre->m p.1=some p.2) (hq:∀ p,p∈post->aw pre p.1=none->m p.1=none/\E.pk.any (·.1 == p.1)=false) (ha:After ρ ρ' post w w'):Wd E ρ' (aS m post) w':=by
 have hpt:∀ d B,aw post d=some B->B.tied=true:=fun d B hd=>by
  obtain ⟨k,o,h1,h2,h3,h4⟩:=ha.blk d B hd
  exact Blk.rel_tied h4
 have hρ:∀ e b,ρ' e=some b->b < w.heap.size->ρ e=some b:=fun e b he hb=>by
  cases hg:aw post e with
  | none=>rw [ha.dom e hg] at he;exact he
  | some B =>
   obtain ⟨k,o,h1,h2,h3,h4⟩:=ha.blk e B hg
   rw [he] at h1;cases h1
   rcases h2 with h2 | h2
   ·exact h2
   ·omega
 have hlt:∀ d B b,m d=some B->B.num=some b->b < w.heap.size:=fun d B b hm hb=>by
  cases ht:B.tied with
  | true=>rw [Blk.num_none ht] at hb;cases hb
  | false=>exact Blk.at_lt (h.loose d B hm ht).2 hb
 refine ⟨ha.os.trans h.os,ha.tape.trans h.tape,ha.output.trans h.output,Nat.le_trans h.size ha.size,fun k hk hx=>?_,fun d B hd hdt=>?_,fun d hd=>?_,fun d B hd hdt=>?_,fun d B b hd hb=>?_,ha.inj,fun e j B2 he hm' ht2=>?_⟩
 ·rw [ha.old k (Nat.lt_of_lt_of_le hk h.size) ?_]
  ·exact h.old k hk hx
  ·intro p hpp he
   cases hg:aw pre p.1 with
   | none =>
    have:=h.dom _ (hq p hpp hg).1
    rw [this] at he;cases he
   | some B =>
    obtain ⟨k',o,h1,h2,h3,h4⟩:=h.blk p.1 B (hp _ (aW hg)) (ht _ (aW hg))
    rw [h1] at he;cases he
    rcases h2 with h2 | h2
    ·omega
    ·exact hx h2
 ·simp only [aS,e9] at hd
  cases hg:aw post d with
  | some B' =>
   rw [hg] at hd;cases hd
   obtain ⟨k,o,h1,h2,h3,h4⟩:=ha.blk d _ hg
   refine ⟨k,o,h1,?_,h3,h4⟩
   rcases h2 with h2 | h2
   ·obtain ⟨B,hm,hmt⟩:=h.tied_of h2
    obtain ⟨k',o',h5,h6,_⟩:=h.blk d B hm hmt
    rw [h2] at h5;cases h5;exact h6
   ·exact .inl (Nat.le_trans h.size h2)
  | none =>
   rw [hg] at hd
   obtain ⟨k,o,h1,h2,h3,h4⟩:=h.blk d B hd hdt
   refine ⟨k,o,ha.ext _ _ h1,h2,?_,Blk.rel_ext ha.ext h4⟩
   rw [ha.old k (h.lt h1) ?_]
   ·exact h3
   ·intro p hpp he
    exact pV hg p hpp (h.inj _ _ _ he h1)
 ·simp only [aS,e9] at hd
  cases hg:aw post d with
  | some B'=>rw [hg] at hd;cases hd
  | none =>
   rw [hg] at hd
   rw [ha.dom d hg]
   exact h.dom d hd
 ·simp only [aS,e9] at hd
  cases hg:aw post d with
  | some B'=>rw [hg] at hd;cases hd;rw [hpt d _ hg] at hdt;cases hdt
  | none =>
   rw [hg] at hd
   obtain ⟨h1,h2⟩:=h.loose d B hd hdt
   refine ⟨by rw [ha.dom d hg];exact h1,Blk.at_same (fun b hb=>ha.old b (Blk.at_lt h2 hb) fun p _=>(h.sep d B b hd hb).2.1 p.1) h2⟩
 ·simp only [aS,e9] at hd
  cases hg:aw post d with
  | some B'=>rw [hg] at hd;cases hd;rw [Blk.num_none (hpt d _ hg)] at hb;cases hb
  | none =>
   rw [hg] at hd
   obtain ⟨h1,h2,h3⟩:=h.sep d B b hd hb
   refine ⟨h1,fun e he=>h2 e (hρ e b he (hlt d B b hd hb)),fun e B3 he hb'=>?_⟩
   simp only [aS,e9] at he
   cases hg2:aw post e with
   | some B'=>rw [hg2] at he;cases he;rw [Blk.num_none (hpt e _ hg2)] at hb';cases hb'
   | none=>rw [hg2] at he;exact h3 e B3 he hb'
 ·simp only [aS,e9] at hm'
  cases hg:aw post e with
  | none =>
   rw [hg] at hm'
   exact ha.ext _ _ (h.par e j B2 he hm' ht2)
  | some B =>
   have hpp:=aW hg
   cases hgp:aw pre e with
   | none =>
    have:=List.any_eq_false.1 (hq _ hpp hgp).2 (e,j) he
    simp at this
   | some B'=>exact ha.ext _ _ (h.par e j B' he (hp _ (aW hgp)) (ht _ (aW hgp)))
theorem pw {E:Env} {ρ:Rho} {f':Frm} {a:Act} (h:Fr E ρ f' a):∀ (l:List Operand),fU ρ (l.map (evF f')) (l.map a.eval)
 | []=>trivial
 | x :: l=>⟨az h x,pw h l⟩
def callee:SV->List SV->Option (FuncId×List SV)
 | .inl (.func (.func g) p q),args=>some (g,p.toList.map SV.c++args++q.toList.map SV.c)
 | .inr (.inr (.inr (.inl (g,ds)))),args=>some (g,args++ds.map fun d=>SV.ptr d 0)
 | _,_=>none
theorem iz {ρ:Rho}:∀ {a b:List SV} {x y:List Value},fU ρ a x->fU ρ b y->fU ρ (a++b) (x++y)
 | [],_b,[],_y,_,h=>h
 | _s :: _a,_b,_v :: _x,_y,⟨h1,h2⟩,h=>⟨h1,iz h2 h⟩
theorem z7 {ρ:Rho}:∀ (l:List Value),fU ρ (l.map SV.c) l
 | []=>trivial
 | _ :: l=>⟨rfl,z7 l⟩
theorem xC {ρ:Rho}:∀ (ds:List Key) (bs:List Nat),ds.map ρ=bs.map some->fU ρ (ds.map fun d=>SV.ptr d 0) (bs.map fun b=>.pointer (some ⟨b,0,none⟩))
 | [],[],_=>trivial
 | [],b :: bs,e=>by simp at e
 | d :: ds,[],e=>by simp at e
 | d :: ds,b :: bs,e=>by
  simp only [List.map_cons,List.cons.injEq] at e
  exact ⟨⟨b,e.1,rfl⟩,xC ds bs e.2⟩
theorem oC {_E:Env} {ρ:Rho} {P:Program}:∀ {s:SV} {u:Value} {args:List SV} {xs:List Value} {g:FuncId} {all:List SV},SV.rel ρ s u->fU ρ args xs->callee s args=some (g,all)->Enters P g ->
    ∃ ys:List Value,fU ρ all ys/\∀ w,(do let d <- Deferred.ofValue u xs.toArray;invoke d.target d.args:Sem Next).run P w=.ok (.enter g ys.toArray) w
 | .inl (.func (.func g0) p q),u,args,xs,g,all,hs,hx,hc,he=>by
  have hs:u=_:=hs
  subst hs
  simp only [callee,Option.some.injEq,Prod.mk.injEq] at hc
  obtain ⟨rfl,rfl⟩:=hc
  refine ⟨p.toList++xs++q.toList,iz (iz (z7 _) hx) (z7 _),fun w=>?_⟩
  simp only [Deferred.ofValue,Sem.run_bind,Sem.run_pure,Result.andThen_ok,invoke]
  rw [he.run]
  simp
 | .inr (.inr (.inr (.inl (g0,ds)))),u,args,xs,g,all,⟨bs,hb,hu⟩,hx,hc,he=>by
  subst hu
  simp only [callee,Option.some.injEq,Prod.mk.injEq] at hc
  obtain ⟨rfl,rfl⟩:=hc
  refine ⟨xs++(bs.map fun b=>.pointer (some ⟨b,0,none⟩)),iz hx (xC _ _ hb),fun w=>?_⟩
  simp only [Deferred.ofValue,Sem.run_bind,Sem.run_pure,Result.andThen_ok,invoke]
  rw [he.run]
  simp
theorem gF {P:Program} {o:Oper} {a:Act} {K:Act->World->Prop} {Q:Exit->Act->World->Prop} {g:FuncId} {ys:Array Value} {w:World} {R:Ending->World->Prop} (h:Calls P g ys w R) (hK:∀ e w',R e w'->∃ x,e=.returned x/\K (a.put o.dst x) w'):o.upon P a K Q (.ok (.enter g ys) w):=by
 rw [Oper.upon_enter]
 refine h.mono fun e w' hr=>?_
 obtain ⟨x,rfl,hk⟩:=hK e w' hr
 exact hk
theorem bV {c:Call} {x:Operand} (h:x∈c.args.toList):x∈(Op.call c).operands.toList:=by
 simp only [Op.operands,Call.operands,Array.toList_append,List.mem_append];exact .inr h
theorem wP {c:Call} {x:Operand} (h:c.callee=.value x):x∈(Op.call c).operands.toList:=by
 simp [Op.operands,Call.operands,h]
theorem jO {f':Frm} {c:Call} (ho:o.op=.call c) (hf:∀ x,x∈o.op.operands.toList->evF f' x=evF f x):c.args.toList.map (evF f')=c.args.toList.map (evF f) :=
 List.map_congr_left fun x hx=>hf x (by rw [ho];exact bV hx)
theorem qT {c:Call} {x:Operand} (ho:o.op=.call c) (hc:c.callee=.value x) (a:Act):execOp a.eval o=(do let d <- Deferred.ofValue (a.eval x) ((c.args.toList.map a.eval).toArray);invoke d.target d.args):=by
 have e:c.args.map a.eval=(c.args.toList.map a.eval).toArray:=by apply Array.ext';simp
 simp only [execOp,ho,resolve,hc,e]
theorem Gs {c:Call} {x:Operand} {g:FuncId} {all:List SV} {v:Value} (ho:o.op=.call c) (hc:c.callee=.value x) (hg:callee (evF f x) (c.args.toList.map (evF f))=some (g,all)) (hp:ay E.P g all v):Out E.toEnv o f m [] (SV.c v) []:=by
 intro f' m' hf _ ρ a w h1 h2 K Q hK
 have hf:=fun x hx=>di (o:=o) hf (x:=x) hx
 rw [<- hf x (by rw [ho];exact wP hc),<- jO ho hf] at hg
 obtain ⟨ys,hy,hrun⟩:=oC (_E:=E.toEnv) (P:=E.P) (az h1 x) (pw h1 c.args.toList) hg hp.1
 unfold Oper.wp
 rw [qT ho hc,hrun w]
 refine gF (hp.2 ρ w ys hy) fun e w' ⟨he,hb⟩=>⟨v,he,hK ρ v w' (Ext.refl _) rfl ?_⟩
 rw [fJ]
 refine ⟨hb.os.trans h2.os,hb.tape.trans h2.tape,hb.output.trans h2.output,Nat.le_trans h2.size hb.size,fun k hk hx=>?_,fun d B hd hdt=>?_,h2.dom,fun d B hd hdt=>?_,h2.sep,h2.inj,h2.par⟩
 ·rw [hb.block k (Nat.lt_of_lt_of_le hk h2.size)];exact h2.old k hk hx
 rotate_left
 ·obtain ⟨h3,h4⟩:=h2.loose d B hd hdt
  exact ⟨h3,Blk.at_same (fun b hbn=>hb.block b (Blk.at_lt h4 hbn)) h4⟩
 ·obtain ⟨k,o',h3,h4,h5,h6⟩:=h2.blk d B hd hdt
  exact ⟨k,o',h3,h4,by rw [hb.block k (h2.lt h3)];exact h5,h6⟩
theorem JU {c:Call} {x:Operand} {g:FuncId} {all:List SV} {pre post:aA} {v:SV} (ho:o.op=.call c) (hc:c.callee=.value x) (hg:callee (evF f x) (c.args.toList.map (evF f))=some (g,all)) (hp:Own E.toEnv g all pre v post)
    (hpre:∀ p,p∈pre->m p.1=some p.2) (hpost:∀ p,p∈post->aw pre p.1=none->m p.1=none/\E.pk.any (·.1 == p.1)=false):Out E.toEnv o f m (pre.map (·.1)++post.map (·.1)) v post:=by
 intro f' m' hf hmm ρ a w h1 h2 K Q hK
 have hf:=fun x hx=>di (o:=o) hf (x:=x) hx
 rw [<- hf x (by rw [ho];exact wP hc),<- jO ho hf] at hg
 obtain ⟨ys,hy,hrun⟩:=oC (_E:=E.toEnv) (P:=E.P) (az h1 x) (pw h1 c.args.toList) hg hp.1
 have hpre':∀ p,p∈pre->m' p.1=some p.2:=fun p hpp=>(hmm p.1 (by simp only [List.mem_append,List.mem_map];exact .inl ⟨p,hpp,rfl⟩)).trans (hpre p hpp)
 have hpost':∀ p,p∈post->aw pre p.1=none->m' p.1=none/\E.pk.any (·.1 == p.1)=false:=fun p hpp hn=>⟨(hmm p.1 (by simp only [List.mem_append,List.mem_map];exact .inr ⟨p,hpp,rfl⟩)).trans (hpost p hpp hn).1,(hpost p hpp hn).2⟩
 unfold Oper.wp
 rw [qT ho hc,hrun w]
 refine gF (hp.2.2 ρ w ys h2.inj (fun d k hd=>h2.lt hd) (fun p hpp hn=>h2.dom _ (hpost' p hpp hn).1) hy (Hv h2 hp.2.1 hpre') h2.oldW (fun p hpp k hk=>by
  obtain ⟨k',o',h3,h4,-⟩:=h2.blk p.1 p.2 (hpre' p hpp) (hp.2.1 p hpp)
  rw [hk] at h3;cases h3;exact h4)) fun e w' ⟨ρ',y,he,hv,ha⟩=>⟨y,he,hK ρ' y w' ha.ext hv (h2.after hp.2.1 hpre' hpost' ha)⟩
theorem v7 {g:FuncId} {first captured:Array Operand} {p q:List Value} (ho:o.op=.makeFunc (.func g) first captured) (hp:first.toList.map (fun x=>eY (evF f x))=p.map some) (hq:captured.toList.map (fun x=>eY (evF f x))=q.map some) :
    Out E.toEnv o f m [] (SV.c (.func (.func g) p.toArray q.toArray)) [] :=
 bg fun f' ρ a w hf h1 _=>by
  have hl:∀ (l:List Operand) (r:List Value),(∀ x∈l,x∈o.op.operands.toList)->l.map (fun x=>eY (evF f x))=r.map some->l.map a.eval=r:=by
   intro l
   induction l with
   | nil=>intro r _ h;cases r with
    | nil=>rfl
    | cons _ _=>simp at h
   | cons x l ih=>intro r hin h;cases r with
    | nil=>simp at h
    | cons u r =>
     simp only [List.map_cons,List.cons.injEq] at h ⊢
     exact ⟨sJ h1 (hf x (hin x (by simp))) h.1,ih r (fun y hy=>hin y (by simp [hy])) h.2⟩
  have e1:=hl first.toList p (fun x hx=>by rw [ho];simp only [Op.operands,Array.toList_append,List.mem_append];exact .inl hx) hp
  have e2:=hl captured.toList q (fun x hx=>by rw [ho];simp only [Op.operands,Array.toList_append,List.mem_append];exact .inr hx) hq
  have e3:first.map a.eval=p.toArray:=by apply Array.ext';simpa using e1
  have e4:captured.map a.eval=q.toArray:=by apply Array.ext';simpa using e2
  exact ⟨_,by simp only [execOp,ho,Instr.makeFunc,e3,e4,Sem.run_bind,Sem.run_pure,Result.andThen_ok],rfl⟩
def JL:SV->Option Key
 | .inr (.inl (d,0))=>some d
 | _=>none
theorem xS {g:FuncId} {captured:Array Operand} {ds:List Key} (ho:o.op=.makeFunc (.func g) #[] captured) (hq:captured.toList.map (fun x=>JL (evF f x))=ds.map some) :
    Out E.toEnv o f m [] (SV.clo g ds) [] :=
 bg fun f' ρ a w hf h1 _=>by
  have hl:∀ (l:List Operand) (r:List Key),(∀ x∈l,x∈o.op.operands.toList)->l.map (fun x=>JL (evF f x))=r.map some->∃ bs:List Nat,r.map ρ=bs.map some/\l.map a.eval=bs.map fun b=>Value.pointer (some ⟨b,0,none⟩):=by
   intro l
   induction l with
   | nil=>intro r _ h;cases r with
    | nil=>exact ⟨[],rfl,rfl⟩
    | cons _ _=>simp at h
   | cons x l ih=>intro r hin h;cases r with
    | nil=>simp at h
    | cons u r =>
     simp only [List.map_cons,List.cons.injEq] at h
     obtain ⟨bs,h3,h4⟩:=ih r (fun y hy=>hin y (by simp [hy])) h.2
     have h5:=az h1 x
     rw [hf x (hin x (by simp))] at h5
     have h6:evF f x=SV.ptr u 0:=by
      have:=h.1
      match evF f x,this with
      | .inr (.inl (d,0)),this=>simp only [JL,Option.some.injEq] at this;rw [this]
     rw [h6] at h5
     obtain ⟨b,hb,hx⟩:=h5
     exact ⟨b :: bs,by simp [h3,hb],by simp [h4,hx]⟩
  obtain ⟨bs,e1,e2⟩:=hl captured.toList ds (fun x hx=>by rw [ho];simpa [Op.operands] using hx) hq
  have e4:captured.map a.eval=(bs.map fun b=>Value.pointer (some ⟨b,0,none⟩)).toArray:=by apply Array.ext';simpa using e2
  exact ⟨_,by simp only [execOp,ho,Instr.makeFunc,e4,Sem.run_bind,Sem.run_pure,Result.andThen_ok];simp,bs,e1,rfl⟩
theorem uB {t:TypeId} {parts:Array (Nat×Operand)} {ps:List (Nat×Value)} {r:Value} (ho:o.op=.build t parts) (hp:parts.toList.map (fun p=>(eY (evF f p.2)).map fun v=>(p.1,v))=ps.map some) (hr:bH E.toEnv (Instr.build t ps.toArray) r):Out E.toEnv o f m [] (SV.c r) [] :=
 bg fun f' ρ a w hf h1 hw=>by
  have hl:∀ (l:List (Nat×Operand)) (r:List (Nat×Value)),(∀ x∈l,x.2∈o.op.operands.toList)->l.map (fun p=>(eY (evF f p.2)).map fun v=>(p.1,v))=r.map some->l.map (fun p=>(p.1,a.eval p.2))=r:=by
   intro l
   induction l with
   | nil=>intro r _ h;cases r with
    | nil=>rfl
    | cons _ _=>simp at h
   | cons x l ih=>intro r hin h;cases r with
    | nil=>simp at h
    | cons u r =>
     simp only [List.map_cons,List.cons.injEq,Option.map_eq_some_iff] at h ⊢
     obtain ⟨⟨v,h3,h4⟩,h5⟩:=h
     refine ⟨?_,ih r (fun y hy=>hin y (by simp [hy])) h5⟩
     rw [<- h4,sJ h1 (hf x.2 (hin x (by simp))) h3]
  have e1:=hl parts.toList ps (fun x hx=>by rw [ho];simp only [Op.operands,List.mem_map];exact ⟨x,hx,rfl⟩) hp
  have e2:(parts.map fun (i,x)=>(i,a.eval x))=ps.toArray:=by apply Array.ext';simpa using e1
  refine ⟨r,?_,rfl⟩
  simp only [execOp,ho]
  rw [e2]
  simp [hr w hw]
end
end Go.SX
