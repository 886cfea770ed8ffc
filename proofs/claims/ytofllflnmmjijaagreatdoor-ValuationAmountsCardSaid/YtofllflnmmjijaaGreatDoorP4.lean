/- An abstract walk over functions: states, regions in any order; no condition. -/
import Derived.Below
import Derived.Deep.LoopGhost
import Derived.Deep.MidRow
set_option maxRecDepth 100000
set_option maxHeartbeats 4000000
namespace Go.SX
open Go Go.RowKit

abbrev Key:=Nat
abbrev SV:=Value ⊕ ((Key×Nat) ⊕ ((Key×Nat×Nat×Nat) ⊕ ((FuncId×List Key) ⊕ Unit)))
abbrev SV.c (v:Value):SV:=.inl v
abbrev SV.ptr (d:Key) (off:Nat):SV:=.inr (.inl (d,off))
abbrev SV.sl (d:Key) (off len cap:Nat):SV:=.inr (.inr (.inl (d,off,len,cap)))
abbrev SV.clo (f:FuncId) (ds:List Key):SV:=.inr (.inr (.inr (.inl (f,ds))))
abbrev SV.bad:SV:=.inr (.inr (.inr (.inr ())))
abbrev Rho:=Key→Option Nat
def SV.rel (ρ:Rho):SV→Value→Prop
 | .inl v,x=>x=v
 | .inr (.inl (d,off)),x=>∃ b,ρ d=some b∧x=.pointer (some ⟨b,off,none⟩)
 | .inr (.inr (.inl (d,off,len,cap))),x=>∃ b,ρ d=some b∧x=.slice (some ⟨b,off,none⟩) len cap
 | .inr (.inr (.inr (.inl (f,ds)))),x=>∃ bs:List Nat,ds.map ρ=bs.map some∧x=.func (.func f) #[] (bs.map fun b=>Value.pointer (some ⟨b,0,none⟩)).toArray
 | .inr (.inr (.inr (.inr _))),_=>True
def Ext (ρ ρ':Rho):Prop:=∀ d k,ρ d=some k→ρ' d=some k
theorem Ext.refl (ρ:Rho):Ext ρ ρ:=fun _ _ h=>h
theorem Ext.trans {a b c:Rho} (h:Ext a b) (k:Ext b c):Ext a c:=fun d n hd=>k d n (h d n hd)
theorem map_ext {ρ ρ':Rho} (h:Ext ρ ρ'):∀ (ds:List Key) (bs:List Nat),ds.map ρ=bs.map some→ds.map ρ'=bs.map some
 | [],[],_=>rfl
 | [],b :: bs,e=>by simp at e
 | d :: ds,[],e=>by simp at e
 | d :: ds,b :: bs,e=>by
  simp only [List.map_cons,List.cons.injEq] at e ⊢
  exact ⟨h d b e.1,map_ext h ds bs e.2⟩
theorem SV.rel_ext {ρ ρ':Rho} (h:Ext ρ ρ'):∀ {v:SV} {x:Value},SV.rel ρ v x→SV.rel ρ' v x
 | .inl _,_,e=>e
 | .inr (.inl _),_,⟨b,hb,e⟩=>⟨b,h _ _ hb,e⟩
 | .inr (.inr (.inl _)),_,⟨b,hb,e⟩=>⟨b,h _ _ hb,e⟩
 | .inr (.inr (.inr (.inl _))),_,⟨bs,hb,e⟩=>⟨bs,map_ext h _ _ hb,e⟩
 | .inr (.inr (.inr (.inr _))),_,_=>trivial
abbrev Blk:=(TypeId×Nat×Array Value) ⊕ ((TypeId×SV) ⊕ ((Value×TypeId×Nat×Nat×Array Value) ⊕ (Nat×(Obj→Prop))))
abbrev Blk.row (ty:TypeId) (n:Nat) (A:Array Value):Blk:=.inl (ty,n,A)
abbrev Blk.one (ty:TypeId) (v:SV):Blk:=.inr (.inl (ty,v))
abbrev Blk.own (v:Value) (e:TypeId) (sz n:Nat) (A:Array Value):Blk:=.inr (.inr (.inl (v,e,sz,n,A)))
abbrev Blk.res (b:Nat) (R:Obj→Prop):Blk:=.inr (.inr (.inr (b,R)))
def Blk.rel (ρ:Rho):Blk→Obj→Prop
 | .inl (ty,n,A),o=>A.size=n∧o=.cells A ty (0,0)
 | .inr (.inl (ty,v)),o=>∃ x,SV.rel ρ v x∧o=.cells #[x] ty (0,0)
 | .inr (.inr _),_=>False
theorem Blk.rel_ext {ρ ρ':Rho} (h:Ext ρ ρ'):∀ {B:Blk} {o:Obj},Blk.rel ρ B o→Blk.rel ρ' B o
 | .inl _,_,e=>e
 | .inr (.inl _),_,⟨x,hx,e⟩=>⟨x,SV.rel_ext h hx,e⟩
 | .inr (.inr _),_,e=>e
def Blk.tied:Blk→Bool
 | .inl _=>true
 | .inr (.inl _)=>true
 | .inr (.inr _)=>false
def Blk.num:Blk→Option Nat
 | .inr (.inr (.inl (v,_)))=>v.ownBlock
 | .inr (.inr (.inr (b,_)))=>some b
 | _=>none
def Blk.at (w:World):Blk→Prop
 | .inr (.inr (.inl (v,e,sz,n,A)))=>w.ownsRow 0 e sz v n A.toList
 | .inr (.inr (.inr (b,R)))=>∃ o,w.heap[b]? = some o∧R o
 | _=>False
theorem Blk.at_lt {w:World}:∀ {B:Blk} {b:Nat},B.at w→B.num=some b→b < w.heap.size
 | .inr (.inr (.inl (v,e,sz,n,A))),b,h,hb=>(World.ownsRow.lt h b hb).2
 | .inr (.inr (.inr (b,R))),b',⟨o,h,_⟩,hb=>by
  simp only [Blk.num,Option.some.injEq] at hb;subst hb
  exact (Array.getElem?_eq_some_iff.1 h).1
theorem Blk.at_same {w w':World}:∀ {B:Blk},(∀ b,B.num=some b→w'.heap[b]? = w.heap[b]?)→B.at w→B.at w'
 | .inr (.inr (.inl (v,e,sz,n,A))),hs,h=>by
  refine ⟨h.1,?_⟩
  rcases h.2 with h2 | ⟨g,cap,cur,hv,h3,h4,h5⟩
  ·exact .inl h2
  ·exact .inr ⟨g,cap,cur,hv,h3,by rw [hs g (by show Value.ownBlock v=some g;rw [hv];rfl)];exact h4,h5⟩
 | .inr (.inr (.inr (b,R))),hs,⟨o,h,hr⟩=>⟨o,by rw [hs b rfl];exact h,hr⟩
 | .inl _,_,h=>h
 | .inr (.inl _),_,h=>h
theorem Blk.num_none {B:Blk} (h:B.tied=true):B.num=none:=by
 match B,h with
 | .inl _,_=>rfl
 | .inr (.inl _),_=>rfl
abbrev Frm:=Tmp→SV
abbrev Mem:=Key→Option Blk
def Frm.put (f:Frm) (d:Option Tmp) (v:SV):Frm:=match d with
 | some d=>fun t=>if t=d then v else f t
 | none=>f
def lk (U:List (Key×Blk)) (d:Key):Option Blk:=match U with
 | []=>none
 | (k,B) :: r=>if k=d then some B else lk r d
def updM (m:Mem) (U:List (Key×Blk)):Mem:=fun d=>match lk U d with
 | some B=>some B
 | none=>m d
structure Env where
 P:Program
 w0:World
 X:List Nat
 n:Nat
 /-- the keys of blocks that came in, with their numbers -/
 pk:List (Key×Nat)
structure Fr (E:Env) (ρ:Rho) (f:Frm) (a:Act):Prop where
 defers:a.defers=[]
 size:a.tmps.size=E.n
 rel:∀ t,SV.rel ρ (f t) (a.tmps.getD t undef)
structure Wd (E:Env) (ρ:Rho) (m:Mem) (w:World):Prop where
 os:w.os=E.w0.os
 tape:w.tape=E.w0.tape
 output:w.output=E.w0.output
 size:E.w0.heap.size≤w.heap.size
 old:∀ k,k < E.w0.heap.size→k∉E.X→w.heap[k]? = E.w0.heap[k]?
 blk:∀ d B,m d=some B→B.tied=true→∃ k o,ρ d=some k∧(E.w0.heap.size≤k∨k∈E.X)∧w.heap[k]? = some o∧Blk.rel ρ B o
 dom:∀ d,m d=none→ρ d=none
 loose:∀ d B,m d=some B→B.tied=false→ρ d=none∧B.at w
 sep:∀ d B b,m d=some B→B.num=some b→(E.w0.heap.size≤b∨b∈E.X)∧(∀ e,ρ e≠some b)∧∀ e B',m e=some B'→B'.num=some b→e=d
 inj:∀ d e k,ρ d=some k→ρ e=some k→d=e
 par:∀ d k B,(d,k)∈E.pk→m d=some B→B.tied=true→ρ d=some k
theorem Wd.drew {E:Env} {ρ:Rho} {m:Mem} {w:World} (h:Wd E ρ m w):Wd E ρ m { w with drawn:=w.drawn+1 }:=⟨h.os,h.tape,h.output,h.size,h.old,h.blk,h.dom,h.loose,h.sep,h.inj,h.par⟩
theorem Wd.congr {E:Env} {ρ:Rho} {m m':Mem} {w:World} (h:Wd E ρ m w) (e:∀ d,m' d=m d):Wd E ρ m' w:=by
 have:m'=m:=funext e
 rw [this];exact h
theorem Fr.congr {E:Env} {ρ:Rho} {f g:Frm} {a:Act} (h:Fr E ρ f a) (e:∀ t,g t=f t):Fr E ρ g a:=by
 have:g=f:=funext e
 rw [this];exact h
theorem Fr.ext {E:Env} {ρ ρ':Rho} {f:Frm} {a:Act} (h:Fr E ρ f a) (e:Ext ρ ρ'):Fr E ρ' f a:=⟨h.defers,h.size,fun t=>SV.rel_ext e (h.rel t)⟩
theorem Fr.put {E:Env} {ρ:Rho} {f:Frm} {a:Act} (h:Fr E ρ f a) {d:Option Tmp} (hd:∀ t,d=some t→t < E.n) {v:SV} {x:Value} (hv:SV.rel ρ v x):Fr E ρ (f.put d v) (a.put d x):=by
 cases d with
 | none=>exact h
 | some d =>
  have hdn:=hd d rfl
  refine ⟨h.defers,by simp [Act.put,h.size],fun t=>?_⟩
  by_cases e:t=d
  ·subst e
   simp only [Frm.put,if_true,Act.put]
   rw [Array.getD_eq_getD_getElem?,Array.getElem?_setIfInBounds_self_of_lt (by rw [h.size];exact hdn)]
   exact hv
  ·simp only [Frm.put,if_neg e,Act.put]
   rw [Array.getD_eq_getD_getElem?,Array.getElem?_setIfInBounds_ne (fun e2=>e e2.symm),← Array.getD_eq_getD_getElem?]
   exact h.rel t
def Trip (E:Env) (o:Oper) (f:Frm) (m:Mem) (v:SV) (U:List (Key×Blk)):Prop :=
 ∀ ρ a w,Fr E ρ f a→Wd E ρ m w→∀ (K:Act→World→Prop) (Q:Exit→Act→World→Prop),
  (∀ ρ' x w',Ext ρ ρ'→SV.rel ρ' v x→Wd E ρ' (updM m U) w'→K (a.put o.dst x) w')→o.wp E.P a w K Q
def opLooks (o:Oper):List Tmp:=o.op.operands.toList.filterMap fun | .tmp t=>some t | _=>none
def Out (E:Env) (o:Oper) (f:Frm) (m:Mem) (R:List Key) (v:SV) (U:List (Key×Blk)):Prop :=
 ∀ f' m',(∀ t,t∈opLooks o→f' t=f t)→(∀ d,d∈R→m' d=m d)→Trip E o f' m' v U
structure Ent where
 dst:Option Tmp
 v:SV
 R:List Key
 U:List (Key×Blk)
def gdst (ops:Array Oper) (j:Nat):Option Tmp:=(ops[j]?).bind (·.dst)
def StepOk (E:Env) (ops:Array Oper) (o:Oper) (f:Frm) (m:Mem) (e:Ent):Prop :=
 ((o.guard=none∨∃ j b g,o.guard=some (j,b)∧gdst ops j=some g∧g < E.n∧f g=SV.c (.bool b))∧(∀ d B,lk e.U d=some B→d∈e.R)∧Out E o f m e.R e.v e.U) ∨
 (∃ j b c g,o.guard=some (j,b)∧gdst ops j=some g∧g < E.n∧f g=SV.c c∧c≠.bool b∧e.v=SV.c undef∧e.R=[]∧e.U=[])
theorem wanted_none {o:Oper} {y:Nat→Option Bool} (hg:o.guard=none):Region.wanted o y=true:=by simp [Region.wanted,hg]
theorem yielded_at {E:Env} {ρ:Rho} {f:Frm} {a:Act} {ops:Array Oper} (h:Fr E ρ f a) {j:Nat} {g:Tmp} {b:Bool} (hgd:gdst ops j=some g) (hgn:g < E.n) (hb:f g=SV.c (.bool b)):yielded ops a.tmps j=some b:=by
 have h1:=h.rel g
 rw [hb] at h1
 simp only [SV.rel] at h1
 have h2:a.tmps[g]? = some (.bool b):=by
  rw [Array.getD_eq_getD_getElem?] at h1
  have hs:g < a.tmps.size:=by rw [h.size];exact hgn
  rw [Array.getElem?_eq_getElem hs] at h1 ⊢
  simpa using h1
 unfold gdst at hgd
 unfold yielded
 rw [hgd]
 simp [h2]
theorem unwanted_at {E:Env} {ρ:Rho} {f:Frm} {a:Act} {ops:Array Oper} (h:Fr E ρ f a) {o:Oper} {j:Nat} {g:Tmp} {b:Bool} {c:Value} (hg:o.guard=some (j,b)) (hgd:gdst ops j=some g) (hgn:g < E.n) (hb:f g=SV.c c) (hne:c≠.bool b):Region.wanted o (yielded ops a.tmps)=false:=by
 have h1:=h.rel g
 rw [hb] at h1
 simp only [SV.rel] at h1
 have h2:a.tmps[g]? = some c:=by
  rw [Array.getD_eq_getD_getElem?] at h1
  have hs:g < a.tmps.size:=by rw [h.size];exact hgn
  rw [Array.getElem?_eq_getElem hs] at h1 ⊢
  simpa using h1
 have h3:yielded ops a.tmps j≠some b:=by
  unfold gdst at hgd
  unfold yielded
  rw [hgd]
  simp only [Option.bind_some,h2]
  split
  ·rename_i b' hb'
   intro e
   simp only [Option.some.injEq] at hb' e
   exact hne (by rw [hb',e])
  ·simp
 simp only [Region.wanted,hg]
 simpa using h3
theorem updM_nil (m:Mem):updM m []=m:=rfl

theorem Oper.wp_step {E:Env} {o:Oper} {f:Frm} {m:Mem} {R:List Key} {v:SV} {U:List (Key×Blk)} (ho:Out E o f m R v U) {ρ:Rho} {a:Act} {w:World} {f':Frm} {m':Mem} (hf:∀ t,t∈opLooks o→f' t=f t) (hm:∀ d,d∈R→m' d=m d)
    (hd:∀ t,o.dst=some t→t < E.n) (h1:Fr E ρ f' a) (h2:Wd E ρ m' w) {K:Act→World→Prop} {Q:Exit→Act→World→Prop} (hK:∀ ρ' a' w',Ext ρ ρ'→Fr E ρ' (f'.put o.dst v) a'→Wd E ρ' (updM m' U) w'→K a' w'):o.wp E.P a w K Q :=
 ho f' m' hf hm ρ a w h1 h2 K Q fun ρ' _x w' he hv hw=>hK ρ' _ w' he ((h1.ext he).put hd hv) hw

abbrev Done:=Nat→Bool
def frD (D:Done):Nat→List Ent→Frm→Frm
 | _,[],f=>f
 | i,e :: r,f=>frD D (i+1) r (if D i then f.put e.dst e.v else f)
def mD (D:Done):Nat→List Ent→Mem→Mem
 | _,[],m=>m
 | i,e :: r,m=>mD D (i+1) r (if D i then updM m e.U else m)
theorem put_at {f:Frm} {d:Option Tmp} {v:SV} {t:Tmp} (h:d≠some t):f.put d v t=f t:=by
 cases d with
 | none=>rfl
 | some d=>simp only [Frm.put];rw [if_neg (fun e=>h (by rw [e]))]
theorem put_congr {f g:Frm} {d:Option Tmp} {v:SV} {t:Tmp} (h:f t=g t):f.put d v t=g.put d v t:=by
 cases d with
 | none=>exact h
 | some d=>simp only [Frm.put];rw [h]
theorem updM_at {m:Mem} {U:List (Key×Blk)} {d:Key} (h:lk U d=none):updM m U d=m d:=by simp [updM,h]
theorem updM_congr {m m':Mem} {U:List (Key×Blk)} {d:Key} (h:m d=m' d):updM m U d=updM m' U d:=by simp only [updM,h]
theorem frD_agree (t:Tmp):∀ (L:List Ent) (i:Nat) (D D':Done) (f g:Frm),(∀ k e,L[k]? = some e→e.dst=some t→D (i+k)=D' (i+k))→f t=g t→frD D i L f t=frD D' i L g t
 | [],_,_,_,_,_,_,h=>h
 | e :: r,i,D,D',f,g,hw,h=>by
  simp only [frD]
  refine frD_agree t r (i+1) D D' _ _ (fun k e' hk he=>by have:=hw (k+1) e' (by simpa using hk) he;simpa [Nat.add_assoc,Nat.add_comm 1 k] using this) ?_
  by_cases hd:e.dst=some t
  ·have:=hw 0 e rfl hd
   simp only [Nat.add_zero] at this
   rw [this]
   cases D' i
   ·simpa using h
   ·simpa using put_congr h
  ·cases D i<;>cases D' i<;>simp [put_at hd,h]
theorem mD_agree (d:Key):∀ (L:List Ent) (i:Nat) (D D':Done) (f g:Mem),(∀ k e,L[k]? = some e→lk e.U d≠none→D (i+k)=D' (i+k))→f d=g d→mD D i L f d=mD D' i L g d
 | [],_,_,_,_,_,_,h=>h
 | e :: r,i,D,D',f,g,hw,h=>by
  simp only [mD]
  refine mD_agree d r (i+1) D D' _ _ (fun k e' hk he=>by have:=hw (k+1) e' (by simpa using hk) he;simpa [Nat.add_assoc,Nat.add_comm 1 k] using this) ?_
  by_cases hd:lk e.U d=none
  ·cases D i<;>cases D' i<;>simp [updM_at hd,h]
  ·have:=hw 0 e rfl hd
   simp only [Nat.add_zero] at this
   rw [this]
   cases D' i
   ·simpa using h
   ·simpa using updM_congr h
theorem frD_last (t:Tmp):∀ (L:List Ent) (i j:Nat) (D:Done) (f:Frm) (e:Ent),L[j]? = some e→e.dst=some t→D (i+j)=true→(∀ k e',L[k]? = some e'→e'.dst=some t→D (i+k)=true→k≤j)→frD D i L f t=e.v
 | [],_,_,_,_,_,h,_,_,_=>by simp at h
 | e0 :: r,i,0,D,f,e,h,he,hD,hl=>by
  simp only [List.getElem?_cons_zero,Option.some.injEq] at h
  subst h
  simp only [Nat.add_zero] at hD
  simp only [frD,hD,if_true]
  have:frD D (i+1) r (f.put e0.dst e0.v) t=frD (fun _=>false) (i+1) r (f.put e0.dst e0.v) t:=by
   refine frD_agree t r (i+1) _ _ _ _ (fun k e' hk he'=>?_) rfl
   have:=hl (k+1) e' (by simpa using hk) he'
   rw [show i+1+k=i+(k+1) by omega]
   cases hb:D (i+(k+1))
   ·rfl
   ·exact absurd (this hb) (by omega)
  rw [this]
  have h2:∀ (r:List Ent) (i:Nat) (f:Frm),frD (fun _=>false) i r f=f:=by
   intro r;induction r with
   | nil=>intro i f;rfl
   | cons e r ih=>intro i f;simp only [frD,Bool.false_eq_true,if_false];exact ih _ _
  rw [h2,he];simp [Frm.put]
 | e0 :: r,i,j+1,D,f,e,h,he,hD,hl=>by
  simp only [frD]
  refine frD_last t r (i+1) j D _ e (by simpa using h) he (by rw [show i+1+j=i+(j+1) by omega];exact hD) (fun k e' hk he' hDk=>?_)
  have:=hl (k+1) e' (by simpa using hk) he' (by rw [show i+(k+1)=i+1+k by omega];exact hDk)
  omega
theorem mD_last (d:Key):∀ (L:List Ent) (i j:Nat) (D:Done) (f:Mem) (e:Ent) (B:Blk),L[j]? = some e→lk e.U d=some B→D (i+j)=true→(∀ k e',L[k]? = some e'→lk e'.U d≠none→D (i+k)=true→k≤j)→mD D i L f d=some B
 | [],_,_,_,_,_,_,h,_,_,_=>by simp at h
 | e0 :: r,i,0,D,f,e,B,h,he,hD,hl=>by
  simp only [List.getElem?_cons_zero,Option.some.injEq] at h
  subst h
  simp only [Nat.add_zero] at hD
  simp only [mD,hD,if_true]
  have:mD D (i+1) r (updM f e0.U) d=mD (fun _=>false) (i+1) r (updM f e0.U) d:=by
   refine mD_agree d r (i+1) _ _ _ _ (fun k e' hk he'=>?_) rfl
   have:=hl (k+1) e' (by simpa using hk) he'
   rw [show i+1+k=i+(k+1) by omega]
   cases hb:D (i+(k+1))
   ·rfl
   ·exact absurd (this hb) (by omega)
  rw [this]
  have h2:∀ (r:List Ent) (i:Nat) (f:Mem),mD (fun _=>false) i r f=f:=by
   intro r;induction r with
   | nil=>intro i f;rfl
   | cons e r ih=>intro i f;simp only [mD,Bool.false_eq_true,if_false];exact ih _ _
  rw [h2];simp [updM,he]
 | e0 :: r,i,j+1,D,f,e,B,h,he,hD,hl=>by
  simp only [mD]
  refine mD_last d r (i+1) j D _ e B (by simpa using h) he (by rw [show i+1+j=i+(j+1) by omega];exact hD) (fun k e' hk he' hDk=>?_)
  have:=hl (k+1) e' (by simpa using hk) he' (by rw [show i+(k+1)=i+1+k by omega];exact hDk)
  omega

/-! ### what comes before what -/
def edgesOn (o:Oper):List Nat:=(o.after.toList.filter (Region.binds .any)).map (·.on)
def maskOf (acc:List Nat):List Nat→Nat
 | []=>0
 | e :: r=>2 ^ e ||| acc.getD e 0 ||| maskOf acc r
def befs:List Oper→List Nat→List Nat
 | [],acc=>acc
 | o :: r,acc=>befs r (acc++[maskOf acc (edgesOn o)])
def befB (b:List Nat) (i j:Nat):Bool:=(b.getD j 0).testBit i
theorem mask_bit {acc:List Nat}:∀ {es:List Nat} {k:Nat},(maskOf acc es).testBit k=true→∃ e,e∈es∧(k=e∨(acc.getD e 0).testBit k=true)
 | [],k,h=>by simp [maskOf] at h
 | e :: r,k,h=>by
  simp only [maskOf,Nat.testBit_or,Bool.or_eq_true,Nat.testBit_two_pow,decide_eq_true_eq] at h
  rcases h with (h | h) | h
  ·exact ⟨e,by simp,.inl h.symm⟩
  ·exact ⟨e,by simp,.inr h⟩
  ·obtain ⟨e',he,hk⟩:=mask_bit h
   exact ⟨e',by simp [he],hk⟩
theorem befs_spec (ops:List Oper) (D:Done) (hD:∀ j o,ops[j]? = some o→D j=true→∀ e,e∈edgesOn o→D e=true) :
    ∀ (l:List Oper) (acc:List Nat),(∀ j,l[j]? = ops[acc.length+j]?) →
     (∀ j o,j < acc.length→ops[j]? = some o→(∀ e,e∈edgesOn o→D e=true)→∀ k,(acc.getD j 0).testBit k=true→D k=true) →
     ∀ j o,ops[j]? = some o→(∀ e,e∈edgesOn o→D e=true)→∀ k,((befs l acc).getD j 0).testBit k=true→D k=true
 | [],acc,hl,ha,j,o,hj,he,k,hk=>by
  simp only [befs] at hk
  by_cases hlt:j < acc.length
  ·exact ha j o hlt hj he k hk
  ·rw [List.getD_eq_getElem?_getD,List.getElem?_eq_none (by omega)] at hk
   simp at hk
 | o0 :: l,acc,hl,ha,j,o,hj,he,k,hk=>by
  simp only [befs] at hk
  refine befs_spec ops D hD l _ (fun j=>by have:=hl (j+1);simpa [Nat.add_assoc,Nat.add_comm 1 j] using this) ?_ j o hj he k hk
  intro j o hj hjo he k hk
  rw [List.length_append,List.length_singleton] at hj
  by_cases hlt:j < acc.length
  ·rw [List.getD_eq_getElem?_getD,List.getElem?_append_left hlt,← List.getD_eq_getElem?_getD] at hk
   exact ha j o hlt hjo he k hk
  ·obtain rfl:j=acc.length:=by omega
   have h0:ops[acc.length]? = some o0:=by simpa using (hl 0).symm
   rw [h0] at hjo;cases hjo
   rw [List.getD_eq_getElem?_getD,List.getElem?_append_right (Nat.le_refl _)] at hk
   simp only [Nat.sub_self,List.getElem?_cons_zero,Option.getD_some] at hk
   obtain ⟨e,hee,h1⟩:=mask_bit hk
   rcases h1 with rfl | h1
   ·exact he _ hee
   ·by_cases hel:e < acc.length
    ·cases hoe:ops[e]? with
     | none =>
      exfalso
      have:=ha
      -- e is below acc.length, and so an operation
      rw [List.getElem?_eq_none_iff] at hoe
      have hh:acc.length < ops.length:=(List.getElem?_eq_some_iff.1 h0).1
      omega
     | some oe=>exact ha e oe hel hoe (hD e oe hoe (he e hee)) k h1
    ·rw [List.getD_eq_getElem?_getD,List.getElem?_eq_none (by omega)] at h1
     simp at h1
def meet (ops:Array Oper) (oi oj:Oper) (ei ej:Ent):Bool :=
 (match ei.dst with | some d=>(oj.looksAt ops).contains d || ej.dst == some d | none=>false) ||
 (match ej.dst with | some d=>(oi.looksAt ops).contains d | none=>false) ||
 ei.U.any (fun x=>ej.R.contains x.1) || ej.U.any (fun x=>ei.R.contains x.1)
def okPairs (ops:Array Oper) (l:List Oper) (L:List Ent) (b:List Nat):Bool :=
 (List.range l.length).all fun j=>(edgesOn (l.getD j default)).all (· < j) && (List.range j).all fun i =>
  befB b i j || match L[i]?,L[j]? with
   | some ei,some ej=>!(meet ops (l.getD i default) (l.getD j default) ei ej)
   | _,_=>true
def okLog (ops:List Oper) (L:List Ent):Bool:=okPairs ops.toArray ops L (befs ops [])

theorem frD_none:∀ (L:List Ent) (D:Done) (i:Nat) (f:Frm),(∀ k,D k=false)→frD D i L f=f
 | [],_,_,_,_=>rfl
 | e :: r,D,i,f,h=>by simp only [frD,h,Bool.false_eq_true,if_false];exact frD_none r D _ _ h
theorem mD_none:∀ (L:List Ent) (D:Done) (i:Nat) (f:Mem),(∀ k,D k=false)→mD D i L f=f
 | [],_,_,_,_=>rfl
 | e :: r,D,i,f,h=>by simp only [mD,h,Bool.false_eq_true,if_false];exact mD_none r D _ _ h
theorem lk_any {U:List (Key×Blk)} {d:Key} {p:Key→Bool} (h:lk U d≠none) (hp:p d=true):U.any (fun x=>p x.1)=true:=by
 induction U with
 | nil=>simp [lk] at h
 | cons x r ih =>
  obtain ⟨k,B⟩:=x
  simp only [lk] at h
  by_cases e:k=d
  ·subst e;simp [hp]
  ·rw [if_neg e] at h;simp only [List.any_cons,ih h,Bool.or_true]
section
variable {E:Env} {ops:List Oper} {L:List Ent} {f0:Frm} {m0:Mem} {f':Frm} {m':Mem}
theorem ok_edges (h:okLog ops L=true) {j:Nat} {o:Oper} (hj:ops[j]? = some o):∀ e∈edgesOn o,e < j:=by
 have hl:j < ops.length:=(List.getElem?_eq_some_iff.1 hj).1
 simp only [okLog,okPairs,List.all_eq_true,List.mem_range,Bool.and_eq_true,decide_eq_true_eq] at h
 have:=(h j hl).1
 rw [List.getD_eq_getElem?_getD,hj] at this
 simpa using this
theorem ok_pair (h:okLog ops L=true) {i j:Nat} {oi oj:Oper} {ei ej:Ent} (hi:ops[i]? = some oi) (hj:ops[j]? = some oj) (hij:i < j) (hei:L[i]? = some ei) (hej:L[j]? = some ej) :
    befB (befs ops []) i j=true∨meet ops.toArray oi oj ei ej=false:=by
 have hl:j < ops.length:=(List.getElem?_eq_some_iff.1 hj).1
 simp only [okLog,okPairs,List.all_eq_true,List.mem_range,Bool.and_eq_true,decide_eq_true_eq] at h
 have:=(h j hl).2 i hij
 simp only [List.getD_eq_getElem?_getD,hi,hj,hei,hej,Option.getD_some,Bool.or_eq_true,Bool.not_eq_true'] at this
 exact this
def Closed (ops:List Oper) (D:Done):Prop:=∀ j o,ops[j]? = some o→D j=true→∀ e,e∈edgesOn o→D e=true
theorem bef_in {D:Done} (hD:Closed ops D) {i j:Nat} {oj:Oper} (hj:ops[j]? = some oj) (he:∀ e,e∈edgesOn oj→D e=true) (hb:befB (befs ops []) i j=true):D i=true :=
 befs_spec ops D hD ops [] (fun j=>by simp) (fun j o h=>by simp at h) j oj hj he i hb
theorem agree_tmp (hlen:L.length≤ops.length) (h:okLog ops L=true) {D:Done} (hD:Closed ops D) {i:Nat} {oi:Oper} (hi:ops[i]? = some oi) (hDi:D i=false) (he:∀ e,e∈edgesOn oi→D e=true) {ei:Ent} (hei:L[i]? = some ei) {t:Tmp} (ht:t∈oi.looksAt ops.toArray) :
    frD D 0 L f0 t=frD (fun k=>decide (k < i)) 0 L f0 t:=by
 refine frD_agree t L 0 _ _ _ _ (fun k ek hk hdst=>?_) rfl
 rw [Nat.zero_add]
 have hkl:k < ops.length:=Nat.lt_of_lt_of_le (List.getElem?_eq_some_iff.1 hk).1 hlen
 obtain ⟨ok,hok⟩:∃ o,ops[k]? = some o:=⟨_,List.getElem?_eq_getElem hkl⟩
 rcases Nat.lt_trichotomy k i with hlt | rfl | hgt
 ·simp only [hlt,decide_true]
  rcases ok_pair h hok hi hlt hk hei with hb | hb
  ·exact bef_in hD hi he hb
  ·exfalso
   simp only [meet,hdst,Bool.or_eq_false_iff] at hb
   have:=hb.1.1.1.1
   rw [List.contains_eq_mem] at this
   simp [ht] at this
 ·simp [hDi]
 ·rw [show decide (k < i)=false by simp;omega]
  cases hDk:D k with
  | false=>rfl
  | true =>
   exfalso
   rcases ok_pair h hi hok hgt hei hk with hb | hb
   ·have:=bef_in hD hok (hD k ok hok hDk) hb
    rw [hDi] at this;cases this
   ·simp only [meet,hdst,Bool.or_eq_false_iff] at hb
    have:=hb.1.1.2
    rw [List.contains_eq_mem] at this
    simp [ht] at this
theorem agree_mem (hlen:L.length≤ops.length) (h:okLog ops L=true) {D:Done} (hD:Closed ops D) {i:Nat} {oi:Oper} (hi:ops[i]? = some oi) (hDi:D i=false) (he:∀ e,e∈edgesOn oi→D e=true) {ei:Ent} (hei:L[i]? = some ei) {d:Key} (hd:d∈ei.R) :
    mD D 0 L m0 d=mD (fun k=>decide (k < i)) 0 L m0 d:=by
 refine mD_agree d L 0 _ _ _ _ (fun k ek hk hdst=>?_) rfl
 rw [Nat.zero_add]
 have hkl:k < ops.length:=Nat.lt_of_lt_of_le (List.getElem?_eq_some_iff.1 hk).1 hlen
 obtain ⟨ok,hok⟩:∃ o,ops[k]? = some o:=⟨_,List.getElem?_eq_getElem hkl⟩
 rcases Nat.lt_trichotomy k i with hlt | rfl | hgt
 ·simp only [hlt,decide_true]
  rcases ok_pair h hok hi hlt hk hei with hb | hb
  ·exact bef_in hD hi he hb
  ·exfalso
   simp only [meet,Bool.or_eq_false_iff] at hb
   have:=lk_any (p:=fun x=>ei.R.contains x) hdst (by simpa using hd)
   rw [hb.1.2] at this;cases this
 ·simp [hDi]
 ·rw [show decide (k < i)=false by simp;omega]
  cases hDk:D k with
  | false=>rfl
  | true =>
   exfalso
   rcases ok_pair h hi hok hgt hei hk with hb | hb
   ·have:=bef_in hD hok (hD k ok hok hDk) hb
    rw [hDi] at this;cases this
   ·simp only [meet,Bool.or_eq_false_iff] at hb
    have:=lk_any (p:=fun x=>ei.R.contains x) hdst (by simpa using hd)
    rw [hb.2] at this;cases this
def Done.add (D:Done) (i:Nat):Done:=fun k=>D k || k == i
theorem add_tmp (hlen:L.length≤ops.length) (h:okLog ops L=true) {D:Done} (hD:Closed ops D) {i:Nat} {oi:Oper} (hi:ops[i]? = some oi) (hDi:D i=false) {ei:Ent} (hei:L[i]? = some ei) (t:Tmp) :
    frD (D.add i) 0 L f0 t=(frD D 0 L f0).put ei.dst ei.v t:=by
 by_cases hdst:ei.dst=some t
 ·rw [frD_last t L 0 i (D.add i) f0 ei hei hdst (by simp [Done.add]) ?_]
  ·rw [hdst];simp [Frm.put]
  ·intro k ek hk hdk hDk
   rcases Nat.lt_or_ge i k with hgt | hle
   ·exfalso
    have hDk':D k=true:=by
     simp only [Done.add,Nat.zero_add,Bool.or_eq_true,beq_iff_eq] at hDk
     rcases hDk with h1 | h1
     ·exact h1
     ·omega
    have hkl:k < ops.length:=Nat.lt_of_lt_of_le (List.getElem?_eq_some_iff.1 hk).1 hlen
    obtain ⟨ok,hok⟩:∃ o,ops[k]? = some o:=⟨_,List.getElem?_eq_getElem hkl⟩
    rcases ok_pair h hi hok hgt hei hk with hb | hb
    ·have:=bef_in hD hok (hD k ok hok hDk') hb
     rw [hDi] at this;cases this
    ·simp [meet,hdst,hdk] at hb
   ·exact hle
 ·rw [put_at hdst]
  refine frD_agree t L 0 _ _ _ _ (fun k ek hk hdk=>?_) rfl
  have:k≠i:=by rintro rfl;rw [hei] at hk;cases hk;exact hdst hdk
  simp [Done.add,this]
theorem add_mem (hkeys:∀ (k:Nat) (e:Ent),L[k]? = some e→∀ d B,lk e.U d=some B→d∈e.R) (hlen:L.length≤ops.length) (h:okLog ops L=true) {D:Done} (hD:Closed ops D) {i:Nat} {oi:Oper} (hi:ops[i]? = some oi) (hDi:D i=false) {ei:Ent} (hei:L[i]? = some ei) (d:Key) :
    mD (D.add i) 0 L m0 d=updM (mD D 0 L m0) ei.U d:=by
 cases hlk:lk ei.U d with
 | some B =>
  rw [mD_last d L 0 i (D.add i) m0 ei B hei hlk (by simp [Done.add]) ?_]
  ·simp [updM,hlk]
  ·intro k ek hk hdk hDk
   rcases Nat.lt_or_ge i k with hgt | hle
   ·exfalso
    have hDk':D k=true:=by
     simp only [Done.add,Nat.zero_add,Bool.or_eq_true,beq_iff_eq] at hDk
     rcases hDk with h1 | h1
     ·exact h1
     ·omega
    have hkl:k < ops.length:=Nat.lt_of_lt_of_le (List.getElem?_eq_some_iff.1 hk).1 hlen
    obtain ⟨ok,hok⟩:∃ o,ops[k]? = some o:=⟨_,List.getElem?_eq_getElem hkl⟩
    have hdR:d∈ek.R:=by
     cases hlk2:lk ek.U d with
     | none=>exact absurd hlk2 hdk
     | some B2=>exact hkeys k ek hk d B2 hlk2
    rcases ok_pair h hi hok hgt hei hk with hb | hb
    ·have:=bef_in hD hok (hD k ok hok hDk') hb
     rw [hDi] at this;cases this
    ·simp only [meet,Bool.or_eq_false_iff] at hb
     have:=lk_any (U:=ei.U) (d:=d) (p:=fun x=>ek.R.contains x) (by rw [hlk];simp) (by simpa using hdR)
     rw [hb.1.2] at this;cases this
   ·exact hle
 | none =>
  rw [updM_at hlk]
  refine mD_agree d L 0 _ _ _ _ (fun k ek hk hdk=>?_) rfl
  have:k≠i:=by rintro rfl;rw [hei] at hk;cases hk;exact hdk hlk
  simp [Done.add,this]

theorem add_closed {D:Done} (hD:Closed ops D) {i:Nat} {oi:Oper} (hi:ops[i]? = some oi) (he:∀ e,e∈edgesOn oi→D e=true):Closed ops (D.add i):=by
 intro j o hj hDj e hee
 simp only [Done.add,Bool.or_eq_true,beq_iff_eq] at hDj ⊢
 rcases hDj with h | rfl
 ·exact .inl (hD j o hj h e hee)
 ·rw [hi] at hj;cases hj;exact .inl (he e hee)
theorem looks_sub {o:Oper} {ops:Array Oper} {t:Tmp} (h:t∈opLooks o):t∈o.looksAt ops:=by
 unfold opLooks at h;unfold Oper.looksAt
 exact List.mem_append_left _ h


theorem frD_snoc:∀ (L:List Ent) (D:Done) (i:Nat) (f:Frm) (e:Ent),frD D i (L++[e]) f=if D (i+L.length) then (frD D i L f).put e.dst e.v else frD D i L f
 | [],D,i,f,e=>by simp [frD]
 | x :: r,D,i,f,e=>by
  simp only [List.cons_append,frD]
  rw [frD_snoc r D (i+1)]
  simp only [List.length_cons,show i+1+r.length=i+(r.length+1) from by omega]
theorem mD_snoc:∀ (L:List Ent) (D:Done) (i:Nat) (m:Mem) (e:Ent),mD D i (L++[e]) m=if D (i+L.length) then updM (mD D i L m) e.U else mD D i L m
 | [],D,i,m,e=>by simp [mD]
 | x :: r,D,i,m,e=>by
  simp only [List.cons_append,mD]
  rw [mD_snoc r D (i+1)]
  simp only [List.length_cons,show i+1+r.length=i+(r.length+1) from by omega]
theorem frD_longer (D:Done):∀ (X L:List Ent) (i:Nat) (f:Frm),(∀ k,i+L.length≤k→D k=false)→frD D i (L++X) f=frD D i L f
 | [],L,i,f,_=>by simp
 | x :: X,L,i,f,h=>by
  rw [show L++x :: X=(L++[x])++X by simp,frD_longer D X (L++[x]) i f (fun k hk=>h k (by simp at hk;omega)),frD_snoc,h _ (Nat.le_refl _)]
  simp
theorem mD_longer (D:Done):∀ (X L:List Ent) (i:Nat) (m:Mem),(∀ k,i+L.length≤k→D k=false)→mD D i (L++X) m=mD D i L m
 | [],L,i,m,_=>by simp
 | x :: X,L,i,m,h=>by
  rw [show L++x :: X=(L++[x])++X by simp,mD_longer D X (L++[x]) i m (fun k hk=>h k (by simp at hk;omega)),mD_snoc,h _ (Nat.le_refl _)]
  simp
theorem okLog_pre {X:List Ent} (h:okLog ops (L++X)=true):okLog ops L=true:=by
 simp only [okLog,okPairs,List.all_eq_true,List.mem_range,Bool.and_eq_true,decide_eq_true_eq] at h ⊢
 intro j hj
 refine ⟨(h j hj).1,fun i hi=>?_⟩
 have:=(h j hj).2 i hi
 cases hLi:L[i]? with
 | none=>simp
 | some ei =>
  cases hLj:L[j]? with
  | none=>simp
  | some ej =>
   rw [List.getElem?_append_left (List.getElem?_eq_some_iff.1 hLi).1,List.getElem?_append_left (List.getElem?_eq_some_iff.1 hLj).1,hLi,hLj] at this
   exact this
end
def NOut (E:Env) (o:Oper) (f:Frm) (m:Mem) (R:List Key) (C:SV→List (Key×Blk)→Prop):Prop :=
 ∀ f' m',(∀ t,t∈opLooks o→f' t=f t)→(∀ d,d∈R→m' d=m d)→∀ ρ a w,Fr E ρ f' a→Wd E ρ m' w→∀ (K:Act→World→Prop) (Q:Exit→Act→World→Prop),
  (∀ ρ' x w' v U,C v U→Ext ρ ρ'→SV.rel ρ' v x→Wd E ρ' (updM m' U) w'→K (a.put o.dst x) w')→o.wp E.P a w K Q
def openEnt (o:Oper) (R:List Key):Ent:=⟨o.dst,SV.bad,R,R.map fun d=>(d,Blk.one 0 SV.bad)⟩
def tailOk (ops:List Oper) (i:Nat):Bool:=(List.range ops.length).all fun j=>decide (j≤i) || befB (befs ops []) i j
def OpenOk (E:Env) (ops:Array Oper) (o:Oper) (f:Frm):Prop:=o.guard=none∨∃ j b g,o.guard=some (j,b)∧gdst ops j=some g∧g < E.n∧f g=SV.c (.bool b)
def LexT (E:Env) (ops:List Oper) (draw:Bool):List Oper→Frm→Mem→List Ent→(Frm→Mem→Prop)→Prop
 | [],f,m,L,K=>(draw=true→okLog ops L=true)∧K f m
 | o :: r,f,m,L,K=>(∀ t,o.dst=some t→t < E.n) ∧
  ((∃ e,e.dst=o.dst∧StepOk E ops.toArray o f m e∧LexT E ops draw r (f.put e.dst e.v) (updM m e.U) (L++[e]) K) ∨
   (∃ R C,OpenOk E ops.toArray o f∧NOut E o f m R C∧(∀ v U,C v U→∀ d B,lk U d=some B→d∈R)∧(draw=true→(tailOk ops L.length && okLog ops (L++[openEnt o R]))=true) ∧
    ∀ v U,C v U→LexT E ops draw r (f.put o.dst v) (updM m U) (L++[⟨o.dst,v,R,U⟩]) K))
theorem LexT.plain {E:Env} {ops:List Oper} {draw:Bool} {K:Frm→Mem→Prop}:∀ {l:List Oper} {f:Frm} {m:Mem} {L:List Ent} (_:LexT E ops draw l f m L K) {k:Nat} {ρ:Rho} {a:Act} {w:World} {Q:Exit→Act→World→Prop},(∀ j,l[j]? = ops[k+j]?)→Fr E ρ f a→Wd E ρ m w →
    (∀ f' m' ρ' a' w',K f' m'→Ext ρ ρ'→Fr E ρ' f' a'→Wd E ρ' m' w'→Q .normal a' w')→wpOps E.P ops.toArray Q (List.range' k l.length) a w
 | [],f,m,L,h,k,ρ,a,w,Q,hl,h1,h2,hQ=>hQ f m ρ a w h.2 (Ext.refl _) h1 h2
 | o :: rest,f,m,L,h,k,ρ,a,w,Q,hl,h1,h2,hQ=>by
  obtain ⟨hd,h⟩:=h
  have h0:ops.toArray[k]? = some o:=by simpa using (hl 0).symm
  have hl':∀ j,rest[j]? = ops[k+1+j]?:=fun j=>by have:=hl (j+1);simpa [Nat.add_assoc,Nat.add_comm 1 j] using this
  simp only [List.length_cons,List.range'_succ,wpOps,h0]
  rcases h with ⟨e,hdst,hs,hr⟩ | ⟨R,C,hg,hout,hU,hok,hr⟩
  ·rcases hs with ⟨hg,hU,ho⟩ | ⟨j,b,c,g,hg,hgd,hgn,hb,hne,hv,hR,hU⟩
   ·have hw:Region.wanted o (yielded ops.toArray a.tmps)=true:=by
      rcases hg with hg | ⟨j,b,g,hg,hgd,hgn,hb⟩
      ·exact wanted_none hg
      ·simp [Region.wanted,hg,yielded_at h1 hgd hgn hb]
    rw [if_pos hw]
    refine .inl (Oper.wp_step ho (fun _ _=>rfl) (fun _ _=>rfl) hd h1 h2 fun ρ' a' w' he h3 h4=>?_)
    rw [← hdst] at h3
    exact LexT.plain hr hl' h3 h4 (fun f' m' ρ'' a'' w'' hk he2 h5 h6=>hQ f' m' ρ'' a'' w'' hk (he.trans he2) h5 h6)
   ·rw [if_neg (by rw [unwanted_at h1 hg hgd hgn hb hne];simp)]
    rw [hdst,hv,hU] at hr
    exact LexT.plain hr hl' (h1.put hd rfl) h2 hQ
  ·have hw:Region.wanted o (yielded ops.toArray a.tmps)=true:=by
     rcases hg with hg | ⟨j,b,g,hg,hgd,hgn,hb⟩
     ·exact wanted_none hg
     ·simp [Region.wanted,hg,yielded_at h1 hgd hgn hb]
   rw [if_pos hw]
   refine .inl (hout f m (fun _ _=>rfl) (fun _ _=>rfl) ρ a w h1 h2 _ _ fun ρ' x w' v U hC he hv hwd=>?_)
   exact LexT.plain (hr v U hC) hl' ((h1.ext he).put hd hv) hwd (fun f' m' ρ'' a'' w'' hk he2 h5 h6=>hQ f' m' ρ'' a'' w'' hk (he.trans he2) h5 h6)
section
variable {E:Env} {ops:List Oper} {f0:Frm} {m0:Mem} {K:Frm→Mem→Prop}
structure Com (E:Env) (ops:List Oper) (f0:Frm) (m0:Mem) (D:Done) (L:List Ent) (f:Frm) (m:Mem):Prop where
 len:L.length≤ops.length
 keys:∀ (k:Nat) (e:Ent),L[k]? = some e→∀ d B,lk e.U d=some B→d∈e.R
 step:∀ (i:Nat) (o:Oper) (e:Ent),ops[i]? = some o→L[i]? = some e→e.dst=o.dst∧(∀ t,o.dst=some t→t < E.n)∧(D i=true∨StepOk E ops.toArray o (frD (fun k=>decide (k < i)) 0 L f0) (mD (fun k=>decide (k < i)) 0 L m0) e)
 fin:frD (fun k=>decide (k < L.length)) 0 L f0=f
 finm:mD (fun k=>decide (k < L.length)) 0 L m0=m
theorem Com.mono {D D':Done} {L:List Ent} {f:Frm} {m:Mem} (h:Com E ops f0 m0 D L f m) (hD:∀ k,D k=true→D' k=true):Com E ops f0 m0 D' L f m :=
 ⟨h.len,h.keys,fun i o e h1 h2=>by
  obtain ⟨a,b,c⟩:=h.step i o e h1 h2
  exact ⟨a,b,c.imp (hD i) id⟩,h.fin,h.finm⟩
theorem Com.snoc {D:Done} {L:List Ent} {f:Frm} {m:Mem} (h:Com E ops f0 m0 D L f m) {o:Oper} {e:Ent} (ho:ops[L.length]? = some o) (hdst:e.dst=o.dst) (hd:∀ t,o.dst=some t→t < E.n) (hU:∀ d B,lk e.U d=some B→d∈e.R) (hs:D L.length=true∨StepOk E ops.toArray o f m e) :
    Com E ops f0 m0 D (L++[e]) (f.put e.dst e.v) (updM m e.U):=by
 have hlt:=(List.getElem?_eq_some_iff.1 ho).1
 have e1:∀ i,i≤L.length→frD (fun k=>decide (k < i)) 0 (L++[e]) f0=frD (fun k=>decide (k < i)) 0 L f0:=fun i hi=>frD_longer _ [e] L 0 f0 (fun k hk=>by simp;omega)
 have e2:∀ i,i≤L.length→mD (fun k=>decide (k < i)) 0 (L++[e]) m0=mD (fun k=>decide (k < i)) 0 L m0:=fun i hi=>mD_longer _ [e] L 0 m0 (fun k hk=>by simp;omega)
 have e3:frD (fun k=>decide (k < L.length+1)) 0 L f0=frD (fun k=>decide (k < L.length)) 0 L f0:=funext fun t=>frD_agree t L 0 _ _ _ _ (fun k x hk _=>by
  have:=(List.getElem?_eq_some_iff.1 hk).1
  rw [Nat.zero_add,decide_eq_true (by omega),decide_eq_true (by omega)]) rfl
 have e4:mD (fun k=>decide (k < L.length+1)) 0 L m0=mD (fun k=>decide (k < L.length)) 0 L m0:=funext fun t=>mD_agree t L 0 _ _ _ _ (fun k x hk _=>by
  have:=(List.getElem?_eq_some_iff.1 hk).1
  rw [Nat.zero_add,decide_eq_true (by omega),decide_eq_true (by omega)]) rfl
 refine ⟨by simp;omega,fun k x hk=>?_,fun i o' x hi hx=>?_,?_,?_⟩
 ·rcases Nat.lt_trichotomy k L.length with hk2 | hk2 | hk2
  ·rw [List.getElem?_append_left hk2] at hk;exact h.keys k x hk
  ·subst hk2;simp at hk;subst hk;exact hU
  ·rw [List.getElem?_eq_none (by simp;omega)] at hk;cases hk
 ·rcases Nat.lt_trichotomy i L.length with hk2 | hk2 | hk2
  ·rw [List.getElem?_append_left hk2] at hx
   rw [e1 i (by omega),e2 i (by omega)]
   exact h.step i o' x hi hx
  ·subst hk2;simp at hx;subst hx
   rw [ho] at hi;cases hi
   rw [e1 _ (Nat.le_refl _),e2 _ (Nat.le_refl _),h.fin,h.finm]
   exact ⟨hdst,hd,hs⟩
  ·rw [List.getElem?_eq_none (by simp;omega)] at hx;cases hx
 ·rw [List.length_append,List.length_singleton,frD_snoc,Nat.zero_add,decide_eq_true (by omega),if_pos rfl,e3,h.fin]
 ·rw [List.length_append,List.length_singleton,mD_snoc,Nat.zero_add,decide_eq_true (by omega),if_pos rfl,e4,h.finm]
def Rest (E:Env) (ops:List Oper) (K:Frm→Mem→Prop) (L:List Ent) (f:Frm) (m:Mem):Prop :=
 (L.length=ops.length∧okLog ops L=true∧K f m) ∨
 (∃ o,ops[L.length]? = some o∧(∀ t,o.dst=some t→t < E.n)∧∃ R C,OpenOk E ops.toArray o f∧NOut E o f m R C∧(∀ v U,C v U→∀ d B,lk U d=some B→d∈R)∧(tailOk ops L.length && okLog ops (L++[openEnt o R]))=true ∧
  ∀ v U,C v U→LexT E ops true (ops.drop (L.length+1)) (f.put o.dst v) (updM m U) (L++[⟨o.dst,v,R,U⟩]) K)
theorem Rest.ok {L:List Ent} {f:Frm} {m:Mem} (h:Rest E ops K L f m):okLog ops L=true:=by
 rcases h with ⟨_,h,_⟩ | ⟨o,ho,hd,R,C,h1,h2,h3,h4,h5⟩
 ·exact h
 ·simp only [Bool.and_eq_true] at h4
  exact okLog_pre h4.2
theorem StepOk.keys {ops:Array Oper} {o:Oper} {f:Frm} {m:Mem} {e:Ent} (h:StepOk E ops o f m e):∀ d B,lk e.U d=some B→d∈e.R:=by
 rcases h with ⟨-,hU,-⟩ | ⟨_,_,_,_,_,_,_,_,_,_,_,hU⟩
 ·exact hU
 ·intro d B hb;rw [hU] at hb;simp [lk] at hb
theorem LexT.advance {D:Done}:∀ {l:List Oper} {f:Frm} {m:Mem} {L:List Ent},LexT E ops true l f m L K→l=ops.drop L.length→Com E ops f0 m0 D L f m →
    ∃ L2 f2 m2,(∃ X,L2=L++X)∧Com E ops f0 m0 D L2 f2 m2∧Rest E ops K L2 f2 m2
 | [],f,m,L,h,hl,hc=>by
  have h1:ops.length≤L.length:=List.drop_eq_nil_iff.1 hl.symm
  have h2:=hc.len
  exact ⟨L,f,m,⟨[],by simp⟩,hc,.inl ⟨by omega,h.1 rfl,h.2⟩⟩
 | o :: r,f,m,L,h,hl,hc=>by
  obtain ⟨hd,h⟩:=h
  have hlt:L.length < ops.length:=by
   rcases Nat.lt_or_ge L.length ops.length with hlt | hge
   ·exact hlt
   ·rw [List.drop_eq_nil_of_le hge] at hl;cases hl
  have ho:ops[L.length]? = some o:=by
   have:=congrArg (fun l=>l[0]?) hl
   simpa using this.symm
  have hr:r=ops.drop (L.length+1):=by
   have:=congrArg List.tail hl
   simpa using this
  rcases h with ⟨e,hdst,hs,h⟩ | ⟨R,C,h1,h2,h3,h4,h5⟩
  ·obtain ⟨L2,f2,m2,⟨X,hX⟩,h6,h7⟩:=LexT.advance h (by rw [hr];simp) (hc.snoc ho hdst hd hs.keys (.inr hs))
   exact ⟨L2,f2,m2,⟨e :: X,by rw [hX];simp⟩,h6,h7⟩
  ·exact ⟨L,f,m,⟨[],by simp⟩,hc,.inr ⟨o,ho,hd,R,C,h1,h2,h3,h4 rfl,by rw [← hr];exact h5⟩⟩

theorem any_main {Q:Exit→Act→World→Prop} {ρ0:Rho} (hQ:∀ f m ρ a w,K f m→Ext ρ0 ρ→Fr E ρ f a→Wd E ρ m w→Q .normal a w) :
    ∀ (fuel:Nat) (listed:Array Bool) (ρ:Rho) (a:Act) (w:World) (L:List Ent) (f':Frm) (m':Mem),Com E ops f0 m0 (fun k=>listed.getD k false) L f' m'→Rest E ops K L f' m'→listed.size=ops.length→((List.range ops.length).filter fun k=>!listed.getD k false).length=fuel→Closed ops (fun k=>listed.getD k false)→(∀ k,L.length≤k→listed.getD k false=false)→Ext ρ0 ρ →
     Fr E ρ (frD (fun k=>listed.getD k false) 0 L f0) a→Wd E ρ (mD (fun k=>listed.getD k false) 0 L m0) w→wpAny E.P .any ops.toArray Q fuel listed a w:=by
 -- no operation is ready: all are done
 have hdone:∀ (L:List Ent) (_:okLog ops L=true) (listed:Array Bool),listed.size=ops.length→Region.ready .any ops.toArray listed=[]→∀ k,k < ops.length→listed.getD k false=true:=by
  intro L h listed hsz hr k
  induction k using Nat.strongRecOn with
  | _ k ih =>
   intro hk
   cases hl:listed.getD k false with
   | true=>rfl
   | false =>
    exfalso
    obtain ⟨o,ho⟩:∃ o,ops[k]? = some o:=⟨_,List.getElem?_eq_getElem hk⟩
    have:k∈Region.ready .any ops.toArray listed:=by
     simp only [Region.ready,List.mem_filter,List.mem_range,List.size_toArray,hk,true_and,List.getElem?_toArray,ho,Option.map_some,Option.getD_some,Bool.and_eq_true,Bool.not_eq_true']
     refine ⟨?_,?_⟩
     ·rw [Array.getD_eq_getD_getElem?] at hl ⊢
      have hks:k < listed.size:=by omega
      rw [Array.getElem?_eq_getElem hks] at hl ⊢
      simpa using hl
     ·rw [Array.all_eq_true_iff_forall_mem]
      intro e he
      cases hb:Region.binds .any e with
      | false=>simp
      | true =>
       have hlt:=ok_edges h ho e.on (by simp only [edgesOn,List.mem_map,List.mem_filter];exact ⟨e,⟨by simpa using he,hb⟩,rfl⟩)
       simp [ih e.on hlt (by omega)]
    rw [hr] at this;cases this
 -- all are done: the walk is at its end
 have hend:∀ (listed:Array Bool) (ρ:Rho) (a:Act) (w:World) (L:List Ent) (f':Frm) (m':Mem),Com E ops f0 m0 (fun k=>listed.getD k false) L f' m'→Rest E ops K L f' m'→(∀ k,L.length≤k→listed.getD k false=false)→Ext ρ0 ρ →
   Fr E ρ (frD (fun k=>listed.getD k false) 0 L f0) a→Wd E ρ (mD (fun k=>listed.getD k false) 0 L m0) w→(∀ k,k < ops.length→listed.getD k false=true)→Q .normal a w:=by
  intro listed ρ a w L f' m' hc hrest hbeyond hE h1 h2 hall
  have hlen:=hc.len
  have hLe:L.length=ops.length:=by
   rcases Nat.lt_or_ge L.length ops.length with hlt | hge
   ·have e1:=hall _ hlt
    rw [hbeyond _ (Nat.le_refl _)] at e1;cases e1
   ·omega
  have e1:frD (fun k=>listed.getD k false) 0 L f0=f':=by
   rw [← hc.fin]
   exact funext fun t=>frD_agree t L 0 _ _ _ _ (fun k x hk _=>by
    have:=(List.getElem?_eq_some_iff.1 hk).1
    rw [Nat.zero_add,hall k (by omega),decide_eq_true (by omega)]) rfl
  have e2:mD (fun k=>listed.getD k false) 0 L m0=m':=by
   rw [← hc.finm]
   exact funext fun t=>mD_agree t L 0 _ _ _ _ (fun k x hk _=>by
    have:=(List.getElem?_eq_some_iff.1 hk).1
    rw [Nat.zero_add,hall k (by omega),decide_eq_true (by omega)]) rfl
  rw [e1] at h1;rw [e2] at h2
  rcases hrest with ⟨_,_,hK⟩ | ⟨o,ho,_⟩
  ·exact hQ f' m' ρ a w hK hE h1 h2
  ·have:=(List.getElem?_eq_some_iff.1 ho).1
   omega
 intro fuel
 induction fuel with
 | zero =>
  intro listed ρ a w L f' m' hcom hrest hsz hf hc hbeyond hE h1 h2
  have hall:∀ k,k < ops.length→listed.getD k false=true:=by
   intro k hk
   have hnil:=List.length_eq_zero_iff.1 hf
   cases hl:listed.getD k false with
   | true=>rfl
   | false =>
    have:k∈(List.range ops.length).filter fun k=>!listed.getD k false:=by simp only [List.mem_filter,List.mem_range,hk,hl,Bool.not_false,and_self]
    rw [hnil] at this;cases this
  refine ⟨?_,hend listed ρ a w L f' m' hcom hrest hbeyond hE h1 h2 hall⟩
  simp only [Region.ready,List.filter_eq_nil_iff,List.mem_range,List.size_toArray]
  intro k hk
  have:=hall k hk
  rw [Array.getD_eq_getD_getElem?,Array.getElem?_eq_getElem (by omega)] at this
  simp only [Option.getD_some] at this
  rw [Array.getD_eq_getD_getElem?,Array.getElem?_eq_getElem (by omega)]
  simp [this]
 | succ fuel ih =>
  intro listed ρ a w L f' m' hcom hrest hsz hf hc hbeyond hE h1 h2
  have h:=hrest.ok
  have hlen:=hcom.len
  refine ⟨fun hr=>hend listed ρ a w L f' m' hcom hrest hbeyond hE h1 h2 (hdone L h listed hsz hr),fun i hi=>?_⟩
  simp only [Region.ready,List.mem_filter,List.mem_range,List.size_toArray,List.getElem?_toArray,Bool.and_eq_true,Bool.not_eq_true'] at hi
  obtain ⟨hil,hin,hia⟩:=hi
  obtain ⟨o,ho⟩:∃ o,ops[i]? = some o:=⟨_,List.getElem?_eq_getElem hil⟩
  rw [ho] at hia
  simp only [Option.map_some,Option.getD_some] at hia
  have hDi:listed.getD i false=false:=by
   rw [Array.getD_eq_getD_getElem?] at hin ⊢
   rw [Array.getElem?_eq_getElem (by omega)] at hin ⊢
   simpa using hin
  have he:∀ e,e∈edgesOn o→listed.getD e false=true:=by
   intro e hee
   simp only [edgesOn,List.mem_map,List.mem_filter] at hee
   obtain ⟨e',⟨h3,h4⟩,rfl⟩:=hee
   have:=Array.all_eq_true_iff_forall_mem.1 hia e' (by simpa using h3)
   simpa [h4] using this
  have hadd:∀ k,(listed.setIfInBounds i true).getD k false=Done.add (fun k=>listed.getD k false) i k:=by
   intro k
   simp only [Done.add,Array.getD_eq_getD_getElem?]
   by_cases e:k=i
   ·subst e;rw [Array.getElem?_setIfInBounds_self_of_lt (by omega)];simp
   ·rw [Array.getElem?_setIfInBounds_ne (fun e2=>e e2.symm)];simp [e]
  have hfun:(fun k=>(listed.setIfInBounds i true).getD k false)=Done.add (fun k=>listed.getD k false) i:=funext hadd
  have hmono:∀ k,(fun k=>listed.getD k false) k=true→Done.add (fun k=>listed.getD k false) i k=true:=fun k hk=>by simp only [Done.add,Bool.or_eq_true];exact .inl hk
  have hcnt:((List.range ops.length).filter fun k=>!(listed.setIfInBounds i true).getD k false).length=fuel:=by
   have h3:∀ n,((List.range n).filter fun k=>!listed.getD k false).length=((List.range n).filter fun k=>!(listed.setIfInBounds i true).getD k false).length+(if i < n then 1 else 0):=by
    intro n
    induction n with
    | zero=>simp
    | succ n ihn =>
     rw [List.range_succ,List.filter_append,List.filter_append,List.length_append,List.length_append,ihn]
     by_cases e:n=i
     ·subst e
      have e2:=hadd n
      simp only [Done.add,BEq.rfl,Bool.or_true] at e2
      simp only [List.filter_cons,e2,hDi,List.filter_nil]
      simp
     ·have e2:=hadd n
      simp only [Done.add,show (n == i)=false by simpa using e,Bool.or_false] at e2
      simp only [List.filter_cons,e2,List.filter_nil]
      by_cases hlt:i < n
      ·have e4:i < n+1:=by omega
       simp only [hlt,e4,if_true]
       split<;>simp<;>omega
      ·have e4:¬ i < n+1:=by omega
       simp only [hlt,e4,if_false,Nat.add_zero]
   have:=h3 ops.length
   rw [hf,if_pos hil] at this
   omega
  have hgl:∀ j b g,o.guard=some (j,b)→gdst ops.toArray j=some g→g∈o.looksAt ops.toArray:=by
   intro j b g hg hgd
   unfold Oper.looksAt
   unfold gdst at hgd
   refine List.mem_append_right _ ?_
   rw [hg];simp only [hgd];simp
  unfold wpOp
  simp only [List.getElem?_toArray,ho]
  rcases Nat.lt_trichotomy i L.length with hiL | hiL | hiL
  · -- its outcome is laid
   obtain ⟨ei,hei⟩:∃ e,L[i]? = some e:=⟨_,List.getElem?_eq_getElem hiL⟩
   obtain ⟨hdst,hdn,hs⟩:=hcom.step i o ei ho hei
   have hs:=hs.resolve_left (by rw [hDi];simp)
   have hnext:∀ (ρ':Rho) (a':Act) (w':World),Ext ρ0 ρ'→Fr E ρ' ((frD (fun k=>listed.getD k false) 0 L f0).put ei.dst ei.v) a'→Wd E ρ' (updM (mD (fun k=>listed.getD k false) 0 L m0) ei.U) w' →
     wpAny E.P .any ops.toArray Q fuel (listed.setIfInBounds i true) a' w':=by
    intro ρ' a' w' hE' h3 h4
    refine ih _ ρ' a' w' L f' m' (by rw [hfun];exact hcom.mono hmono) hrest (by simp [hsz]) hcnt ?_ (fun k hk=>?_) hE' ?_ ?_
    ·rw [hfun];exact add_closed hc ho he
    ·rw [hadd k,Done.add,hbeyond k hk];simp;omega
    ·rw [hfun];exact h3.congr fun t=>add_tmp hlen h hc ho hDi hei t
    ·rw [hfun];exact h4.congr fun d=>add_mem hcom.keys hlen h hc ho hDi hei d
   have hlook:∀ t,t∈o.looksAt ops.toArray→frD (fun k=>listed.getD k false) 0 L f0 t=frD (fun k=>decide (k < i)) 0 L f0 t:=fun t ht=>agree_tmp hlen h hc ho hDi he hei ht
   rcases hs with ⟨hg,hU,hout⟩ | ⟨j,b,c,g,hg,hgd,hgn,hb,hne,hv,hR,hUn⟩
   ·have hw:Region.wanted o (yielded ops.toArray a.tmps)=true:=by
      rcases hg with hg | ⟨j,b,g,hg,hgd,hgn,hb⟩
      ·exact wanted_none hg
      ·have:=hlook g (hgl j b g hg hgd)
       rw [hb] at this
       simp [Region.wanted,hg,yielded_at h1 hgd hgn this]
    rw [if_pos hw]
    refine .inl (Oper.wp_step hout (fun t ht=>hlook t (looks_sub ht)) (fun d hd=>agree_mem hlen h hc ho hDi he hei hd) hdn h1 h2 fun ρ' a' w' hE' h3 h4=>?_)
    rw [← hdst] at h3
    exact hnext ρ' a' w' (hE.trans hE') h3 h4
   ·have hw:Region.wanted o (yielded ops.toArray a.tmps)=false:=by
      have:=hlook g (hgl j b g hg hgd)
      rw [hb] at this
      exact unwanted_at h1 hg hgd hgn this hne
    rw [if_neg (by rw [hw];simp)]
    refine hnext ρ _ w hE ?_ ?_
    ·rw [hdst,hv];exact h1.put hdn rfl
    ·rw [hUn];exact h2
  · -- its outcome is open
   subst hiL
   rcases hrest with ⟨hLe,_,_⟩ | ⟨o',ho',hdn,R,C,hg,hout,hU,hok,hrec⟩
   ·omega
   rw [ho] at ho';cases ho'
   simp only [Bool.and_eq_true] at hok
   have hp:∀ (D:Done),D L.length=false→frD D 0 (L++[openEnt o R]) f0=frD D 0 L f0:=fun D hD=>by rw [frD_snoc,Nat.zero_add,hD];simp
   have hp2:∀ (D:Done),D L.length=false→mD D 0 (L++[openEnt o R]) m0=mD D 0 L m0:=fun D hD=>by rw [mD_snoc,Nat.zero_add,hD];simp
   have hoe:(L++[openEnt o R])[L.length]? = some (openEnt o R):=by simp
   have hlook:∀ t,t∈o.looksAt ops.toArray→frD (fun k=>listed.getD k false) 0 L f0 t=f' t:=fun t ht=>by
    have:=agree_tmp (L:=L++[openEnt o R]) (f0:=f0) (by simp;omega) hok.2 hc ho hDi he hoe ht
    rw [hp _ hDi,hp _ (by simp),hcom.fin] at this
    exact this
   have hmem:∀ d,d∈R→mD (fun k=>listed.getD k false) 0 L m0 d=m' d:=fun d hd=>by
    have:=agree_mem (L:=L++[openEnt o R]) (m0:=m0) (by simp;omega) hok.2 hc ho hDi he hoe (d:=d) hd
    rw [hp2 _ hDi,hp2 _ (by simp),hcom.finm] at this
    exact this
   have hw:Region.wanted o (yielded ops.toArray a.tmps)=true:=by
    rcases hg with hg | ⟨j,b,g,hg,hgd,hgn,hb⟩
    ·exact wanted_none hg
    ·have:=hlook g (hgl j b g hg hgd)
     rw [hb] at this
     simp [Region.wanted,hg,yielded_at h1 hgd hgn this]
   rw [if_pos hw]
   refine .inl (hout _ _ (fun t ht=>hlook t (looks_sub ht)) hmem ρ a w h1 h2 _ _ fun ρ' x w' v U hC hE' hv hwd=>?_)
   have hcom2:Com E ops f0 m0 (Done.add (fun k=>listed.getD k false) L.length) (L++[⟨o.dst,v,R,U⟩]) (f'.put o.dst v) (updM m' U) :=
    (hcom.mono hmono).snoc (e:=⟨o.dst,v,R,U⟩) ho rfl hdn (hU v U hC) (.inl (by simp [Done.add]))
   obtain ⟨L2,f2,m2,⟨X,rfl⟩,hx3,hr3⟩:=(hrec v U hC).advance (by simp) hcom2
   have hDL:∀ k,L.length+1≤k→Done.add (fun k=>listed.getD k false) L.length k=false:=fun k hk=>by
    rw [Done.add,hbeyond k (by omega)];simp;omega
   have hsub:∀ t,frD (Done.add (fun k=>listed.getD k false) L.length) 0 L f0 t=frD (fun k=>listed.getD k false) 0 L f0 t:=fun t=>frD_agree t L 0 _ _ _ _ (fun k e hk _=>by
    have:=(List.getElem?_eq_some_iff.1 hk).1
    simp [Done.add];omega) rfl
   have hsub2:∀ d,mD (Done.add (fun k=>listed.getD k false) L.length) 0 L m0 d=mD (fun k=>listed.getD k false) 0 L m0 d:=fun d=>mD_agree d L 0 _ _ _ _ (fun k e hk _=>by
    have:=(List.getElem?_eq_some_iff.1 hk).1
    simp [Done.add];omega) rfl
   refine ih _ ρ' _ w' _ f2 m2 (by rw [hfun];exact hx3) hr3 (by simp [hsz]) hcnt ?_ (fun k hk=>?_) (hE.trans hE') ?_ ?_
   ·rw [hfun];exact add_closed hc ho he
   ·rw [hadd k];exact hDL k (by simp at hk;omega)
   ·rw [hfun,frD_longer _ _ _ _ _ (fun k hk=>hDL k (by simp at hk;omega)),frD_snoc,Nat.zero_add]
    rw [show Done.add (fun k=>listed.getD k false) L.length L.length=true by simp [Done.add],if_pos rfl,funext hsub]
    exact (h1.ext hE').put hdn hv
   ·rw [hfun,mD_longer _ _ _ _ _ (fun k hk=>hDL k (by simp at hk;omega)),mD_snoc,Nat.zero_add]
    rw [show Done.add (fun k=>listed.getD k false) L.length L.length=true by simp [Done.add],if_pos rfl,funext hsub2]
    exact hwd
  · -- it is bound to follow
   exfalso
   rcases hrest with ⟨hLe,_,_⟩ | ⟨o',ho',hdn,R,C,hg,hout,hU,hok,hrec⟩
   ·omega
   simp only [Bool.and_eq_true] at hok
   have h3:=hok.1
   simp only [tailOk,List.all_eq_true,List.mem_range,Bool.or_eq_true,decide_eq_true_eq] at h3
   rcases h3 i hil with h4 | h4
   ·omega
   ·have:=bef_in hc ho he h4
    rw [hbeyond _ (Nat.le_refl _)] at this
    cases this
end
theorem repl_false (n k:Nat):(Array.replicate n false).getD k false=false:=by
 rw [Array.getD_eq_getD_getElem?,Array.getElem?_replicate];split<;>rfl
theorem LexT.drawn {E:Env} {ops:List Oper} {f:Frm} {m:Mem} {K:Frm→Mem→Prop} (hx:LexT E ops true ops f m [] K) (hmix:E.P.follows .mixedOrders=true) {id:Nat} {ρ:Rho} {a:Act} {w:World} {Q:Exit→Act→World→Prop} (h1:Fr E ρ f a) (h2:Wd E ρ m w)
    (hQ:∀ f' m' ρ' a' w',K f' m'→Ext ρ ρ'→Fr E ρ' f' a'→Wd E ρ' m' w'→Q .normal a' w'):(Code.region id ops.toArray true).wp E.P Q a w:=by
 obtain ⟨L2,f2,m2,⟨X,rfl⟩,hx2,hr2⟩:=hx.advance (f0:=f) (m0:=m) (D:=fun k=>(Array.replicate ops.toArray.size false).getD k false) (by simp) ⟨by simp,fun k e hk=>by simp at hk,fun i o e _ hk=>by simp at hk,rfl,rfl⟩
 refine wp_region_any hmix (any_main (ρ0:=ρ) (fun f' m' ρ' a' w' hK hE h3 h4=>hQ f' m' ρ' a' w' hK hE h3 h4) _ _ ρ a _ _ f2 m2 hx2 hr2 (by simp) ?_ ?_ (fun k _=>repl_false _ _) (Ext.refl _) ?_ ?_)
 ·rw [List.filter_eq_self.2 (by intro k hk;rw [repl_false];rfl)]
  simp
 ·intro j o hj hD
  simp only [repl_false] at hD
  cases hD
 ·rw [frD_none _ _ _ _ (by intro k;exact repl_false _ _)];exact h1
 ·rw [mD_none _ _ _ _ (by intro k;exact repl_false _ _)];exact h2.drew
theorem LexT.undrawn {E:Env} {ops:List Oper} {f:Frm} {m:Mem} {K:Frm→Mem→Prop} (hx:LexT E ops false ops f m [] K) {id:Nat} {ρ:Rho} {a:Act} {w:World} {Q:Exit→Act→World→Prop} (h1:Fr E ρ f a) (h2:Wd E ρ m w)
    (hQ:∀ f' m' ρ' a' w',K f' m'→Ext ρ ρ'→Fr E ρ' f' a'→Wd E ρ' m' w'→Q .normal a' w'):(Code.region id ops.toArray false).wp E.P Q a w:=by
 refine wp_region ?_
 have:=hx.plain (k:=0) (Q:=Q) (by simp) h1 h2 hQ
 rw [List.range_eq_range']
 simpa using this
end Go.SX
