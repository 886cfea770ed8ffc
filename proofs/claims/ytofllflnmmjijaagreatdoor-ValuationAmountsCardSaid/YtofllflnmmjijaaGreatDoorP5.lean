/- An abstract walk: the operations; no condition. -/
import Derived.Test.YtofllflnmmjijaaGreatDoorP4
set_option maxRecDepth 100000
set_option maxHeartbeats 4000000
namespace Go.SX
open Go Go.RowKit

/-! ### what is known of the types -/
structure TI where
 /-- is it a struct or an array -/
 row:Bool
 size:Nat
 zero:Array Value
 /-- 1: a struct, 2: an array, 3: a slice, 4: an integer, 5: bool -/
 kind:Nat:=0
 fields:List (Nat×TypeId):=[]
 len:Nat:=0
 elem:TypeId:=0
 ik:IntKind:=.i64
def TI.says (i:TI) (d:TypeDesc):Prop:=match i.kind with
 | 1=>∃ fs,d=.struct fs∧fs.toList.map (fun f=>(f.offset,f.type))=i.fields
 | 2=>d=.array i.len i.elem
 | 3=>d=.slice i.elem
 | 4=>d=.int i.ik
 | 5=>d=.bool
 | _=>True
structure TIok (P:Program) (ty:TypeId) (i:TI):Prop where
 size:(P.info? ty).map (·.size)=some i.size
 desc:∃ d,P.underlying ty=some d∧d.isRow=i.row∧i.says d
 zero:((P.info? ty).bind (·.zero)).map Value.cells=some i.zero
 zsize:i.zero.size=i.size
theorem run_sizeOf {P:Program} {ty:TypeId} {i:TI} (h:TIok P ty i) (w:World):(sizeOf ty).run P w=.ok i.size w:=by
 have:=h.size
 cases hq:P.info? ty with
 | none=>simp [hq] at this
 | some j=>simp [hq] at this;simp [sizeOf,typeInfo,hq,this]
theorem run_isAgg {P:Program} {ty:TypeId} {i:TI} (h:TIok P ty i) (w:World):(isAgg ty).run P w=.ok i.row w:=by
 obtain ⟨d,hd,hr,_⟩:=h.desc
 unfold isAgg
 rw [Sem.run_bind,run_underlying hd w,← hr]
 cases d<;>rfl
theorem run_zero {P:Program} {ty:TypeId} {i:TI} (h:TIok P ty i) (w:World):∃ v,(zeroValue ty).run P w=.ok v w∧v.cells=i.zero:=by
 have:=h.zero
 cases hq:P.info? ty with
 | none=>simp [hq] at this
 | some j =>
  simp only [hq,Option.bind_some,Option.map_eq_some_iff] at this
  obtain ⟨v,h1,h2⟩:=this
  exact ⟨v,by simp [zeroValue,typeInfo,hq,h1],h2⟩

/-! ### the world -/
theorem Blk.rel_tied {ρ:Rho}:∀ {B:Blk} {o:Obj},Blk.rel ρ B o→B.tied=true
 | .inl _,_,_=>rfl
 | .inr (.inl _),_,_=>rfl
 | .inr (.inr _),_,h=>h.elim
theorem Wd.tied_of {E:Env} {ρ:Rho} {m:Mem} {w:World} (h:Wd E ρ m w) {d:Key} {k:Nat} (hd:ρ d=some k):∃ B,m d=some B∧B.tied=true:=by
 cases hm:m d with
 | none=>rw [h.dom d hm] at hd;cases hd
 | some B =>
  cases ht:B.tied with
  | true=>exact ⟨B,rfl,ht⟩
  | false=>rw [(h.loose d B hm ht).1] at hd;cases hd
theorem Wd.of_old {E:Env} {ρ:Rho} {m:Mem} {w w':World} {k:Nat} {d:Key} {B':Blk} {o':Obj} (h:Wd E ρ m w) (hos:w'.os=w.os) (htape:w'.tape=w.tape) (hout:w'.output=w.output) (hsz:w'.heap.size=w.heap.size)
    (hd:ρ d=some k) (hk:w'.heap[k]? = some o') (hB:Blk.rel ρ B' o') (hoth:∀ j,j≠k→w'.heap[j]? = w.heap[j]?):Wd E ρ (updM m [(d,B')]) w':=by
 obtain ⟨B,hmB,hBt⟩:=h.tied_of hd
 have hB't:=Blk.rel_tied hB
 refine ⟨hos.trans h.os,htape.trans h.tape,hout.trans h.output,by rw [hsz];exact h.size,fun j hj hx=>?_,fun e B2 he ht2=>?_,fun e he=>?_,fun e B2 he ht2=>?_,fun e B2 b he hb=>?_,h.inj,fun e j B2 he hm' ht2=>?_⟩
 ·obtain ⟨k',o,h1,h2,h3,h4⟩:=h.blk d B hmB hBt
  rw [hd] at h1;cases h1
  rw [hoth j (by rintro rfl;rcases h2 with h2 | h2;· omega
                 ·exact hx h2)]
  exact h.old j hj hx
 ·by_cases e1:d=e
  ·subst e1
   simp only [updM,lk,if_true,Option.some.injEq] at he
   subst he
   obtain ⟨k',o,h1,h2,h3,h4⟩:=h.blk d B hmB hBt
   rw [hd] at h1;cases h1
   exact ⟨k,o',hd,h2,hk,hB⟩
  ·simp only [updM,lk,if_neg e1] at he
   obtain ⟨k',o,h1,h2,h3,h4⟩:=h.blk e B2 he ht2
   refine ⟨k',o,h1,h2,?_,h4⟩
   rw [hoth k' (by rintro rfl;exact e1 (h.inj _ _ _ hd h1))]
   exact h3
 ·by_cases e1:d=e
  ·subst e1;simp [updM,lk] at he
  ·simp only [updM,lk,if_neg e1] at he
   exact h.dom e he
 ·by_cases e1:d=e
  ·subst e1
   simp only [updM,lk,if_true,Option.some.injEq] at he
   subst he
   rw [hB't] at ht2;cases ht2
  ·simp only [updM,lk,if_neg e1] at he
   obtain ⟨h1,h2⟩:=h.loose e B2 he ht2
   refine ⟨h1,Blk.at_same (fun b hb=>hoth b ?_) h2⟩
   rintro rfl
   exact (h.sep e B2 b he hb).2.1 d hd
 ·by_cases e1:d=e
  ·subst e1
   simp only [updM,lk,if_true,Option.some.injEq] at he
   subst he
   rw [Blk.num_none hB't] at hb;cases hb
  ·simp only [updM,lk,if_neg e1] at he
   obtain ⟨h1,h2,h3⟩:=h.sep e B2 b he hb
   refine ⟨h1,h2,fun e' B3 he' hb'=>?_⟩
   by_cases e2:d=e'
   ·subst e2
    simp only [updM,lk,if_true,Option.some.injEq] at he'
    subst he'
    rw [Blk.num_none hB't] at hb';cases hb'
   ·simp only [updM,lk,if_neg e2] at he'
    exact h3 e' B3 he' hb'
 ·by_cases e1:d=e
  ·subst e1;exact h.par d j B he hmB hBt
  ·simp only [updM,lk,if_neg e1] at hm';exact h.par e j B2 he hm' ht2
def Rho.set (ρ:Rho) (d:Key) (k:Nat):Rho:=fun e=>if e=d then some k else ρ e
theorem Rho.set_ext {ρ:Rho} {d:Key} {k:Nat} (h:ρ d=none):Ext ρ (ρ.set d k):=fun e j he=>by
 unfold Rho.set
 by_cases e1:e=d
 ·subst e1;rw [h] at he;cases he
 ·rw [if_neg e1];exact he
theorem Wd.lt {E:Env} {ρ:Rho} {m:Mem} {w:World} (h:Wd E ρ m w) {d:Key} {k:Nat} (hd:ρ d=some k):k < w.heap.size:=by
    obtain ⟨B,hm,ht⟩:=h.tied_of hd
    obtain ⟨k',o,h1,h2,h3,h4⟩:=h.blk d B hm ht
    rw [hd] at h1;cases h1
    exact (Array.getElem?_eq_some_iff.1 h3).1
theorem Wd.alloc {E:Env} {ρ:Rho} {m:Mem} {w:World} (h:Wd E ρ m w) {d:Key} {B:Blk} {o:Obj} (hm:m d=none) (hpk:E.pk.any (·.1 == d)=false) (hB:Blk.rel ρ B o):Wd E (ρ.set d w.heap.size) (updM m [(d,B)]) (w.alloc o):=by
 have hρ:=h.dom d hm
 have hnew:(w.alloc o).heap[w.heap.size]? = some o:=heap_alloc_new w o
 have hold:∀ j,j < w.heap.size→(w.alloc o).heap[j]? = w.heap[j]?:=fun j hj=>Below.heap_alloc w o j hj
 have hBt:=Blk.rel_tied hB
 refine ⟨h.os,h.tape,h.output,by show _≤(w.heap.push o).size;rw [Array.size_push];have:=h.size;omega,fun j hj hx=>?_,fun e B2 he ht2=>?_,fun e he=>?_,fun e B2 he ht2=>?_,fun e B2 b he hb=>?_,fun e1 e2 k h1 h2=>?_,fun e j B2 he hm' ht2=>?_⟩
 ·rw [hold j (by have:=h.size;omega)];exact h.old j hj hx
 ·by_cases e1:d=e
  ·subst e1
   simp only [updM,lk,if_true,Option.some.injEq] at he
   subst he
   exact ⟨w.heap.size,o,by simp [Rho.set],.inl h.size,hnew,Blk.rel_ext (Rho.set_ext hρ) hB⟩
  ·simp only [updM,lk,if_neg e1] at he
   obtain ⟨k',o',h1,h2,h3,h4⟩:=h.blk e B2 he ht2
   exact ⟨k',o',Rho.set_ext hρ _ _ h1,h2,by rw [hold k' (h.lt h1)];exact h3,Blk.rel_ext (Rho.set_ext hρ) h4⟩
 ·by_cases e1:d=e
  ·subst e1;simp [updM,lk] at he
  ·simp only [updM,lk,if_neg e1] at he
   simp only [Rho.set,if_neg (fun e2=>e1 (Eq.symm e2))]
   exact h.dom e he
 ·by_cases e1:d=e
  ·subst e1
   simp only [updM,lk,if_true,Option.some.injEq] at he
   subst he
   rw [hBt] at ht2;cases ht2
  ·simp only [updM,lk,if_neg e1] at he
   obtain ⟨h1,h2⟩:=h.loose e B2 he ht2
   refine ⟨by simp only [Rho.set,if_neg (fun e2=>e1 (Eq.symm e2))];exact h1,Blk.at_same (fun b hb=>hold b (Blk.at_lt h2 hb)) h2⟩
 ·by_cases e1:d=e
  ·subst e1
   simp only [updM,lk,if_true,Option.some.injEq] at he
   subst he
   rw [Blk.num_none hBt] at hb;cases hb
  ·simp only [updM,lk,if_neg e1] at he
   obtain ⟨h1,h2,h3⟩:=h.sep e B2 b he hb
   have hlt:b < w.heap.size:=by
    cases ht:B2.tied with
    | true=>rw [Blk.num_none ht] at hb;cases hb
    | false=>exact Blk.at_lt (h.loose e B2 he ht).2 hb
   refine ⟨h1,fun e'=>?_,fun e' B3 he' hb'=>?_⟩
   ·simp only [Rho.set]
    split
    ·intro hh;cases hh;omega
    ·exact h2 e'
   ·by_cases e2:d=e'
    ·subst e2
     simp only [updM,lk,if_true,Option.some.injEq] at he'
     subst he'
     rw [Blk.num_none hBt] at hb';cases hb'
    ·simp only [updM,lk,if_neg e2] at he'
     exact h3 e' B3 he' hb'
 ·simp only [Rho.set] at h1 h2
  split at h1<;>split at h2
  ·rename_i a b;rw [a,b]
  ·cases h1;have:=h.lt h2;omega
  ·cases h2;have:=h.lt h1;omega
  ·exact h.inj _ _ _ h1 h2
 ·have hne:e≠d:=by
    rintro rfl
    have:=List.any_eq_false.1 hpk (e,j) he
    simp at this
  simp only [Rho.set,if_neg hne]
  simp only [updM,lk,if_neg (Ne.symm hne)] at hm'
  exact h.par e j B2 he hm' ht2
theorem row_range {w:World} {k:Nat} {A:Array Value} {ty:TypeId} (h:w.heap[k]? = some (.cells A ty (0,0))) (off:Nat):w.rangeAt k off (A.toList.drop off):=by
 intro j v hj
 rw [List.getElem?_drop] at hj
 simp only [World.cell?,h]
 simpa using hj
theorem row_cell {w:World} {k:Nat} {A:Array Value} {ty:TypeId} (h:w.heap[k]? = some (.cells A ty (0,0))) (off:Nat):w.cell? ⟨k,off,none⟩=A[off]?:=by
 simp [World.cell?,h]
theorem row_frozen {w:World} {k:Nat} {A:Array Value} {ty:TypeId} (h:w.heap[k]? = some (.cells A ty (0,0))) (off:Nat):w.frozen? ⟨k,off,none⟩=false:=by
 simp [World.frozen?,h]
theorem setCell_row {w:World} {k:Nat} {A:Array Value} {ty:TypeId} (h:w.heap[k]? = some (.cells A ty (0,0))) (off:Nat) (v:Value) :
    (w.setCell ⟨k,off,none⟩ v).heap[k]? = some (.cells (A.setIfInBounds off v) ty (0,0)):=by
 simp [World.setCell,Array.getElem?_modify,h]
def splice (A:Array Value) (off:Nat):List Value→Array Value
 | []=>A
 | v :: r=>splice (A.setIfInBounds off v) (off+1) r
theorem setCells_row {k:Nat} {ty:TypeId}:∀ (l:List Value) (off:Nat) (w:World) (A:Array Value),w.heap[k]? = some (.cells A ty (0,0))→(w.setCells k off l).heap[k]? = some (.cells (splice A off l) ty (0,0))
 | [],off,w,A,h=>h
 | v :: r,off,w,A,h=>by rw [World.setCells];exact setCells_row r (off+1) _ _ (setCell_row h off v)
theorem setCells_other {k:Nat}:∀ (l:List Value) (off:Nat) (w:World) (j:Nat),j≠k→(w.setCells k off l).heap[j]? = w.heap[j]?
 | [],off,w,j,h=>rfl
 | v :: r,off,w,j,h=>by rw [World.setCells,setCells_other r (off+1) _ j h];exact Below.heap_setCell _ _ _ _ h
theorem setCells_rest (k:Nat):∀ (l:List Value) (off:Nat) (w:World),(w.setCells k off l).os=w.os∧(w.setCells k off l).tape=w.tape∧(w.setCells k off l).output=w.output∧(w.setCells k off l).heap.size=w.heap.size
 | [],off,w=>⟨rfl,rfl,rfl,rfl⟩
 | v :: r,off,w=>by
  rw [World.setCells]
  obtain ⟨h1,h2,h3,h4⟩:=setCells_rest k r (off+1) (w.setCell ⟨k,off,none⟩ v)
  exact ⟨h1,h2,h3,h4.trans (by simp [World.setCell])⟩
theorem splice_size:∀ (l:List Value) (off:Nat) (A:Array Value),(splice A off l).size=A.size
 | [],_,_=>rfl
 | v :: r,off,A=>by rw [splice,splice_size r];simp
theorem splice_get:∀ (l:List Value) (off:Nat) (A:Array Value) (j:Nat),(splice A off l)[j]? = if j < off∨off+l.length≤j then A[j]? else if j < A.size then l[j - off]? else none
 | [],off,A,j=>by
  by_cases h:j < off∨off+([]:List Value).length≤j
  ·rw [if_pos h];rfl
  ·simp at h;omega
 | v :: r,off,A,j=>by
  rw [splice,splice_get r (off+1) _ j]
  by_cases h1:j < off
  ·rw [if_pos (by omega),if_pos (by omega),Array.getElem?_setIfInBounds_ne (by omega)]
  ·by_cases h2:j=off
   ·subst h2
    rw [if_pos (by omega),if_neg (by simp)]
    rw [Array.getElem?_setIfInBounds_self]
    simp
   ·by_cases h3:off+(v :: r).length≤j
    ·simp at h3
     rw [if_pos (by omega),if_pos (by simp;omega),Array.getElem?_setIfInBounds_ne (by omega)]
    ·simp at h3
     have e1:¬ (j < off+1∨off+1+r.length≤j):=by omega
     have e2:¬ (j < off∨off+(v :: r).length≤j):=by simp;omega
     rw [if_neg e1,if_neg e2,Array.size_setIfInBounds,show j - off=(j - (off+1))+1 by omega,List.getElem?_cons_succ]
theorem splice_whole {A B:Array Value} (h:B.size=A.size):splice A 0 B.toList=B:=by
 apply Array.ext_getElem?
 intro j
 rw [splice_get]
 by_cases hj:j < B.size
 ·rw [if_neg (by simp;omega),if_pos (by omega)];simp
 ·rw [if_pos (by simp;omega),Array.getElem?_eq_none (by omega),Array.getElem?_eq_none (by omega)]

abbrev FrmL:=List (Tmp×SV)
abbrev MemL:=List (Key×Blk)
def getF:FrmL→Frm
 | [],_=>SV.bad
 | (k,v) :: r,t=>if k=t then v else getF r t
def getM:MemL→Mem
 | [],_=>none
 | (k,v) :: r,t=>if k=t then some v else getM r t
def setM:MemL→Key→Blk→MemL
 | [],d,B=>[(d,B)]
 | (k,v) :: r,d,B=>if k=d then (d,B) :: r else (k,v) :: setM r d B
def updL (m:MemL):List (Key×Blk)→MemL
 | []=>m
 | (d,B) :: r=>setM (updL m r) d B
def putF (f:FrmL) (d:Option Tmp) (v:SV):FrmL:=match d with
 | some d=>(d,v) :: f
 | none=>f
theorem getF_put (f:FrmL) (d:Option Tmp) (v:SV):getF (putF f d v)=(getF f).put d v:=by
 funext t
 cases d with
 | none=>rfl
 | some d=>simp only [putF,getF,Frm.put];rcases Decidable.em (d=t) with e | e<;>simp [e,eq_comm (a:=t)]
theorem getM_set:∀ (m:MemL) (d:Key) (B:Blk) (e:Key),getM (setM m d B) e=if d=e then some B else getM m e
 | [],d,B,e=>by simp [setM,getM]
 | (k,v) :: r,d,B,e=>by
  simp only [setM]
  by_cases h1:k=d
  ·subst h1;simp only [if_true,getM];by_cases h2:k=e<;>simp [h2]
  ·simp only [if_neg h1,getM,getM_set r d B e]
   by_cases h2:k=e
   ·subst h2;simp [Ne.symm h1]
   ·simp [h2]
theorem getM_upd (m:MemL):∀ (U:List (Key×Blk)),getM (updL m U)=updM (getM m) U
 | []=>rfl
 | (d,B) :: r=>by
  funext e
  simp only [updL,getM_set,updM,lk]
  by_cases h:d=e
  ·simp [h]
  ·simp only [if_neg h]
   have:=congrFun (getM_upd m r) e
   rw [this];rfl
def evF (f:Frm):Operand→SV
 | .tmp t=>f t
 | .const v=>SV.c v
 | .global g=>SV.c (.pointer (some ⟨g,0,none⟩))
 | .func f=>SV.c (.func (.func f) #[] #[])
theorem ev_rel {E:Env} {ρ:Rho} {f:Frm} {a:Act} (h:Fr E ρ f a):∀ x:Operand,SV.rel ρ (evF f x) (a.eval x)
 | .tmp t=>h.rel t
 | .const _=>rfl
 | .global _=>rfl
 | .func _=>rfl
theorem ev_agree {o:Oper} {f f':Frm} (h:∀ t,t∈opLooks o→f' t=f t) {x:Operand} (hx:x∈o.op.operands.toList):evF f' x=evF f x:=by
 cases x with
 | tmp t =>
  refine h t ?_
  unfold opLooks
  rw [List.mem_filterMap]
  exact ⟨_,hx,rfl⟩
 | const v=>rfl
 | global g=>rfl
 | func f=>rfl

structure VE extends Env where
 tt:TypeId→Option TI
 /-- the regions at which a joint is laid -/
 cuts:List Nat:=[]
 /-- are lists of the call's own known -/
 own:Bool:=false
def VOk (E:VE):Prop:=∀ ty i,E.tt ty=some i→TIok E.P ty i
structure OldW (E:Env) (w:World):Prop where
 os:w.os=E.w0.os
 tape:w.tape=E.w0.tape
 output:w.output=E.w0.output
 size:E.w0.heap.size≤w.heap.size
 old:∀ k,k < E.w0.heap.size→k∉E.X→w.heap[k]? = E.w0.heap[k]?
theorem Wd.oldW {E:Env} {ρ:Rho} {m:Mem} {w:World} (h:Wd E ρ m w):OldW E w:=⟨h.os,h.tape,h.output,h.size,h.old⟩
def rels (ρ:Rho):List SV→List Value→Prop
 | [],[]=>True
 | s :: ss,x :: xs=>SV.rel ρ s x∧rels ρ ss xs
 | _,_=>False
def Enters (P:Program) (f:FuncId):Prop:=∃ fn c,P.funcs[f]? = some fn∧fn.body=some c∧(fn.name == "runtime.NumGoroutine")=false
theorem Enters.run {P:Program} {f:FuncId} (h:Enters P f) (args:Array Value) (w:World):(callFunc f args).run P w=.ok (.enter f args) w:=by
 obtain ⟨fn,c,h1,h2,h3⟩:=h
 have h4:¬ fn.name = "runtime.NumGoroutine" := by simpa using h3
 simp [callFunc,program,Sem.run,h1,h2,h4]
def Pure (P:Program) (f:FuncId) (args:List SV) (v:Value):Prop :=
 Enters P f∧∀ ρ w xs,rels ρ args xs→Calls P f xs.toArray w fun e w'=>e=.returned v∧Below w.heap.size w w'
def Holds (ρ:Rho) (pre:MemL) (w:World):Prop:=∀ p,p∈pre→∃ k o,ρ p.1=some k∧w.heap[k]? = some o∧Blk.rel ρ p.2 o
structure After (ρ ρ':Rho) (post:MemL) (w w':World):Prop where
 os:w'.os=w.os
 tape:w'.tape=w.tape
 output:w'.output=w.output
 size:w.heap.size≤w'.heap.size
 old:∀ k,k < w.heap.size→(∀ p,p∈post→ρ p.1≠some k)→w'.heap[k]? = w.heap[k]?
 blk:∀ d B,getM post d=some B→∃ k o,ρ' d=some k∧(ρ d=some k∨w.heap.size≤k)∧w'.heap[k]? = some o∧Blk.rel ρ' B o
 dom:∀ d,getM post d=none→ρ' d=ρ d
 inj:∀ d e k,ρ' d=some k→ρ' e=some k→d=e
 ext:Ext ρ ρ'
def Own (E:Env) (f:FuncId) (args:List SV) (pre:MemL) (v:SV) (post:MemL):Prop :=
 Enters E.P f∧(∀ p,p∈pre→p.2.tied=true)∧∀ ρ w xs,(∀ d e k,ρ d=some k→ρ e=some k→d=e)→(∀ d k,ρ d=some k→k < w.heap.size)→(∀ p,p∈post→getM pre p.1=none→ρ p.1=none)→rels ρ args xs→Holds ρ pre w→OldW E w→(∀ p,p∈pre→∀ k,ρ p.1=some k→E.w0.heap.size≤k∨k∈E.X) →
  Calls E.P f xs.toArray w fun e w'=>∃ ρ' x,e=.returned x∧SV.rel ρ' v x∧After ρ ρ' post w w'
def Runs (E:Env) (s:Sem Value) (r:Value):Prop:=∀ w,OldW E w→s.run E.P w=.ok r w
structure Fits (A:Array Value) (n:Nat):Prop where
 size:A.size=n
 one:A.all (·.oneCell')=true

theorem out_value {E:Env} {o:Oper} {f:Frm} {m:Mem} {R:List Key} {v:SV} {U:List (Key×Blk)}
    (h:∀ f' m' ρ a w,(∀ x,x∈o.op.operands.toList→evF f' x=evF f x)→(∀ d,d∈R→m' d=m d)→Fr E ρ f' a→Wd E ρ m' w →
     ∃ ρ' x w',(execOp a.eval o).run E.P w=.ok (.value x) w'∧Ext ρ ρ'∧SV.rel ρ' v x∧Wd E ρ' (updM m' U) w'):Out E o f m R v U:=by
 intro f' m' hf hm ρ a w h1 h2 K Q hK
 obtain ⟨ρ',x,w',hr,he,hv,hw⟩:=h f' m' ρ a w (fun x hx=>ev_agree hf hx) hm h1 h2
 unfold Oper.wp
 rw [hr]
 exact hK ρ' x w' he hv hw
theorem out_skip {E:Env} {o:Oper} {f:Frm} {m:Mem} {R:List Key} {U:List (Key×Blk)}
    (h:∀ f' m' ρ a w,(∀ x,x∈o.op.operands.toList→evF f' x=evF f x)→(∀ d,d∈R→m' d=m d)→Fr E ρ f' a→Wd E ρ m' w →
     ∃ w',(execOp a.eval o).run E.P w=.ok .skip w'∧Wd E ρ (updM m' U) w'):Out E o f m R (SV.c undef) U:=by
 intro f' m' hf hm ρ a w h1 h2 K Q hK
 obtain ⟨w',hr,hw⟩:=h f' m' ρ a w (fun x hx=>ev_agree hf hx) hm h1 h2
 unfold Oper.wp
 rw [hr]
 exact hK ρ undef w' (Ext.refl _) rfl hw
theorem out_plain {E:Env} {o:Oper} {f:Frm} {m:Mem} {v:SV}
    (h:∀ f' ρ a w,(∀ x,x∈o.op.operands.toList→evF f' x=evF f x)→Fr E ρ f' a→OldW E w→∃ x,(execOp a.eval o).run E.P w=.ok (.value x) w∧SV.rel ρ v x):Out E o f m [] v [] :=
 out_value fun f' m' ρ a w hf _ h1 h2=>by
  obtain ⟨x,hr,hv⟩:=h f' ρ a w hf h1 h2.oldW
  exact ⟨ρ,x,w,hr,Ext.refl _,hv,h2⟩
section
variable {E:VE} {o:Oper} {f:Frm} {m:Mem}
theorem rel_c {ρ:Rho} {v x:Value} (h:SV.rel ρ (SV.c v) x):x=v:=h
theorem out_move {x:Operand} (ho:o.op=.move x∨o.op=.assign x):Out E.toEnv o f m [] (evF f x) [] :=
 out_plain fun f' ρ a w hf h1 _=>by
  refine ⟨a.eval x,?_,?_⟩
  ·rcases ho with ho | ho<;>simp [execOp,ho]
  ·have:=ev_rel h1 x
   rwa [hf x (by rcases ho with ho | ho<;>simp [ho,Op.operands])] at this
theorem out_pick {c x y:Operand} {t:Bool} (ho:o.op=.pick c x y) (hc:evF f c=SV.c (.bool t)):Out E.toEnv o f m [] (match t with | true=>evF f x | false=>evF f y) [] :=
 out_plain fun f' ρ a w hf h1 _=>by
  have hcc:=ev_rel h1 c
  rw [hf c (by simp [ho,Op.operands]),hc] at hcc
  have hcc:=rel_c hcc
  cases t with
  | true =>
   refine ⟨a.eval x,by simp [execOp,ho,hcc,asBool],?_⟩
   have:=ev_rel h1 x
   rwa [hf x (by simp [ho,Op.operands])] at this
  | false =>
   refine ⟨a.eval y,by simp [execOp,ho,hcc,asBool],?_⟩
   have:=ev_rel h1 y
   rwa [hf y (by simp [ho,Op.operands])] at this
theorem out_alloc (hE:VOk E) {ty:TypeId} {d:Key} {i:TI} (ho:o.op=.alloc ty) (hm:m d=none) (hpk:E.pk.any (·.1 == d)=false) (hi:E.tt ty=some i):Out E.toEnv o f m [d] (SV.ptr d 0) [(d,Blk.row ty i.size i.zero)] :=
 out_value fun f' m' ρ a w hf hmm h1 h2=>by
  obtain ⟨z,hz,hzc⟩:=run_zero (hE ty i hi) w
  have hm':m' d=none:=(hmm d (by simp)).trans hm
  refine ⟨ρ.set d w.heap.size,.pointer (some ⟨w.heap.size,0,none⟩),w.alloc (.cells i.zero ty),?_,Rho.set_ext (h2.dom d hm'),⟨w.heap.size,by simp [Rho.set],rfl⟩,h2.alloc hm' hpk ⟨(hE ty i hi).zsize,rfl⟩⟩
  simp only [execOp,ho,Instr.alloc,Sem.run_bind,hz,Result.andThen_ok]
  simp [newVar,newRow,newObj,Sem.run,hzc]
theorem out_box_c (_hE:VOk E) {ty:TypeId} {x:Operand} {d:Key} {v:Value} {n:Nat} {A:Array Value} (ho:o.op=.box ty x) (hm:m d=none) (hpk:E.pk.any (·.1 == d)=false) (hx:evF f x=SV.c v) (hA:v.cells=A) (hn:A.size=n):Out E.toEnv o f m [d] (SV.ptr d 0) [(d,Blk.row ty n A)] :=
 out_value fun f' m' ρ a w hf hmm h1 h2=>by
  have hm':m' d=none:=(hmm d (by simp)).trans hm
  have hxx:=ev_rel h1 x
  rw [hf x (by simp [ho,Op.operands]),hx] at hxx
  have hxx:=rel_c hxx
  refine ⟨ρ.set d w.heap.size,.pointer (some ⟨w.heap.size,0,none⟩),w.alloc (.cells A ty),?_,Rho.set_ext (h2.dom d hm'),⟨w.heap.size,by simp [Rho.set],rfl⟩,h2.alloc hm' hpk ⟨hn,rfl⟩⟩
  simp [execOp,ho,Instr.box,newVar,newRow,newObj,Sem.run,hxx,hA]
def SV.solid:SV→Prop
 | .inl v=>v.oneCell'=true
 | .inr (.inr (.inr (.inr _)))=>False
 | _=>True
theorem solid_one {ρ:Rho}:∀ {v:SV} {x:Value},v.solid→SV.rel ρ v x→x.oneCell'=true∧x.cells=#[x]
 | .inl v,x,h,e=>by
  have e:x=v:=e
  subst e
  simp only [SV.solid] at h
  refine ⟨h,?_⟩
  cases x<;>simp_all [Value.oneCell',Value.cells]
 | .inr (.inl _),x,_,⟨b,_,e⟩=>by subst e;exact ⟨rfl,rfl⟩
 | .inr (.inr (.inl _)),x,_,⟨b,_,e⟩=>by subst e;exact ⟨rfl,rfl⟩
 | .inr (.inr (.inr (.inl _))),x,_,⟨bs,_,e⟩=>by subst e;exact ⟨rfl,rfl⟩
theorem out_box_one {ty:TypeId} {x:Operand} {d:Key} {v:SV} (ho:o.op=.box ty x) (hm:m d=none) (hpk:E.pk.any (·.1 == d)=false) (hx:evF f x=v) (hv:v.solid):Out E.toEnv o f m [d] (SV.ptr d 0) [(d,Blk.one ty v)] :=
 out_value fun f' m' ρ a w hf hmm h1 h2=>by
  have hm':m' d=none:=(hmm d (by simp)).trans hm
  have hxx:=ev_rel h1 x
  rw [hf x (by simp [ho,Op.operands]),hx] at hxx
  refine ⟨ρ.set d w.heap.size,.pointer (some ⟨w.heap.size,0,none⟩),w.alloc (.cells #[a.eval x] ty),?_,Rho.set_ext (h2.dom d hm'),⟨w.heap.size,by simp [Rho.set],rfl⟩,h2.alloc hm' hpk ⟨_,hxx,rfl⟩⟩
  simp [execOp,ho,Instr.box,newVar,newRow,newObj,Sem.run,(solid_one hv hxx).2]
theorem blk_at {ρ:Rho} {w:World} {m':Mem} (h2:Wd E.toEnv ρ m' w) {d:Key} {B:Blk} (hm:m' d=some B) (hBt:B.tied=true:=by rfl) {off:Nat} {x:Value} (hx:SV.rel ρ (SV.ptr d off) x):∃ k o,ρ d=some k∧x=.pointer (some ⟨k,off,none⟩)∧w.heap[k]? = some o∧Blk.rel ρ B o:=by
 obtain ⟨k,o,h3,h4,h5,h6⟩:=h2.blk d B hm hBt
 obtain ⟨b,hb,e⟩:=hx
 rw [h3] at hb;cases hb
 exact ⟨k,o,h3,e,h5,h6⟩
theorem drop_take {A:Array Value} {off n:Nat} (_h:off+n≤A.size):∀ (j:Nat) (v:Value),(A.extract off (off+n)).toList[j]? = some v→(A.toList.drop off)[j]? = some v:=by
 intro j v hj
 rw [Array.getElem?_toList,Array.getElem?_extract] at hj
 rw [List.getElem?_drop]
 split at hj
 ·simpa using hj
 ·cases hj
theorem load_row {P:Program} {w:World} {k off:Nat} {A:Array Value} {ty t0:TypeId} {i:TI} (hi:TIok P ty i) (hk:w.heap[k]? = some (.cells A t0 (0,0))) (hr:i.row=true) (hn:off+i.size≤A.size) :
    (Instr.loadAt ty (.pointer (some ⟨k,off,none⟩))).run P w=.ok (.agg (A.extract off (off+i.size))) w:=by
 have hs:(A.extract off (off+i.size)).toList.length=i.size:=by simp;omega
 obtain ⟨d,hd,hdr,_⟩:=hi.desc
 have:=run_loadAt_mid (P:=P) w k off ty (A.extract off (off+i.size)).toList d (fun j v hj=>row_range hk off j v (drop_take hn j v hj)) hd (hdr.trans hr) (by rw [hi.size,hs])
 simpa only [Array.toArray_toList] using this
theorem load_cell {P:Program} {w:World} {k off:Nat} {ty:TypeId} {i:TI} {v:Value} (hi:TIok P ty i) (hc:w.cell? ⟨k,off,none⟩=some v) (hr:i.row=false) :
    (Instr.loadAt ty (.pointer (some ⟨k,off,none⟩))).run P w=.ok v w:=by
 simp only [Instr.loadAt,Instr.sureAddr,loadVar,Sem.run_bind,Sem.run_pure,Result.andThen_ok,run_isAgg hi,hr]
 simp [load,Sem.run,hc]
theorem out_load_row (hE:VOk E) {ty:TypeId} {x:Operand} {d:Key} {off n:Nat} {t0:TypeId} {A:Array Value} {i:TI} (ho:o.op=.load ty x) (hx:evF f x=SV.ptr d off) (hm:m d=some (Blk.row t0 n A)) (hi:E.tt ty=some i) (hr:i.row=true) (hn:off+i.size≤n):Out E.toEnv o f m [d] (SV.c (.agg (A.extract off (off+i.size)))) [] :=
 out_value fun f' m' ρ a w hf hmm h1 h2=>by
  have hxx:=ev_rel h1 x
  rw [hf x (by simp [ho,Op.operands]),hx] at hxx
  obtain ⟨k,ob,h3,h4,h5,h6,h7⟩:=blk_at h2 ((hmm d (by simp)).trans hm) rfl hxx
  subst h7
  have hl:=load_row (hE ty i hi) h5 hr (by rw [h6];exact hn)
  exact ⟨ρ,_,w,by simp only [execOp,ho,h4,Sem.run_bind,hl,Result.andThen_ok,Sem.run_pure],Ext.refl _,rfl,h2⟩
theorem out_load_cell (hE:VOk E) {ty:TypeId} {x:Operand} {d:Key} {off n:Nat} {t0:TypeId} {A:Array Value} {i:TI} {v:Value} (ho:o.op=.load ty x) (hx:evF f x=SV.ptr d off) (hm:m d=some (Blk.row t0 n A)) (hi:E.tt ty=some i) (hr:i.row=false) (hv:A[off]? = some v):Out E.toEnv o f m [d] (SV.c v) [] :=
 out_value fun f' m' ρ a w hf hmm h1 h2=>by
  have hxx:=ev_rel h1 x
  rw [hf x (by simp [ho,Op.operands]),hx] at hxx
  obtain ⟨k,ob,h3,h4,h5,h6,h7⟩:=blk_at h2 ((hmm d (by simp)).trans hm) rfl hxx
  subst h7
  have hl:=load_cell (hE ty i hi) ((row_cell h5 off).trans hv) hr
  exact ⟨ρ,_,w,by simp only [execOp,ho,h4,Sem.run_bind,hl,Result.andThen_ok,Sem.run_pure],Ext.refl _,rfl,h2⟩
theorem out_load_one (hE:VOk E) {ty:TypeId} {x:Operand} {d:Key} {t0:TypeId} {i:TI} {v:SV} (ho:o.op=.load ty x) (hx:evF f x=SV.ptr d 0) (hm:m d=some (Blk.one t0 v)) (hi:E.tt ty=some i) (hr:i.row=false):Out E.toEnv o f m [d] v [] :=
 out_value fun f' m' ρ a w hf hmm h1 h2=>by
  have hxx:=ev_rel h1 x
  rw [hf x (by simp [ho,Op.operands]),hx] at hxx
  obtain ⟨k,ob,h3,h4,h5,y,h6,h7⟩:=blk_at h2 ((hmm d (by simp)).trans hm) rfl hxx
  subst h7
  have hl:=load_cell (v:=y) (hE ty i hi) ((row_cell h5 0).trans rfl) hr
  exact ⟨ρ,_,w,by simp only [execOp,ho,h4,Sem.run_bind,hl,Result.andThen_ok,Sem.run_pure],Ext.refl _,h6,h2⟩
theorem store_row {P:Program} {w:World} {k off:Nat} {A B:Array Value} {ty t0:TypeId} {i:TI} (hi:TIok P ty i) (hk:w.heap[k]? = some (.cells A t0 (0,0))) (hB:Fits B i.size) (hn:off+i.size≤A.size) :
    (Instr.storeAt ty (.pointer (some ⟨k,off,none⟩)) (.agg B)).run P w=.ok () (w.setCells k off B.toList):=by
 have ht:w.there k off B.size:=fun j hj=>⟨by rw [row_cell hk,Array.getElem?_eq_getElem (by have:=hB.size;omega)];rfl,row_frozen hk _⟩
 have:=run_storeVar_mid (P:=P) w k off ty B ht (by rw [hi.size,hB.size]) hB.one
 simp only [Instr.storeAt,Instr.sureAddr,Sem.run_bind,Sem.run_pure,Result.andThen_ok,this]
theorem store_cell {P:Program} {w:World} {k off:Nat} {ty:TypeId} {i:TI} {u v:Value} (hi:TIok P ty i) (hc:w.cell? ⟨k,off,none⟩=some u) (hf:w.frozen? ⟨k,off,none⟩=false) (hv:v.oneCell'=true) (hs:i.size=1) :
    (Instr.storeAt ty (.pointer (some ⟨k,off,none⟩)) v).run P w=.ok () (w.setCell ⟨k,off,none⟩ v):=by
 have hcs:v.cells=#[v]:=by cases v<;>simp_all [Value.oneCell',Value.cells]
 have hst:=run_store P w ⟨k,off,none⟩ v .plain hv
 simp only [hc,hf] at hst
 simp only [Instr.storeAt,Instr.sureAddr,storeVar,Sem.run_bind,Sem.run_pure,Result.andThen_ok,run_sizeOf hi,hcs,hs]
 simp [storeCells,Addr.add_zero',hst]
end
section
variable {E:VE} {o:Oper} {f:Frm} {m:Mem}
theorem out_store_row (hE:VOk E) {ty:TypeId} {x y:Operand} {d:Key} {off n:Nat} {t0:TypeId} {A B:Array Value} {i:TI} (ho:o.op=.store ty x y) (hx:evF f x=SV.ptr d off) (hy:evF f y=SV.c (.agg B)) (hm:m d=some (Blk.row t0 n A)) (hi:E.tt ty=some i) (hB:Fits B i.size) (hn:off+i.size≤n) :
    Out E.toEnv o f m [d] (SV.c undef) [(d,Blk.row t0 n (splice A off B.toList))] :=
 out_skip fun f' m' ρ a w hf hmm h1 h2=>by
  have hxx:=ev_rel h1 x
  rw [hf x (by simp [ho,Op.operands]),hx] at hxx
  have hyy:=ev_rel h1 y
  rw [hf y (by simp [ho,Op.operands]),hy] at hyy
  have hyy:=rel_c hyy
  obtain ⟨k,ob,h3,h4,h5,h6,h7⟩:=blk_at h2 ((hmm d (by simp)).trans hm) rfl hxx
  subst h7
  have hl:=store_row (hE ty i hi) h5 hB (by rw [h6];exact hn)
  obtain ⟨e1,e2,e3,e4⟩:=setCells_rest k B.toList off w
  exact ⟨_,by simp only [execOp,ho,h4,hyy,Sem.run_bind,hl,Result.andThen_ok,Sem.run_pure],h2.of_old e1 e2 e3 e4 h3 (setCells_row _ _ _ _ h5) ⟨by rw [splice_size,h6],rfl⟩ (fun j hj=>setCells_other _ _ _ _ hj)⟩
theorem out_store_whole (hE:VOk E) {ty:TypeId} {x y:Operand} {d:Key} {n:Nat} {t0:TypeId} {A B:Array Value} {i:TI} (ho:o.op=.store ty x y) (hx:evF f x=SV.ptr d 0) (hy:evF f y=SV.c (.agg B)) (hm:m d=some (Blk.row t0 n A)) (hi:E.tt ty=some i) (hB:Fits B n) (hn:i.size=n) :
    Out E.toEnv o f m [d] (SV.c undef) [(d,Blk.row t0 n B)] :=
 out_skip fun f' m' ρ a w hf hmm h1 h2=>by
  have hxx:=ev_rel h1 x
  rw [hf x (by simp [ho,Op.operands]),hx] at hxx
  have hyy:=ev_rel h1 y
  rw [hf y (by simp [ho,Op.operands]),hy] at hyy
  have hyy:=rel_c hyy
  obtain ⟨k,ob,h3,h4,h5,h6,h7⟩:=blk_at h2 ((hmm d (by simp)).trans hm) rfl hxx
  subst h7
  have hl:=store_row (hE ty i hi) (off:=0) h5 (by rw [hn];exact hB) (by rw [h6,hn];omega)
  obtain ⟨e1,e2,e3,e4⟩:=setCells_rest k B.toList 0 w
  have e5:=setCells_row (k:=k) B.toList 0 w A h5
  rw [splice_whole (by rw [hB.size,h6])] at e5
  exact ⟨_,by simp only [execOp,ho,h4,hyy,Sem.run_bind,hl,Result.andThen_ok,Sem.run_pure],h2.of_old e1 e2 e3 e4 h3 e5 ⟨hB.size,rfl⟩ (fun j hj=>setCells_other _ _ _ _ hj)⟩
theorem setCell_upd {ρ:Rho} {m':Mem} {w:World} (h2:Wd E.toEnv ρ m' w) {d:Key} {k off:Nat} {B':Blk} {A:Array Value} {t0:TypeId} {v:Value} (h3:ρ d=some k) (h5:w.heap[k]? = some (.cells A t0 (0,0))) (hB:Blk.rel ρ B' (.cells (A.setIfInBounds off v) t0 (0,0))) :
    Wd E.toEnv ρ (updM m' [(d,B')]) (w.setCell ⟨k,off,none⟩ v) :=
 h2.of_old rfl rfl rfl (by simp [World.setCell]) h3 (setCell_row h5 off v) hB (fun j hj=>Below.heap_setCell _ _ _ _ hj)
theorem out_store_cell (hE:VOk E) {ty:TypeId} {x y:Operand} {d:Key} {off n:Nat} {t0:TypeId} {A:Array Value} {v:Value} {i:TI} (ho:o.op=.store ty x y) (hx:evF f x=SV.ptr d off) (hy:evF f y=SV.c v) (hm:m d=some (Blk.row t0 n A)) (hi:E.tt ty=some i) (hs:i.size=1) (hn:off < n) (hv:v.oneCell'=true) :
    Out E.toEnv o f m [d] (SV.c undef) [(d,Blk.row t0 n (A.setIfInBounds off v))] :=
 out_skip fun f' m' ρ a w hf hmm h1 h2=>by
  have hxx:=ev_rel h1 x
  rw [hf x (by simp [ho,Op.operands]),hx] at hxx
  have hyy:=ev_rel h1 y
  rw [hf y (by simp [ho,Op.operands]),hy] at hyy
  have hyy:=rel_c hyy
  obtain ⟨k,ob,h3,h4,h5,h6,h7⟩:=blk_at h2 ((hmm d (by simp)).trans hm) rfl hxx
  subst h7
  have hl:=store_cell (v:=v) (hE ty i hi) ((row_cell h5 off).trans (Array.getElem?_eq_getElem (by omega))) (row_frozen h5 off) hv hs
  exact ⟨_,by simp only [execOp,ho,h4,hyy,Sem.run_bind,hl,Result.andThen_ok,Sem.run_pure],setCell_upd h2 h3 h5 ⟨by simpa using h6,rfl⟩⟩
def oneRow:Blk→Option TypeId
 | .inl (t,1,_)=>some t
 | .inr (.inl (t,_))=>some t
 | _=>none
theorem oneRow_tied:∀ {B:Blk} {t:TypeId},oneRow B=some t→B.tied=true
 | .inl _,_,_=>rfl
 | .inr (.inl _),_,_=>rfl
 | .inr (.inr _),_,h=>by simp [oneRow] at h
theorem one_row {ρ:Rho}:∀ {B:Blk} {o:Obj} {t:TypeId},oneRow B=some t→Blk.rel ρ B o→∃ u,o=.cells #[u] t (0,0)
 | .inl (t0,1,A),o,t,h,⟨h1,h2⟩=>by
  simp only [oneRow,Option.some.injEq] at h;subst h
  obtain ⟨l⟩:=A
  match l,h1 with
  | [u],_=>exact ⟨u,h2⟩
 | .inr (.inl (t0,v)),o,t,h,⟨x,_,h2⟩=>by
  simp only [oneRow,Option.some.injEq] at h;subst h
  exact ⟨x,h2⟩
theorem out_store_one (hE:VOk E) {ty:TypeId} {x y:Operand} {d:Key} {t0:TypeId} {B:Blk} {v:SV} {i:TI} (ho:o.op=.store ty x y) (hx:evF f x=SV.ptr d 0) (hy:evF f y=v) (hm:m d=some B) (hB:oneRow B=some t0) (hi:E.tt ty=some i) (hs:i.size=1) (hv:v.solid) :
    Out E.toEnv o f m [d] (SV.c undef) [(d,Blk.one t0 v)] :=
 out_skip fun f' m' ρ a w hf hmm h1 h2=>by
  have hxx:=ev_rel h1 x
  rw [hf x (by simp [ho,Op.operands]),hx] at hxx
  have hyy:=ev_rel h1 y
  rw [hf y (by simp [ho,Op.operands]),hy] at hyy
  obtain ⟨k,ob,h3,h4,h5,h6⟩:=blk_at h2 ((hmm d (by simp)).trans hm) (oneRow_tied hB) hxx
  obtain ⟨u,h7⟩:=one_row hB h6
  subst h7
  have hl:=store_cell (v:=a.eval y) (hE ty i hi) ((row_cell h5 0).trans rfl) (row_frozen h5 0) (solid_one hv hyy).1 hs
  exact ⟨w.setCell ⟨k,0,none⟩ (a.eval y),by simp only [execOp,ho,h4,Sem.run_bind,hl,Result.andThen_ok,Sem.run_pure],setCell_upd (off:=0) (v:=a.eval y) h2 h3 h5 ⟨_,hyy,rfl⟩⟩
theorem out_fieldAddr (hE:VOk E) {s:TypeId} {x:Operand} {fld:Nat} {d:Key} {off:Nat} {fo:Nat} {fty:TypeId} {i j:TI} (ho:o.op=.fieldAddr s x fld) (hx:evF f x=SV.ptr d off) (hi:E.tt s=some i) (hd:i.kind=1) (hf0:i.fields[fld]? = some (fo,fty)) (hj:E.tt fty=some j) (hz:j.size≠0) :
    Out E.toEnv o f m [] (SV.ptr d (off+fo)) [] :=
 out_plain fun f' ρ a w hf h1 _=>by
  have hxx:=ev_rel h1 x
  rw [hf x (by simp [ho,Op.operands]),hx] at hxx
  obtain ⟨b,hb,e⟩:=hxx
  obtain ⟨dd,hu,_,hs⟩:=(hE s i hi).desc
  simp only [TI.says,hd] at hs
  obtain ⟨fs,rfl,hfs⟩:=hs
  obtain ⟨fd,hf1,rfl,rfl⟩:∃ fd,fs[fld]? = some fd∧fd.offset=fo∧fd.type=fty:=by
   rw [← hfs,List.getElem?_map,Option.map_eq_some_iff] at hf0
   obtain ⟨fd,h1,h2⟩:=hf0
   simp only [Prod.mk.injEq] at h2
   exact ⟨fd,by simpa using h1,h2.1,h2.2⟩
  refine ⟨.pointer (some ⟨b,off+fd.offset,none⟩),?_,b,hb,rfl⟩
  simp only [execOp,ho,e,Instr.fieldAt,Sem.run_bind,run_underlying hu,Result.andThen_ok,hf1,Instr.sureAddr,Sem.run_pure,fieldPlace,run_sizeOf (hE fd.type j hj),if_neg hz,Addr.add_mid]
def offAt (off:Nat) (i:Int) (sz:Nat):Nat:=match sz with
 | 1=>match off with
  | 0=>i.toNat
  | k+1=>k+1+i.toNat
 | s=>off+i.toNat*s
theorem offAt_eq (off:Nat) (i:Int) (sz:Nat):offAt off i sz=off+i.toNat*sz:=by
 unfold offAt
 split
 ·cases off<;>simp
 ·rfl
theorem out_indexAddr (hE:VOk E) {t:TypeId} {x ix:Operand} {d:Key} {off:Nat} {i j:TI} {k:IntKind} {n:Int} (ho:o.op=.indexAddr t x ix) (hx:evF f x=SV.ptr d off) (hix:evF f ix=SV.c (.int k n)) (hi:E.tt t=some i) (hd:i.kind=2) (hj:E.tt i.elem=some j) (h0:0≤n) (h1:n < i.len) :
    Out E.toEnv o f m [] (SV.ptr d (offAt off n j.size)) [] :=
 out_plain fun f' ρ a w hf hF _=>by
  have hxx:=ev_rel hF x
  rw [hf x (by simp [ho,Op.operands]),hx] at hxx
  obtain ⟨b,hb,e⟩:=hxx
  have hii:=ev_rel hF ix
  rw [hf ix (by simp [ho,Op.operands]),hix] at hii
  have hii:=rel_c hii
  obtain ⟨dd,hu,_,hs⟩:=(hE t i hi).desc
  simp only [TI.says,hd] at hs
  subst hs
  refine ⟨.pointer (some ⟨b,off+n.toNat*j.size,none⟩),?_,b,hb,by rw [offAt_eq]⟩
  simp only [execOp,ho,e,hii,Instr.indexAt,asIntOf,Sem.run_bind,run_underlying hu,Result.andThen_ok,Instr.sureAddr,Sem.run_pure]
  have hc:0≤n∧n < (i.len:Int):=⟨h0,h1⟩
  simp only [hc,and_self,if_true,Sem.run_bind,run_sizeOf (hE _ j hj),Result.andThen_ok,Sem.run_pure,Addr.add_mid]
theorem out_indexSlice (hE:VOk E) {t:TypeId} {x ix:Operand} {d:Key} {off len cap:Nat} {i j:TI} {k:IntKind} {n:Int} (ho:o.op=.indexAddr t x ix) (hx:evF f x=SV.sl d off len cap) (hix:evF f ix=SV.c (.int k n)) (hi:E.tt t=some i) (hd:i.kind=3) (hj:E.tt i.elem=some j) (h0:0≤n) (h1:n < len) :
    Out E.toEnv o f m [] (SV.ptr d (offAt off n j.size)) [] :=
 out_plain fun f' ρ a w hf hF _=>by
  have hxx:=ev_rel hF x
  rw [hf x (by simp [ho,Op.operands]),hx] at hxx
  obtain ⟨b,hb,e⟩:=hxx
  have hii:=ev_rel hF ix
  rw [hf ix (by simp [ho,Op.operands]),hix] at hii
  have hii:=rel_c hii
  obtain ⟨dd,hu,_,hs⟩:=(hE t i hi).desc
  simp only [TI.says,hd] at hs
  subst hs
  refine ⟨.pointer (some ⟨b,off+n.toNat*j.size,none⟩),?_,b,hb,by rw [offAt_eq]⟩
  simp only [execOp,ho,e,hii,Instr.indexAt,asIntOf,Sem.run_bind,run_underlying hu,Result.andThen_ok,Sem.run_pure]
  have hc:0≤n∧n < (len:Int):=⟨h0,h1⟩
  simp only [hc,and_self,if_true,Sem.run_bind,run_sizeOf (hE _ j hj),Result.andThen_ok,Sem.run_pure,Addr.add_mid]
theorem out_nilCheck {x:Operand} {d:Key} {off:Nat} (ho:o.op=.nilCheck x) (hx:evF f x=SV.ptr d off):Out E.toEnv o f m [] (SV.ptr d off) [] :=
 out_plain fun f' ρ a w hf h1 _=>by
  have hxx:=ev_rel h1 x
  rw [hf x (by simp [ho,Op.operands]),hx] at hxx
  obtain ⟨b,hb,e⟩:=hxx
  exact ⟨_,by simp [execOp,ho,e],b,hb,rfl⟩
theorem out_nilCheck_c {x:Operand} {b:Addr} (ho:o.op=.nilCheck x) (hx:evF f x=SV.c (.pointer (some b))):Out E.toEnv o f m [] (SV.c (.pointer (some b))) [] :=
 out_plain fun f' ρ a w hf h1 _=>by
  have hxx:=ev_rel h1 x
  rw [hf x (by simp [ho,Op.operands]),hx] at hxx
  have hxx:=rel_c hxx
  exact ⟨_,by simp [execOp,ho,hxx],rfl⟩
theorem out_nilCheck_f {x:Operand} {g:FuncId} {p q:Array Value} (ho:o.op=.nilCheck x) (hx:evF f x=SV.c (.func (.func g) p q)):Out E.toEnv o f m [] (SV.c (.func (.func g) p q)) [] :=
 out_plain fun f' ρ a w hf h1 _=>by
  have hxx:=ev_rel h1 x
  rw [hf x (by simp [ho,Op.operands]),hx] at hxx
  have hxx:=rel_c hxx
  exact ⟨_,by simp [execOp,ho,hxx],rfl⟩
theorem out_extract {x:Operand} {i:Nat} {vs:Array Value} {v:Value} (ho:o.op=.extract x i) (hx:evF f x=SV.c (.tuple vs)) (hv:vs[i]? = some v):Out E.toEnv o f m [] (SV.c v) [] :=
 out_plain fun f' ρ a w hf h1 _=>by
  have hxx:=ev_rel h1 x
  rw [hf x (by simp [ho,Op.operands]),hx] at hxx
  have hxx:=rel_c hxx
  exact ⟨v,by simp [execOp,ho,hxx,Instr.extract,hv],rfl⟩
def plainV:SV→Option Value
 | .inl v=>some v
 | _=>none
theorem plain_ev {ρ:Rho} {a:Act} {f':Frm} (hF:Fr E.toEnv ρ f' a) {x:Operand} {s:SV} {v:Value} (he:evF f' x=s) (hs:plainV s=some v):a.eval x=v:=by
 have h:=ev_rel hF x
 rw [he] at h
 match s,hs with
 | .inl u,hs=>simp only [plainV,Option.some.injEq] at hs;subst hs;exact h
theorem out_one {x:Operand} {s:Value→Sem Value} {u r:Value} (ho:∀ a:Act,execOp a.eval o=(do pure (.value (← s (a.eval x))))) (hin:x∈o.op.operands.toList) (hx:evF f x=SV.c u) (hr:Runs E.toEnv (s u) r):Out E.toEnv o f m [] (SV.c r) [] :=
 out_plain fun f' ρ a w hf h1 hw=>by
  have hxx:=ev_rel h1 x
  rw [hf x hin,hx] at hxx
  have hxx:=rel_c hxx
  exact ⟨r,by rw [ho,hxx];simp [hr w hw],rfl⟩
theorem out_two {x y:Operand} {s:Value→Value→Sem Value} {u v r:Value} (ho:∀ a:Act,execOp a.eval o=(do pure (.value (← s (a.eval x) (a.eval y))))) (hin:x∈o.op.operands.toList) (hin2:y∈o.op.operands.toList) (hx:evF f x=SV.c u) (hy:evF f y=SV.c v) (hr:Runs E.toEnv (s u v) r):Out E.toEnv o f m [] (SV.c r) [] :=
 out_plain fun f' ρ a w hf h1 hw=>by
  have hxx:=ev_rel h1 x
  rw [hf x hin,hx] at hxx
  have hxx:=rel_c hxx
  have hyy:=ev_rel h1 y
  rw [hf y hin2,hy] at hyy
  have hyy:=rel_c hyy
  exact ⟨r,by rw [ho,hxx,hyy];simp [hr w hw],rfl⟩
end
section
variable {E:VE} {o:Oper} {f:Frm} {m:Mem}
theorem holds_of {E:Env} {ρ:Rho} {m:Mem} {w:World} (h:Wd E ρ m w) {pre:MemL} (ht:∀ p,p∈pre→p.2.tied=true) (hp:∀ p,p∈pre→m p.1=some p.2):Holds ρ pre w:=fun p hpp=>by
 obtain ⟨k,o,h1,h2,h3,h4⟩:=h.blk p.1 p.2 (hp p hpp) (ht p hpp)
 exact ⟨k,o,h1,h3,h4⟩
theorem lk_getM:∀ (U:MemL) (d:Key),lk U d=getM U d
 | [],_=>rfl
 | (k,B) :: r,d=>by simp only [lk,getM,lk_getM r d]
theorem getM_mem:∀ {U:MemL} {d:Key} {B:Blk},getM U d=some B→(d,B)∈U
 | (k,B') :: r,d,B,h=>by
  simp only [getM] at h
  by_cases e:k=d
  ·subst e;simp at h;subst h;simp
  ·rw [if_neg e] at h;exact List.mem_cons_of_mem _ (getM_mem h)
theorem getM_none_of:∀ {U:MemL} {d:Key},getM U d=none→∀ p,p∈U→p.1≠d
 | (k,B') :: r,d,h,p,hp=>by
  simp only [getM] at h
  by_cases e:k=d
  ·rw [if_pos e] at h;cases h
  ·rw [if_neg e] at h
   rcases List.mem_cons.1 hp with rfl | hp
   ·exact e
   ·exact getM_none_of h p hp
theorem getM_some_of:∀ {U:MemL} {p:Key×Blk},p∈U→∃ B,getM U p.1=some B
 | (k,B') :: r,p,hp=>by
  simp only [getM]
  by_cases e:k=p.1
  ·rw [if_pos e];exact ⟨_,rfl⟩
  ·rw [if_neg e]
   rcases List.mem_cons.1 hp with rfl | hp
   ·exact absurd rfl e
   ·exact getM_some_of hp
theorem Wd.after {E:Env} {ρ ρ':Rho} {m:Mem} {w w':World} {pre post:MemL} (h:Wd E ρ m w) (ht:∀ p,p∈pre→p.2.tied=true) (hp:∀ p,p∈pre→m p.1=some p.2) (hq:∀ p,p∈post→getM pre p.1=none→m p.1=none∧E.pk.any (·.1 == p.1)=false) (ha:After ρ ρ' post w w'):Wd E ρ' (updM m post) w':=by
 have hpt:∀ d B,getM post d=some B→B.tied=true:=fun d B hd=>by
  obtain ⟨k,o,h1,h2,h3,h4⟩:=ha.blk d B hd
  exact Blk.rel_tied h4
 have hρ:∀ e b,ρ' e=some b→b < w.heap.size→ρ e=some b:=fun e b he hb=>by
  cases hg:getM post e with
  | none=>rw [ha.dom e hg] at he;exact he
  | some B =>
   obtain ⟨k,o,h1,h2,h3,h4⟩:=ha.blk e B hg
   rw [he] at h1;cases h1
   rcases h2 with h2 | h2
   ·exact h2
   ·omega
 have hlt:∀ d B b,m d=some B→B.num=some b→b < w.heap.size:=fun d B b hm hb=>by
  cases ht:B.tied with
  | true=>rw [Blk.num_none ht] at hb;cases hb
  | false=>exact Blk.at_lt (h.loose d B hm ht).2 hb
 refine ⟨ha.os.trans h.os,ha.tape.trans h.tape,ha.output.trans h.output,Nat.le_trans h.size ha.size,fun k hk hx=>?_,fun d B hd hdt=>?_,fun d hd=>?_,fun d B hd hdt=>?_,fun d B b hd hb=>?_,ha.inj,fun e j B2 he hm' ht2=>?_⟩
 ·rw [ha.old k (Nat.lt_of_lt_of_le hk h.size) ?_]
  ·exact h.old k hk hx
  ·intro p hpp he
   cases hg:getM pre p.1 with
   | none =>
    have:=h.dom _ (hq p hpp hg).1
    rw [this] at he;cases he
   | some B =>
    obtain ⟨k',o,h1,h2,h3,h4⟩:=h.blk p.1 B (hp _ (getM_mem hg)) (ht _ (getM_mem hg))
    rw [h1] at he;cases he
    rcases h2 with h2 | h2
    ·omega
    ·exact hx h2
 ·simp only [updM,lk_getM] at hd
  cases hg:getM post d with
  | some B' =>
   rw [hg] at hd;cases hd
   obtain ⟨k,o,h1,h2,h3,h4⟩:=ha.blk d _ hg
   refine ⟨k,o,h1,?_,h3,h4⟩
   rcases h2 with h2 | h2
   ·obtain ⟨B,hm,hmt⟩:=h.tied_of h2
    obtain ⟨k',o',h5,h6,_⟩:=h.blk d B hm hmt
    rw [h2] at h5;cases h5;exact h6
   ·exact .inl (Nat.le_trans h.size h2)
  | none =>
   rw [hg] at hd
   obtain ⟨k,o,h1,h2,h3,h4⟩:=h.blk d B hd hdt
   refine ⟨k,o,ha.ext _ _ h1,h2,?_,Blk.rel_ext ha.ext h4⟩
   rw [ha.old k (h.lt h1) ?_]
   ·exact h3
   ·intro p hpp he
    exact getM_none_of hg p hpp (h.inj _ _ _ he h1)
 ·simp only [updM,lk_getM] at hd
  cases hg:getM post d with
  | some B'=>rw [hg] at hd;cases hd
  | none =>
   rw [hg] at hd
   rw [ha.dom d hg]
   exact h.dom d hd
 ·simp only [updM,lk_getM] at hd
  cases hg:getM post d with
  | some B'=>rw [hg] at hd;cases hd;rw [hpt d _ hg] at hdt;cases hdt
  | none =>
   rw [hg] at hd
   obtain ⟨h1,h2⟩:=h.loose d B hd hdt
   refine ⟨by rw [ha.dom d hg];exact h1,Blk.at_same (fun b hb=>ha.old b (Blk.at_lt h2 hb) fun p _=>(h.sep d B b hd hb).2.1 p.1) h2⟩
 ·simp only [updM,lk_getM] at hd
  cases hg:getM post d with
  | some B'=>rw [hg] at hd;cases hd;rw [Blk.num_none (hpt d _ hg)] at hb;cases hb
  | none =>
   rw [hg] at hd
   obtain ⟨h1,h2,h3⟩:=h.sep d B b hd hb
   refine ⟨h1,fun e he=>h2 e (hρ e b he (hlt d B b hd hb)),fun e B3 he hb'=>?_⟩
   simp only [updM,lk_getM] at he
   cases hg2:getM post e with
   | some B'=>rw [hg2] at he;cases he;rw [Blk.num_none (hpt e _ hg2)] at hb';cases hb'
   | none=>rw [hg2] at he;exact h3 e B3 he hb'
 ·simp only [updM,lk_getM] at hm'
  cases hg:getM post e with
  | none =>
   rw [hg] at hm'
   exact ha.ext _ _ (h.par e j B2 he hm' ht2)
  | some B =>
   have hpp:=getM_mem hg
   cases hgp:getM pre e with
   | none =>
    have:=List.any_eq_false.1 (hq _ hpp hgp).2 (e,j) he
    simp at this
   | some B'=>exact ha.ext _ _ (h.par e j B' he (hp _ (getM_mem hgp)) (ht _ (getM_mem hgp)))
theorem rels_ev {E:Env} {ρ:Rho} {f':Frm} {a:Act} (h:Fr E ρ f' a):∀ (l:List Operand),rels ρ (l.map (evF f')) (l.map a.eval)
 | []=>trivial
 | x :: l=>⟨ev_rel h x,rels_ev h l⟩
def callee:SV→List SV→Option (FuncId×List SV)
 | .inl (.func (.func g) p q),args=>some (g,p.toList.map SV.c++args++q.toList.map SV.c)
 | .inr (.inr (.inr (.inl (g,ds)))),args=>some (g,args++ds.map fun d=>SV.ptr d 0)
 | _,_=>none
theorem rels_append {ρ:Rho}:∀ {a b:List SV} {x y:List Value},rels ρ a x→rels ρ b y→rels ρ (a++b) (x++y)
 | [],_b,[],_y,_,h=>h
 | _s :: _a,_b,_v :: _x,_y,⟨h1,h2⟩,h=>⟨h1,rels_append h2 h⟩
theorem rels_c {ρ:Rho}:∀ (l:List Value),rels ρ (l.map SV.c) l
 | []=>trivial
 | _ :: l=>⟨rfl,rels_c l⟩
theorem rels_ptr {ρ:Rho}:∀ (ds:List Key) (bs:List Nat),ds.map ρ=bs.map some→rels ρ (ds.map fun d=>SV.ptr d 0) (bs.map fun b=>.pointer (some ⟨b,0,none⟩))
 | [],[],_=>trivial
 | [],b :: bs,e=>by simp at e
 | d :: ds,[],e=>by simp at e
 | d :: ds,b :: bs,e=>by
  simp only [List.map_cons,List.cons.injEq] at e
  exact ⟨⟨b,e.1,rfl⟩,rels_ptr ds bs e.2⟩
theorem callee_run {_E:Env} {ρ:Rho} {P:Program}:∀ {s:SV} {u:Value} {args:List SV} {xs:List Value} {g:FuncId} {all:List SV},SV.rel ρ s u→rels ρ args xs→callee s args=some (g,all)→Enters P g →
    ∃ ys:List Value,rels ρ all ys∧∀ w,(do let d ← Deferred.ofValue u xs.toArray;invoke d.target d.args:Sem Next).run P w=.ok (.enter g ys.toArray) w
 | .inl (.func (.func g0) p q),u,args,xs,g,all,hs,hx,hc,he=>by
  have hs:u=_:=hs
  subst hs
  simp only [callee,Option.some.injEq,Prod.mk.injEq] at hc
  obtain ⟨rfl,rfl⟩:=hc
  refine ⟨p.toList++xs++q.toList,rels_append (rels_append (rels_c _) hx) (rels_c _),fun w=>?_⟩
  simp only [Deferred.ofValue,Sem.run_bind,Sem.run_pure,Result.andThen_ok,invoke]
  rw [he.run]
  simp
 | .inr (.inr (.inr (.inl (g0,ds)))),u,args,xs,g,all,⟨bs,hb,hu⟩,hx,hc,he=>by
  subst hu
  simp only [callee,Option.some.injEq,Prod.mk.injEq] at hc
  obtain ⟨rfl,rfl⟩:=hc
  refine ⟨xs++(bs.map fun b=>.pointer (some ⟨b,0,none⟩)),rels_append hx (rels_ptr _ _ hb),fun w=>?_⟩
  simp only [Deferred.ofValue,Sem.run_bind,Sem.run_pure,Result.andThen_ok,invoke]
  rw [he.run]
  simp
theorem upon_enter_ret {P:Program} {o:Oper} {a:Act} {K:Act→World→Prop} {Q:Exit→Act→World→Prop} {g:FuncId} {ys:Array Value} {w:World} {R:Ending→World→Prop} (h:Calls P g ys w R) (hK:∀ e w',R e w'→∃ x,e=.returned x∧K (a.put o.dst x) w'):o.upon P a K Q (.ok (.enter g ys) w):=by
 rw [Oper.upon_enter]
 refine h.mono fun e w' hr=>?_
 obtain ⟨x,rfl,hk⟩:=hK e w' hr
 exact hk
theorem call_args {c:Call} {x:Operand} (h:x∈c.args.toList):x∈(Op.call c).operands.toList:=by
 simp only [Op.operands,Call.operands,Array.toList_append,List.mem_append];exact .inr h
theorem call_fn {c:Call} {x:Operand} (h:c.callee=.value x):x∈(Op.call c).operands.toList:=by
 simp [Op.operands,Call.operands,h]
theorem args_agree {f':Frm} {c:Call} (ho:o.op=.call c) (hf:∀ x,x∈o.op.operands.toList→evF f' x=evF f x):c.args.toList.map (evF f')=c.args.toList.map (evF f) :=
 List.map_congr_left fun x hx=>hf x (by rw [ho];exact call_args hx)
theorem exec_call {c:Call} {x:Operand} (ho:o.op=.call c) (hc:c.callee=.value x) (a:Act):execOp a.eval o=(do let d ← Deferred.ofValue (a.eval x) ((c.args.toList.map a.eval).toArray);invoke d.target d.args):=by
 have e:c.args.map a.eval=(c.args.toList.map a.eval).toArray:=by apply Array.ext';simp
 simp only [execOp,ho,resolve,hc,e]
theorem out_pure {c:Call} {x:Operand} {g:FuncId} {all:List SV} {v:Value} (ho:o.op=.call c) (hc:c.callee=.value x) (hg:callee (evF f x) (c.args.toList.map (evF f))=some (g,all)) (hp:Pure E.P g all v):Out E.toEnv o f m [] (SV.c v) []:=by
 intro f' m' hf _ ρ a w h1 h2 K Q hK
 have hf:=fun x hx=>ev_agree (o:=o) hf (x:=x) hx
 rw [← hf x (by rw [ho];exact call_fn hc),← args_agree ho hf] at hg
 obtain ⟨ys,hy,hrun⟩:=callee_run (_E:=E.toEnv) (P:=E.P) (ev_rel h1 x) (rels_ev h1 c.args.toList) hg hp.1
 unfold Oper.wp
 rw [exec_call ho hc,hrun w]
 refine upon_enter_ret (hp.2 ρ w ys hy) fun e w' ⟨he,hb⟩=>⟨v,he,hK ρ v w' (Ext.refl _) rfl ?_⟩
 rw [updM_nil]
 refine ⟨hb.os.trans h2.os,hb.tape.trans h2.tape,hb.output.trans h2.output,Nat.le_trans h2.size hb.size,fun k hk hx=>?_,fun d B hd hdt=>?_,h2.dom,fun d B hd hdt=>?_,h2.sep,h2.inj,h2.par⟩
 ·rw [hb.block k (Nat.lt_of_lt_of_le hk h2.size)];exact h2.old k hk hx
 rotate_left
 ·obtain ⟨h3,h4⟩:=h2.loose d B hd hdt
  exact ⟨h3,Blk.at_same (fun b hbn=>hb.block b (Blk.at_lt h4 hbn)) h4⟩
 ·obtain ⟨k,o',h3,h4,h5,h6⟩:=h2.blk d B hd hdt
  exact ⟨k,o',h3,h4,by rw [hb.block k (h2.lt h3)];exact h5,h6⟩
theorem out_own {c:Call} {x:Operand} {g:FuncId} {all:List SV} {pre post:MemL} {v:SV} (ho:o.op=.call c) (hc:c.callee=.value x) (hg:callee (evF f x) (c.args.toList.map (evF f))=some (g,all)) (hp:Own E.toEnv g all pre v post)
    (hpre:∀ p,p∈pre→m p.1=some p.2) (hpost:∀ p,p∈post→getM pre p.1=none→m p.1=none∧E.pk.any (·.1 == p.1)=false):Out E.toEnv o f m (pre.map (·.1)++post.map (·.1)) v post:=by
 intro f' m' hf hmm ρ a w h1 h2 K Q hK
 have hf:=fun x hx=>ev_agree (o:=o) hf (x:=x) hx
 rw [← hf x (by rw [ho];exact call_fn hc),← args_agree ho hf] at hg
 obtain ⟨ys,hy,hrun⟩:=callee_run (_E:=E.toEnv) (P:=E.P) (ev_rel h1 x) (rels_ev h1 c.args.toList) hg hp.1
 have hpre':∀ p,p∈pre→m' p.1=some p.2:=fun p hpp=>(hmm p.1 (by simp only [List.mem_append,List.mem_map];exact .inl ⟨p,hpp,rfl⟩)).trans (hpre p hpp)
 have hpost':∀ p,p∈post→getM pre p.1=none→m' p.1=none∧E.pk.any (·.1 == p.1)=false:=fun p hpp hn=>⟨(hmm p.1 (by simp only [List.mem_append,List.mem_map];exact .inr ⟨p,hpp,rfl⟩)).trans (hpost p hpp hn).1,(hpost p hpp hn).2⟩
 unfold Oper.wp
 rw [exec_call ho hc,hrun w]
 refine upon_enter_ret (hp.2.2 ρ w ys h2.inj (fun d k hd=>h2.lt hd) (fun p hpp hn=>h2.dom _ (hpost' p hpp hn).1) hy (holds_of h2 hp.2.1 hpre') h2.oldW (fun p hpp k hk=>by
  obtain ⟨k',o',h3,h4,-⟩:=h2.blk p.1 p.2 (hpre' p hpp) (hp.2.1 p hpp)
  rw [hk] at h3;cases h3;exact h4)) fun e w' ⟨ρ',y,he,hv,ha⟩=>⟨y,he,hK ρ' y w' ha.ext hv (h2.after hp.2.1 hpre' hpost' ha)⟩
theorem out_makeFunc {g:FuncId} {first captured:Array Operand} {p q:List Value} (ho:o.op=.makeFunc (.func g) first captured) (hp:first.toList.map (fun x=>plainV (evF f x))=p.map some) (hq:captured.toList.map (fun x=>plainV (evF f x))=q.map some) :
    Out E.toEnv o f m [] (SV.c (.func (.func g) p.toArray q.toArray)) [] :=
 out_plain fun f' ρ a w hf h1 _=>by
  have hl:∀ (l:List Operand) (r:List Value),(∀ x∈l,x∈o.op.operands.toList)→l.map (fun x=>plainV (evF f x))=r.map some→l.map a.eval=r:=by
   intro l
   induction l with
   | nil=>intro r _ h;cases r with
    | nil=>rfl
    | cons _ _=>simp at h
   | cons x l ih=>intro r hin h;cases r with
    | nil=>simp at h
    | cons u r =>
     simp only [List.map_cons,List.cons.injEq] at h ⊢
     exact ⟨plain_ev h1 (hf x (hin x (by simp))) h.1,ih r (fun y hy=>hin y (by simp [hy])) h.2⟩
  have e1:=hl first.toList p (fun x hx=>by rw [ho];simp only [Op.operands,Array.toList_append,List.mem_append];exact .inl hx) hp
  have e2:=hl captured.toList q (fun x hx=>by rw [ho];simp only [Op.operands,Array.toList_append,List.mem_append];exact .inr hx) hq
  have e3:first.map a.eval=p.toArray:=by apply Array.ext';simpa using e1
  have e4:captured.map a.eval=q.toArray:=by apply Array.ext';simpa using e2
  exact ⟨_,by simp only [execOp,ho,Instr.makeFunc,e3,e4,Sem.run_bind,Sem.run_pure,Result.andThen_ok],rfl⟩
def ptrV:SV→Option Key
 | .inr (.inl (d,0))=>some d
 | _=>none
theorem out_makeClo {g:FuncId} {captured:Array Operand} {ds:List Key} (ho:o.op=.makeFunc (.func g) #[] captured) (hq:captured.toList.map (fun x=>ptrV (evF f x))=ds.map some) :
    Out E.toEnv o f m [] (SV.clo g ds) [] :=
 out_plain fun f' ρ a w hf h1 _=>by
  have hl:∀ (l:List Operand) (r:List Key),(∀ x∈l,x∈o.op.operands.toList)→l.map (fun x=>ptrV (evF f x))=r.map some→∃ bs:List Nat,r.map ρ=bs.map some∧l.map a.eval=bs.map fun b=>Value.pointer (some ⟨b,0,none⟩):=by
   intro l
   induction l with
   | nil=>intro r _ h;cases r with
    | nil=>exact ⟨[],rfl,rfl⟩
    | cons _ _=>simp at h
   | cons x l ih=>intro r hin h;cases r with
    | nil=>simp at h
    | cons u r =>
     simp only [List.map_cons,List.cons.injEq] at h
     obtain ⟨bs,h3,h4⟩:=ih r (fun y hy=>hin y (by simp [hy])) h.2
     have h5:=ev_rel h1 x
     rw [hf x (hin x (by simp))] at h5
     have h6:evF f x=SV.ptr u 0:=by
      have:=h.1
      match evF f x,this with
      | .inr (.inl (d,0)),this=>simp only [ptrV,Option.some.injEq] at this;rw [this]
     rw [h6] at h5
     obtain ⟨b,hb,hx⟩:=h5
     exact ⟨b :: bs,by simp [h3,hb],by simp [h4,hx]⟩
  obtain ⟨bs,e1,e2⟩:=hl captured.toList ds (fun x hx=>by rw [ho];simpa [Op.operands] using hx) hq
  have e4:captured.map a.eval=(bs.map fun b=>Value.pointer (some ⟨b,0,none⟩)).toArray:=by apply Array.ext';simpa using e2
  exact ⟨_,by simp only [execOp,ho,Instr.makeFunc,e4,Sem.run_bind,Sem.run_pure,Result.andThen_ok];simp,bs,e1,rfl⟩
theorem out_build {t:TypeId} {parts:Array (Nat×Operand)} {ps:List (Nat×Value)} {r:Value} (ho:o.op=.build t parts) (hp:parts.toList.map (fun p=>(plainV (evF f p.2)).map fun v=>(p.1,v))=ps.map some) (hr:Runs E.toEnv (Instr.build t ps.toArray) r):Out E.toEnv o f m [] (SV.c r) [] :=
 out_plain fun f' ρ a w hf h1 hw=>by
  have hl:∀ (l:List (Nat×Operand)) (r:List (Nat×Value)),(∀ x∈l,x.2∈o.op.operands.toList)→l.map (fun p=>(plainV (evF f p.2)).map fun v=>(p.1,v))=r.map some→l.map (fun p=>(p.1,a.eval p.2))=r:=by
   intro l
   induction l with
   | nil=>intro r _ h;cases r with
    | nil=>rfl
    | cons _ _=>simp at h
   | cons x l ih=>intro r hin h;cases r with
    | nil=>simp at h
    | cons u r =>
     simp only [List.map_cons,List.cons.injEq,Option.map_eq_some_iff] at h ⊢
     obtain ⟨⟨v,h3,h4⟩,h5⟩:=h
     refine ⟨?_,ih r (fun y hy=>hin y (by simp [hy])) h5⟩
     rw [← h4,plain_ev h1 (hf x.2 (hin x (by simp))) h3]
  have e1:=hl parts.toList ps (fun x hx=>by rw [ho];simp only [Op.operands,List.mem_map];exact ⟨x,hx,rfl⟩) hp
  have e2:(parts.map fun (i,x)=>(i,a.eval x))=ps.toArray:=by apply Array.ext';simpa using e1
  refine ⟨r,?_,rfl⟩
  simp only [execOp,ho]
  rw [e2]
  simp [hr w hw]
end
end Go.SX
