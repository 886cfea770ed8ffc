/- a table of types that agrees with the program: checked at once; no condition. -/
import Derived.Test.YtkaakbpeegpnkaaGreatDoorP6
set_option maxRecDepth 100000
set_option maxHeartbeats 4000000
namespace Go.SX
open Go Go.RowKit
def TI.of (P:Program) (ty:TypeId):Option TI :=
 match P.info? ty,P.underlying ty with
 | some j,some d =>
  match j.zero with
  | some z =>
   if Nat.beq z.cells.size j.size=true then
    match d with
    | .struct fs=>some { row:=d.isRow,size:=j.size,zero:=z.cells,kind:=1,fields:=fs.toList.map fun f=>(f.offset,f.type) }
    | .array n e=>some { row:=d.isRow,size:=j.size,zero:=z.cells,kind:=2,len:=n,elem:=e }
    | .slice e=>some { row:=d.isRow,size:=j.size,zero:=z.cells,kind:=3,elem:=e }
    | .int k=>some { row:=d.isRow,size:=j.size,zero:=z.cells,kind:=4,ik:=k }
    | .bool=>some { row:=d.isRow,size:=j.size,zero:=z.cells,kind:=5 }
    | _=>some { row:=d.isRow,size:=j.size,zero:=z.cells,kind:=0 }
   else none
  | none=>none
 | _,_=>none
theorem TI.of_ok {P:Program} {ty:TypeId} {i:TI} (h:TI.of P ty=some i):TIok P ty i:=by
 unfold TI.of at h
 split at h
 ·rename_i j d h1 h2
  split at h
  ·rename_i z hz
   split at h
   ·rename_i hs
    have hs:=Nat.eq_of_beq_eq_true hs
    split at h<;>cases h<;>refine ⟨by rw [h1];rfl,⟨_,h2,rfl,?_⟩,by rw [h1];show Option.map _ j.zero=_;rw [hz];rfl,hs⟩
    ·exact ⟨_,rfl,rfl⟩
    ·rfl
    ·rfl
    ·rfl
    ·rfl
    ·trivial
   ·cases h
  ·cases h
 ·cases h
def TI.l1 (P:Program) (tt:TypeId→Option TI):Nat→List (Option TI)
 | 0=>[]
 | k+1=>(match tt k with | none=>none | some _=>TI.of P k) :: TI.l1 P tt k
def TI.l2 (tt:TypeId→Option TI):Nat→List (Option TI)
 | 0=>[]
 | k+1=>tt k :: TI.l2 tt k
theorem TI.l_at {P:Program} {tt:TypeId→Option TI}:∀ {n:Nat},TI.l1 P tt n=TI.l2 tt n→∀ k i,k < n→tt k=some i→TI.of P k=some i
 | n+1,h,k,i,hk,hi=>by
  rw [TI.l1,TI.l2] at h
  have h1:=(List.cons.inj h).1
  have h2:=(List.cons.inj h).2
  by_cases e:k=n
  ·subst e
   rw [hi] at h1
   exact h1
  ·exact TI.l_at h2 k i (by omega) hi
theorem tt_of {P:Program} {tt:TypeId→Option TI} (n:Nat) (h1:∀ ty,n≤ty→tt ty=none) (h2:TI.l1 P tt n=TI.l2 tt n):TTok P tt:=fun ty i h=>by
 by_cases e:ty < n
 ·exact TI.of_ok (TI.l_at h2 ty i e h)
 ·rw [h1 ty (Nat.le_of_not_lt e)] at h;cases h
def tS (e:Nat):TI:={ row:=false,size:=1,zero:=#[.slice none 0 0],kind:=3,elem:=e }
def tI (k:IntKind):TI:={ row:=false,size:=1,zero:=#[.int k 0],kind:=4,ik:=k }
def tV (v:Value):TI:={ row:=false,size:=1,zero:=#[v] }
end Go.SX
