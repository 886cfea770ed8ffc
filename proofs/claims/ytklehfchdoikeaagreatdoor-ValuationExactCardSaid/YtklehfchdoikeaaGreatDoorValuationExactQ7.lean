/- a table of types that agrees with the program: checked at on; no condition. -/
import Derived.Test.YtklehfchdoikeaaGreatDoorValuationExactQ6
set_option maxRecDepth 100000
set_option maxHeartbeats 4000000
namespace Go.SX
open Go Go.RowKit
def TI.of (P:Program) (ty:TypeId):Option TI :=
 match P.info? ty,P.underlying ty with
 | some j,some d =>
  match j.zero with
  | some z =>
   if Nat.beq z.cells.size j.size=true then
    match d with
    | .struct fs=>some { row:=d.isRow,size:=j.size,zero:=z.cells,kind:=1,fields:=fs.toList.map fun f=>(f.offset,f.type) }
    | .array n e=>some { row:=d.isRow,size:=j.size,zero:=z.cells,kind:=2,len:=n,elem:=e }
    | .slice e=>some { row:=d.isRow,size:=j.size,zero:=z.cells,kind:=3,elem:=e }
    | .int k=>some { row:=d.isRow,size:=j.size,zero:=z.cells,kind:=4,ik:=k }
    | .bool=>some { row:=d.isRow,size:=j.size,zero:=z.cells,kind:=5 }
    | _=>some { row:=d.isRow,size:=j.size,zero:=z.cells,kind:=0 }
   else none
  | none=>none
 | _,_=>none
theorem TI.of_ok {P:Program} {ty:TypeId} {i:TI} (h:TI.of P ty=some i):TIok P ty i:=by
 unfold TI.of at h
 split at h
 ·rename_i j d h1 h2
  split at h
  ·rename_i z hz
   split at h
   ·rename_i hs
    have hs:=Nat.eq_of_beq_eq_true hs
    split at h<;>cases h<;>refine ⟨by rw [h1];rfl,⟨_,h2,rfl,?_⟩,by rw [h1];show Option.map _ j.zero=_;rw [hz];rfl,hs⟩
    ·exact ⟨_,rfl,rfl⟩
    ·rfl
    ·rfl
    ·rfl
    ·rfl
    ·trivial
   ·cases h
  ·cases h
 ·cases h
def TI.l1 (P:Program) (tt:TypeId->Option TI):Nat->List (Option TI)
 | 0=>[]
 | k+1=>(match tt k with | none=>none | some _=>TI.of P k) :: TI.l1 P tt k
def TI.l2 (tt:TypeId->Option TI):Nat->List (Option TI)
 | 0=>[]
 | k+1=>tt k :: TI.l2 tt k
theorem TI.l_at {P:Program} {tt:TypeId->Option TI}:∀ {n:Nat},TI.l1 P tt n=TI.l2 tt n->∀ k i,k < n->tt k=some i->TI.of P k=some i
 | n+1,h,k,i,hk,hi=>by
  rw [TI.l1,TI.l2] at h
  have h1:=(List.cons.inj h).1
  have h2:=(List.cons.inj h).2
  by_cases e:k=n
  ·subst e
   rw [hi] at h1
   exact h1
  ·exact TI.l_at h2 k i (by omega) hi
theorem KZ {P:Program} {tt:TypeId->Option TI} (n:Nat) (h1:∀ ty,n<=ty->tt ty=none) (h2:TI.l1 P tt n=TI.l2 tt n):rx P tt:=fun ty i h=>by
 by_cases e:ty < n
 ·exact TI.of_ok (TI.l_at h2 ty i e h)
 ·rw [h1 ty (Nat.le_of_not_lt e)] at h;cases h
def tS (e:Nat):TI:={ row:=false,size:=1,zero:=#[.slice none 0 0],kind:=3,elem:=e }
def tI (k:IntKind):TI:={ row:=false,size:=1,zero:=#[.int k 0],kind:=4,ik:=k }
def tV (v:Value):TI:={ row:=false,size:=1,zero:=#[v] }
end Go.SX
namespace Go.Proofs.YtklehfchdoikeaaGreatDoor
open Go Go.RowKit Go.SX
/-! ### interface values: made, and called -/
section
variable {E:VE} {o:Oper} {f:bJ} {m:aE} {T:List Key->Prop} {K:VK}
theorem iQ {t:TypeId} {x:Operand} {v:Value} (ho:o.op=.makeInterface t x) (hx:evF (aG f) x=SV.c v) (hu:∃ d,E.P.underlying t=some d/\∀ ms,d≠.interface ms)
    (h:K (SV.c (.iface t v)) [] []):bH E o f m T K:=by
 obtain ⟨d,hd,hn⟩:=hu
 refine .inl ⟨SV.c (.iface t v),[],[],aX fun f' m' ρ a w hf hmm hF h2=>?_,bj,h⟩
 have hxx:=aB hF x
 rw [hf x (by rw [ho];simp [Op.operands]),hx] at hxx
 have hxx:=bn hxx
 refine ⟨ρ,.iface t v,w,?_,Ext.refl _,rfl,by rw [gf];exact h2⟩
 have hr:(Instr.makeInterface t v).run E.P w=.ok (.iface t v) w:=by
  simp only [Instr.makeInterface,Sem.run_bind,run_underlying hd,Result.andThen_ok]
  cases d<;>first | rfl | exact absurd rfl (hn _)
 simp only [execOp,ho,hxx,Sem.run_bind,hr,Result.andThen_ok,Sem.run_pure]
def CI (P:Program) (T:TypeId) (v:Value) (name:String) (g:FuncId) (r:Value):Prop:=∀ w,(method (P.types.size+Made.depth) T v name).run P w=.ok (g,r) w
theorem xq {c:Call} {recv:Operand} {name:String} {g:FuncId} {t:TypeId} {v r:Value} (ho:o.op=.call c) (hc:c.callee=.invoke recv name) (hx:evF (aG f) recv=SV.c (.iface t v)) (hm:CI E.P t v name g r) (he:Enters E.P g):Ix E o f g (SV.c r :: c.args.toList.map (evF (aG f))):=by
 intro f' ρ a hf h1
 have hf:=fun x hx=>dQ (o:=o) hf (x:=x) hx
 have hxx:=aB h1 recv
 rw [hf recv (by rw [ho];simp [Op.operands,Call.operands,hc]),hx] at hxx
 have hxx:=bn hxx
 have hy:=mO h1 c.args.toList
 rw [jP ho hf] at hy
 refine ⟨r :: c.args.toList.map a.eval,⟨rfl,hy⟩,fun w=>?_⟩
 have e1:(#[Value.iface t v]++c.args.map a.eval)[0]? = some (Value.iface t v):=by rw [<- Array.getElem?_toList];simp
 have e2:(#[Value.iface t v]++c.args.map a.eval).extract 1 (#[Value.iface t v]++c.args.map a.eval).size=c.args.map a.eval:=by
  apply Array.ext'
  simp only [Array.toList_extract,Array.size_append]
  simp
  exact List.take_of_length_le (by simp)
 have e3:#[r]++c.args.map a.eval=(r :: c.args.toList.map a.eval).toArray:=by
  apply Array.ext'
  simp
 have hm:=hm w
 simp only [execOp,ho,resolve,hc,hxx,Sem.run_bind,Sem.run_pure,Result.andThen_ok,invoke,e1,e2,callMethod,run_program,hm,e3,he.run]
theorem uc {c:Call} {recv:Operand} {name:String} {g:FuncId} {t:TypeId} {v r:Value} (ho:o.op=.call c) (hc:c.callee=.invoke recv name) (hx:evF (aG f) recv=SV.c (.iface t v)) (hm:CI E.P t v name g r)
    (h:tn E m T K g (SV.c r :: c.args.toList.map (evF (aG f)))):bH E o f m T K:=oU (xq ho hc hx hm) h
end
end Go.Proofs.YtklehfchdoikeaaGreatDoor
namespace Go.SX
open Go Go.RowKit
end Go.SX
namespace Go.SX
open Go Go.RowKit
section
variable {P:Program} {ops:Array Oper} {Q:Exit->Act->World->Prop} {π iv:List Nat}
end
end Go.SX
