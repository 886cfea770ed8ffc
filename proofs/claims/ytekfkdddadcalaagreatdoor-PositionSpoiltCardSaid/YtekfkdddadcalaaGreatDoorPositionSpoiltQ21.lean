/- walks: days and actions that are made. walks: a number that ; no condition. -/
import Derived.Lib.MinMax
import Derived.Test.YtekfkdddadcalaaGreatDoorPositionSpoiltQ20
set_option maxRecDepth 100000
set_option maxHeartbeats 4000000
namespace Go.Proofs.YtekfkdddadcalaaGreatDoor
open Go Go.RowKit Go.SX
theorem ce {P:Program} {ats:Array TypeId} {ty:TypeId} {cs:Array Bool} (x y:Int) (w:World):(builtin .min ats ty cs #[.int .i64 x,.int .i64 y]).run P w=.ok (.value (.int .i64 (min x y))) w:=by
 simp [builtin,Go.Lib.run_min_ints]
end Go.Proofs.YtekfkdddadcalaaGreatDoor
namespace Go.Proofs.YtekfkdddadcalaaGreatDoor
open Go Go.RowKit Go.SX
def nx (zs:List Int) (k:Nat) (n:Int):Int:=mj (if k < zs.length then zs.getD k 0 else (IntKind.i64.wrap ((k:Nat)*7)).tmod 11) n
end Go.Proofs.YtekfkdddadcalaaGreatDoor
namespace Go.Proofs.YtekfkdddadcalaaGreatDoor
open Go Go.RowKit Go.SX
end Go.Proofs.YtekfkdddadcalaaGreatDoor
namespace Go.Proofs.YtekfkdddadcalaaGreatDoor
open Go Go.RowKit Go.SX
theorem Ah (a:Option Addr) (len cap:Nat) {pl:List (Nat×Nat)} (hpl:pl=[(0,1),(1,1)]):Instr.fill (fun k=>pl[k]?) Ij.zero [(0,.slice a len cap)]=some (tb (.slice a len cap) 0):=by
 subst hpl
 rfl
end Go.Proofs.YtekfkdddadcalaaGreatDoor
namespace Go.Proofs.YtekfkdddadcalaaGreatDoor
open Go Go.RowKit Go.SX
open ChangeShapes
theorem add_flat (b o n:Nat):(⟨b,o,none⟩:Addr).add n=⟨b,o+n,none⟩:=by simp [Addr.add]
theorem Fq {w:World} {b o:Nat} {v:Value} (h:w.cell? ⟨b,o,none⟩=some v):b < w.heap.size:=by
 by_cases hb:b < w.heap.size
 ·exact hb
 ·have:w.heap[b]? = none:=Array.getElem?_eq_none (by omega)
  simp [World.cell?,this] at h
theorem AI {w w':World} {b o:Nat} (h:w'.heap[b]? = w.heap[b]?):w'.cell? ⟨b,o,none⟩=w.cell? ⟨b,o,none⟩:=by
 simp only [World.cell?,h]
theorem HQ {H:Type} {enc:TypeId×Value->H} {W:World} {fuel nt:Nat} {c:Value} {y:DataW H×List MemPlace} (h:DataW.trod enc Tryz.prog W 0 (fun _=>true) true fuel 22 [c]=some y):∃ zs,Tp (gQ Tryz.prog tt nt W).toEnv c zs:=by
 rcases open_ints Tryz.underlying22 Tryz.underlying3 (by kernel_rfl) h with ⟨hcs,_⟩ | ⟨a,len,cap,zs,hcs,_,hl,hm,hz,_,hcell,_⟩
 ·simp only [List.cons.injEq,and_true] at hcs
  subst hcs
  exact ⟨[],none,0,rfl,fun i hi=>absurd hi (by simp)⟩
 ·simp only [List.cons.injEq,and_true] at hcs
  subst hcs
  simp only [if_true] at hz
  have hlz:(zs.take len).length=len:=by simp;omega
  refine ⟨zs.take len,some a,cap,by rw [hlz],fun i hi=>?_⟩
  rw [hlz] at hi
  have hc:=hcell i (by omega)
  have hsp:=World.cell?_spot (hcell 0 (by omega))
  obtain ⟨b,o,sp⟩:=a
  have h2:sp=none:=by simpa [Addr.add] using hsp
  subst h2
  rw [add_flat] at hc
  have hb:=Fq hc
  refine ⟨⟨b,o+i,none⟩,fun w' hw=>?_,fun w' hw=>?_⟩
  ·simp only [Instr.indexAt,asIntOf,Sem.run_bind,run_underlying Tryz.underlying22,Result.andThen_ok,Sem.run_pure]
   have hcc:0<=(i:Int)/\(i:Int) < (len:Int):=by omega
   simp only [hcc,and_self,if_true,Sem.run_bind,Go.SX.run_sizeOf ee,Result.andThen_ok,Sem.run_pure]
   have e:(i:Int).toNat*ti3.size=i:=by show i*1=i;omega
   rw [e,add_flat]
  ·have hg:(zs.take len).getD i 0=zs.getD i 0:=by simp [hi]
   rw [hg]
   refine dY ee ?_ rfl
   rw [AI (hw.old b hb (by simp))]
   exact hc
end Go.Proofs.YtekfkdddadcalaaGreatDoor
namespace Go.Proofs.YtekfkdddadcalaaGreatDoor
open Go Go.RowKit Go.SX
def Bd (k:Nat) (a:Int):Prop:=a.natAbs<=2 ^ k
theorem Bd.mul {i j:Nat} {a b:Int} (h1:Bd i a) (h2:Bd j b):Bd (i+j) (a*b):=by
 unfold Bd at *
 rw [Int.natAbs_mul,Nat.pow_add]
 exact Nat.mul_le_mul h1 h2
theorem Bd.mono {i j:Nat} {a:Int} (h1:Bd i a) (h:i<=j):Bd j a:=Nat.le_trans h1 (Nat.pow_le_pow_right (by omega) h)
theorem Bd.add {k:Nat} {a b:Int} (h1:Bd k a) (h2:Bd k b):Bd (k+1) (a+b):=by
 unfold Bd at *
 have:=Int.natAbs_add_le a b
 rw [Nat.pow_succ];omega
theorem Bd.lt {k:Nat} {a:Int} (h1:Bd k a) (h:k < 480):a.natAbs < 2 ^ iP:=Nat.lt_of_le_of_lt h1 (Nat.pow_lt_pow_right (by omega) h)
end Go.Proofs.YtekfkdddadcalaaGreatDoor
