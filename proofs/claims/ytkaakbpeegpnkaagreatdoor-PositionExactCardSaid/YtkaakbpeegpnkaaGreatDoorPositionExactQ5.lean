/- PositionExact: the row; no condition. -/
import Derived.Test.YtkaakbpeegpnkaaGreatDoorPositionExactQ4
import Derived.Test.YtkaakbpeegpnkaaGreatDoorP3
set_option maxRecDepth 100000
set_option maxHeartbeats 4000000
namespace Go.Proofs.YtkaakbpeegpnkaaGreatDoor
open Go Go.RowKit Go.SX
open ChangeShapes WideShapes
theorem positionExact_j0:Rows.positionExactRow.wf (OpenSpec.ofChange Rows.positionExactSpec)=true:=by kernel_rfl
theorem positionExact_j3:Tryz.f3.params.all (Tryz.checked.prog.readableRec ·)=true:=by kernel_rfl
theorem positionExact_j4:namedTie Tryz.checked.prog Rows.positionExactRow.named Rows.positionExactSpec.vars=true:=by kernel_rfl
theorem positionExact_j5:(Rows.positionExactRow.stops == [])=true:=by kernel_rfl
theorem positionExact_j7:(Rows.positionExactRow.knobs == [])=true:=by kernel_rfl
theorem positionExact_j9:(Rows.positionExactRow.inPlace == Tryz.checked.prog.inPlace 3)=true:=by kernel_rfl
theorem positionExact_j10:(Rows.positionExactRow.unfollowed == Tryz.checked.prog.unfollowed 3)=true:=by kernel_rfl
theorem positionExact_j11:(Rows.positionExactRow.recurses == Tryz.checked.prog.recurses 3)=true:=by kernel_rfl
theorem positionExact_j12:(Rows.positionExactRow.named == Tryz.checked.prog.varsNamed 3)=true:=by kernel_rfl
theorem positionExact_j13:(Rows.positionExactRow.maps == (Tryz.f3.params.toList++Rows.positionExactSpec.plain.varTypes Tryz.checked.prog).any (Tryz.checked.prog.mapsRec ·))=true:=by kernel_rfl
theorem positionExact_j14:(Rows.positionExactRow.ifaces == (Tryz.f3.params.toList++Rows.positionExactSpec.plain.varTypes Tryz.checked.prog).any (Tryz.checked.prog.ifacesRec ·))=true:=by kernel_rfl
theorem positionExact_j15:(Rows.positionExactRow.mapsOut == Tryz.checked.prog.mapsAmong Tryz.f3.resultTypes.toList)=true:=by kernel_rfl
theorem positionExact_j16:(Rows.positionExactRow.loops == (Tryz.f3.params.toList++Rows.positionExactSpec.plain.varTypes Tryz.checked.prog).any (Tryz.checked.prog.loopsFrom ·))=true:=by kernel_rfl
theorem positionExact_j17:(Rows.positionExactRow.wideKeys == (Tryz.f3.params.toList++Rows.positionExactSpec.plain.varTypes Tryz.checked.prog++Tryz.f3.resultTypes.toList).any (Tryz.checked.prog.wideKeysFrom ·))=true:=by kernel_rfl
theorem positionExact_j18:Rows.positionExactSpec.vars.all (Tryz.checked.prog.varReadable ·)=true:=by kernel_rfl
theorem positionExact_j19:Tryz.f3.resultTypes.all (fun t=>Tryz.checked.prog.readableRec t && decide (t < Tryz.checked.prog.types.size))=true:=by kernel_rfl
theorem positionExact_j20:(Rows.positionExactRow.ifacesOut == Tryz.f3.resultTypes.toList.any (Tryz.checked.prog.ifacesRec ·))=true:=by kernel_rfl
theorem positionExact_j21:(Rows.positionExactRow.loopsOut == Tryz.f3.resultTypes.toList.any (Tryz.checked.prog.loopsFrom ·))=true:=by kernel_rfl
theorem positionExact_j22:(Rows.positionExactRow.plainKeys == Tryz.checked.prog.plainKeys)=true:=by kernel_rfl
theorem positionExact_j23:Rows.positionExactRow.shortTexts.isNone=true:=by kernel_rfl
theorem positionExact_j26:(Rows.positionExactRow.lifted == Tryz.checked.prog.liftsFinal)=true:=jfl
theorem positionExact_j27:(Tryz.checked.prog.make == some Rows.positionExactRow.make)=true:=by kernel_rfl
theorem positionExact_j28:(Rows.positionExactRow.kinds == (if Rows.positionExactRow.domain.isEmpty then [] else Tryz.f3.params.toList.map fun t=>match Tryz.checked.prog.underlying t with | some (.int k)=>some k | _=>none))=true:=by kernel_rfl
theorem positionExact_j29:(Rows.positionExactRow.pinned == Rows.positionExactRow.pinnedBy)=true:=by kernel_rfl
theorem positionExact_j30:(Rows.positionExactRow.veiled == (Tryz.f3.params.toList++Rows.positionExactSpec.plain.varTypes Tryz.checked.prog++Tryz.f3.resultTypes.toList).any (Tryz.checked.prog.veiledRec ·))=true:=by kernel_rfl
theorem positionExact_j31:Rows.positionExactRow.veiledFits Tryz.checked.prog Tryz.f3.params.toList (Tryz.f3.params.toList++Rows.positionExactSpec.plain.varTypes Tryz.checked.prog++Tryz.f3.resultTypes.toList)=true:=by kernel_rfl
theorem positionExact_named:Tryz.checked.prog.funcNamed Rows.positionExactRow.func=some 3:=by kernel_rfl
theorem positionExact_inst:Tryz.f3.isInstance Tryz.checked.prog Rows.positionExactRow.origin Rows.positionExactRow.targs:=of_decide_eq_true (by kernel_rfl)
theorem positionExact_wrap:Tryz.f3.isWrapper Tryz.checked.prog Rows.positionExactRow.wrapper Rows.positionExactRow.mainSum:=by unfold Func.isWrapper;first | (rw [if_pos (by decide +kernel)];kernel_rfl) | (rw [if_neg (by decide +kernel)];exact ⟨rfl,rfl⟩)
theorem positionExact_holds:Rows.PositionExactSaid :=
 OpenClaim.holds_of_wide 3 Tryz.f3 rfl rfl rfl rfl rfl rfl rfl ⟨rfl,rfl,rfl,rfl,rfl⟩ rfl rfl rfl rfl rfl positionExact_named Tryz.func3 (joinedFacts_of positionExact_j0 jf1 jf2 positionExact_j3 positionExact_j4 positionExact_j5 jf6 positionExact_j7 jf8 positionExact_j9 positionExact_j10 positionExact_j11 positionExact_j12 positionExact_j13 positionExact_j14 positionExact_j15 positionExact_j16 positionExact_j17 positionExact_j18 positionExact_j19 positionExact_j20 positionExact_j21 positionExact_j22 positionExact_j23 jf24 jf25 positionExact_j26 positionExact_j27 positionExact_j28 positionExact_j29 positionExact_j30 positionExact_j31) positionExact_inst positionExact_wrap
  (fun os started H enc _=>positionExact_lifted os started H enc)
end Go.Proofs.YtkaakbpeegpnkaaGreatDoor
