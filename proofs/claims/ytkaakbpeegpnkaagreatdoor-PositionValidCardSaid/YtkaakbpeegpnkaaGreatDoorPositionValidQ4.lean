/- PositionValid: the row; no condition. -/
import Derived.Test.YtkaakbpeegpnkaaGreatDoorPositionValidQ3
import Derived.Test.YtkaakbpeegpnkaaGreatDoorP3
set_option maxRecDepth 100000
set_option maxHeartbeats 4000000
namespace Go.Proofs.YtkaakbpeegpnkaaGreatDoor
open Go Go.RowKit Go.SX
open ChangeShapes WideShapes
theorem positionValid_j0:Rows.positionValidRow.wf (OpenSpec.ofChange Rows.positionValidSpec)=true:=by kernel_rfl
theorem positionValid_j3:Tryz.f4.params.all (Tryz.checked.prog.readableRec ·)=true:=by kernel_rfl
theorem positionValid_j4:namedTie Tryz.checked.prog Rows.positionValidRow.named Rows.positionValidSpec.vars=true:=by kernel_rfl
theorem positionValid_j5:(Rows.positionValidRow.stops == [])=true:=by kernel_rfl
theorem positionValid_j7:(Rows.positionValidRow.knobs == [])=true:=by kernel_rfl
theorem positionValid_j9:(Rows.positionValidRow.inPlace == Tryz.checked.prog.inPlace 4)=true:=by kernel_rfl
theorem positionValid_j10:(Rows.positionValidRow.unfollowed == Tryz.checked.prog.unfollowed 4)=true:=by kernel_rfl
theorem positionValid_j11:(Rows.positionValidRow.recurses == Tryz.checked.prog.recurses 4)=true:=by kernel_rfl
theorem positionValid_j12:(Rows.positionValidRow.named == Tryz.checked.prog.varsNamed 4)=true:=by kernel_rfl
theorem positionValid_j13:(Rows.positionValidRow.maps == (Tryz.f4.params.toList++Rows.positionValidSpec.plain.varTypes Tryz.checked.prog).any (Tryz.checked.prog.mapsRec ·))=true:=by kernel_rfl
theorem positionValid_j14:(Rows.positionValidRow.ifaces == (Tryz.f4.params.toList++Rows.positionValidSpec.plain.varTypes Tryz.checked.prog).any (Tryz.checked.prog.ifacesRec ·))=true:=by kernel_rfl
theorem positionValid_j15:(Rows.positionValidRow.mapsOut == Tryz.checked.prog.mapsAmong Tryz.f4.resultTypes.toList)=true:=by kernel_rfl
theorem positionValid_j16:(Rows.positionValidRow.loops == (Tryz.f4.params.toList++Rows.positionValidSpec.plain.varTypes Tryz.checked.prog).any (Tryz.checked.prog.loopsFrom ·))=true:=by kernel_rfl
theorem positionValid_j17:(Rows.positionValidRow.wideKeys == (Tryz.f4.params.toList++Rows.positionValidSpec.plain.varTypes Tryz.checked.prog++Tryz.f4.resultTypes.toList).any (Tryz.checked.prog.wideKeysFrom ·))=true:=by kernel_rfl
theorem positionValid_j18:Rows.positionValidSpec.vars.all (Tryz.checked.prog.varReadable ·)=true:=by kernel_rfl
theorem positionValid_j19:Tryz.f4.resultTypes.all (fun t=>Tryz.checked.prog.readableRec t && decide (t < Tryz.checked.prog.types.size))=true:=by kernel_rfl
theorem positionValid_j20:(Rows.positionValidRow.ifacesOut == Tryz.f4.resultTypes.toList.any (Tryz.checked.prog.ifacesRec ·))=true:=by kernel_rfl
theorem positionValid_j21:(Rows.positionValidRow.loopsOut == Tryz.f4.resultTypes.toList.any (Tryz.checked.prog.loopsFrom ·))=true:=by kernel_rfl
theorem positionValid_j22:(Rows.positionValidRow.plainKeys == Tryz.checked.prog.plainKeys)=true:=by kernel_rfl
theorem positionValid_j23:Rows.positionValidRow.shortTexts.isNone=true:=by kernel_rfl
theorem positionValid_j26:(Rows.positionValidRow.lifted == Tryz.checked.prog.liftsFinal)=true:=jfl
theorem positionValid_j27:(Tryz.checked.prog.make == some Rows.positionValidRow.make)=true:=by kernel_rfl
theorem positionValid_j28:(Rows.positionValidRow.kinds == (if Rows.positionValidRow.domain.isEmpty then [] else Tryz.f4.params.toList.map fun t=>match Tryz.checked.prog.underlying t with | some (.int k)=>some k | _=>none))=true:=by kernel_rfl
theorem positionValid_j29:(Rows.positionValidRow.pinned == Rows.positionValidRow.pinnedBy)=true:=by kernel_rfl
theorem positionValid_j30:(Rows.positionValidRow.veiled == (Tryz.f4.params.toList++Rows.positionValidSpec.plain.varTypes Tryz.checked.prog++Tryz.f4.resultTypes.toList).any (Tryz.checked.prog.veiledRec ·))=true:=by kernel_rfl
theorem positionValid_j31:Rows.positionValidRow.veiledFits Tryz.checked.prog Tryz.f4.params.toList (Tryz.f4.params.toList++Rows.positionValidSpec.plain.varTypes Tryz.checked.prog++Tryz.f4.resultTypes.toList)=true:=by kernel_rfl
theorem positionValid_named:Tryz.checked.prog.funcNamed Rows.positionValidRow.func=some 4:=by kernel_rfl
theorem positionValid_inst:Tryz.f4.isInstance Tryz.checked.prog Rows.positionValidRow.origin Rows.positionValidRow.targs:=of_decide_eq_true (by kernel_rfl)
theorem positionValid_wrap:Tryz.f4.isWrapper Tryz.checked.prog Rows.positionValidRow.wrapper Rows.positionValidRow.mainSum:=by unfold Func.isWrapper;first | (rw [if_pos (by decide +kernel)];kernel_rfl) | (rw [if_neg (by decide +kernel)];exact ⟨rfl,rfl⟩)
theorem positionValid_holds:Rows.PositionValidSaid :=
 OpenClaim.holds_of_wide 4 Tryz.f4 rfl rfl rfl rfl rfl rfl rfl ⟨rfl,rfl,rfl,rfl,rfl⟩ rfl rfl rfl rfl rfl positionValid_named Tryz.func4 (joinedFacts_of positionValid_j0 jf1 jf2 positionValid_j3 positionValid_j4 positionValid_j5 jf6 positionValid_j7 jf8 positionValid_j9 positionValid_j10 positionValid_j11 positionValid_j12 positionValid_j13 positionValid_j14 positionValid_j15 positionValid_j16 positionValid_j17 positionValid_j18 positionValid_j19 positionValid_j20 positionValid_j21 positionValid_j22 positionValid_j23 jf24 jf25 positionValid_j26 positionValid_j27 positionValid_j28 positionValid_j29 positionValid_j30 positionValid_j31) positionValid_inst positionValid_wrap
  (fun os started H enc _=>positionValid_lifted os started H enc)
end Go.Proofs.YtkaakbpeegpnkaaGreatDoor
