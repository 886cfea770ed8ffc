/- PositionLater: the row; no condition. -/
import Derived.Test.YtekfkdddadcalaaGreatDoorPositionLaterQ32
import Derived.Test.YtekfkdddadcalaaGreatDoorPositionLaterQ3
set_option maxRecDepth 100000
set_option maxHeartbeats 4000000
namespace Go.Proofs.YtekfkdddadcalaaGreatDoor
open Go Go.RowKit Go.SX
open ChangeShapes WideShapes
theorem positionLater_j0:Rows.positionLaterRow.wf (OpenSpec.ofChange Rows.positionLaterSpec)=true:=by kernel_rfl
theorem positionLater_j3:Tryz.f5.params.all (Tryz.checked.prog.readableRec ·)=true:=by kernel_rfl
theorem positionLater_j4:namedTie Tryz.checked.prog Rows.positionLaterRow.named Rows.positionLaterSpec.vars=true:=by kernel_rfl
theorem positionLater_j5:(Rows.positionLaterRow.stops == [])=true:=by kernel_rfl
theorem positionLater_j7:(Rows.positionLaterRow.knobs == [])=true:=by kernel_rfl
theorem positionLater_j9:(Rows.positionLaterRow.inPlace == Tryz.checked.prog.inPlace 5)=true:=by kernel_rfl
theorem positionLater_j10:(Rows.positionLaterRow.unfollowed == Tryz.checked.prog.unfollowed 5)=true:=by kernel_rfl
theorem positionLater_j11:(Rows.positionLaterRow.recurses == Tryz.checked.prog.recurses 5)=true:=by kernel_rfl
theorem positionLater_j12:(Rows.positionLaterRow.named == Tryz.checked.prog.varsNamed 5)=true:=by kernel_rfl
theorem positionLater_j13:(Rows.positionLaterRow.maps == (Tryz.f5.params.toList++Rows.positionLaterSpec.plain.varTypes Tryz.checked.prog).any (Tryz.checked.prog.mapsRec ·))=true:=by kernel_rfl
theorem positionLater_j14:(Rows.positionLaterRow.ifaces == (Tryz.f5.params.toList++Rows.positionLaterSpec.plain.varTypes Tryz.checked.prog).any (Tryz.checked.prog.ifacesRec ·))=true:=by kernel_rfl
theorem positionLater_j15:(Rows.positionLaterRow.mapsOut == Tryz.checked.prog.mapsAmong Tryz.f5.resultTypes.toList)=true:=by kernel_rfl
theorem positionLater_j16:(Rows.positionLaterRow.loops == (Tryz.f5.params.toList++Rows.positionLaterSpec.plain.varTypes Tryz.checked.prog).any (Tryz.checked.prog.loopsFrom ·))=true:=by kernel_rfl
theorem positionLater_j17:(Rows.positionLaterRow.wideKeys == (Tryz.f5.params.toList++Rows.positionLaterSpec.plain.varTypes Tryz.checked.prog++Tryz.f5.resultTypes.toList).any (Tryz.checked.prog.wideKeysFrom ·))=true:=by kernel_rfl
theorem positionLater_j18:Rows.positionLaterSpec.vars.all (Tryz.checked.prog.varReadable ·)=true:=by kernel_rfl
theorem positionLater_j19:Tryz.f5.resultTypes.all (fun t=>Tryz.checked.prog.readableRec t && decide (t < Tryz.checked.prog.types.size))=true:=by kernel_rfl
theorem positionLater_j20:(Rows.positionLaterRow.ifacesOut == Tryz.f5.resultTypes.toList.any (Tryz.checked.prog.ifacesRec ·))=true:=by kernel_rfl
theorem positionLater_j21:(Rows.positionLaterRow.loopsOut == Tryz.f5.resultTypes.toList.any (Tryz.checked.prog.loopsFrom ·))=true:=by kernel_rfl
theorem positionLater_j22:(Rows.positionLaterRow.plainKeys == Tryz.checked.prog.plainKeys)=true:=by kernel_rfl
theorem positionLater_j23:Rows.positionLaterRow.shortTexts.isNone=true:=by kernel_rfl
theorem positionLater_j26:(Rows.positionLaterRow.lifted == Tryz.checked.prog.liftsFinal)=true:=jfl
theorem positionLater_j27:(Tryz.checked.prog.make == some Rows.positionLaterRow.make)=true:=by kernel_rfl
theorem positionLater_j28:(Rows.positionLaterRow.kinds == (if Rows.positionLaterRow.domain.isEmpty then [] else Tryz.f5.params.toList.map fun t=>match Tryz.checked.prog.underlying t with | some (.int k)=>some k | _=>none))=true:=by kernel_rfl
theorem positionLater_j29:(Rows.positionLaterRow.pinned == Rows.positionLaterRow.pinnedBy)=true:=by kernel_rfl
theorem positionLater_j30:(Rows.positionLaterRow.veiled == (Tryz.f5.params.toList++Rows.positionLaterSpec.plain.varTypes Tryz.checked.prog++Tryz.f5.resultTypes.toList).any (Tryz.checked.prog.veiledRec ·))=true:=by kernel_rfl
theorem positionLater_j31:Rows.positionLaterRow.veiledFits Tryz.checked.prog Tryz.f5.params.toList (Tryz.f5.params.toList++Rows.positionLaterSpec.plain.varTypes Tryz.checked.prog++Tryz.f5.resultTypes.toList)=true:=by kernel_rfl
theorem positionLater_named:Tryz.checked.prog.funcNamed Rows.positionLaterRow.func=some 5:=by kernel_rfl
theorem positionLater_inst:Tryz.f5.isInstance Tryz.checked.prog Rows.positionLaterRow.origin Rows.positionLaterRow.targs:=of_decide_eq_true (by kernel_rfl)
theorem positionLater_wrap:Tryz.f5.isWrapper Tryz.checked.prog Rows.positionLaterRow.wrapper Rows.positionLaterRow.mainSum:=by unfold Func.isWrapper;first | (rw [if_pos (by decide +kernel)];kernel_rfl) | (rw [if_neg (by decide +kernel)];exact ⟨rfl,rfl⟩)
theorem positionLater_holds:Rows.PositionLaterSaid :=
 OpenClaim.holds_of_wide 5 Tryz.f5 rfl rfl rfl rfl rfl rfl rfl ⟨rfl,rfl,rfl,rfl,rfl⟩ rfl rfl rfl rfl rfl positionLater_named Tryz.func5 (joinedFacts_of positionLater_j0 jf1 jf2 positionLater_j3 positionLater_j4 positionLater_j5 jf6 positionLater_j7 jf8 positionLater_j9 positionLater_j10 positionLater_j11 positionLater_j12 positionLater_j13 positionLater_j14 positionLater_j15 positionLater_j16 positionLater_j17 positionLater_j18 positionLater_j19 positionLater_j20 positionLater_j21 positionLater_j22 positionLater_j23 jf24 jf25 positionLater_j26 positionLater_j27 positionLater_j28 positionLater_j29 positionLater_j30 positionLater_j31) positionLater_inst positionLater_wrap
  (fun os started H enc _=>positionLater_lifted os started H enc)
end Go.Proofs.YtekfkdddadcalaaGreatDoor
