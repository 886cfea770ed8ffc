/- PositionSums: the row; no condition. -/
import Derived.Test.YtekfkdddadcalaaGreatDoorPositionSumsQ2
import Derived.Test.YtekfkdddadcalaaGreatDoorP3
set_option maxRecDepth 100000
set_option maxHeartbeats 4000000
namespace Go.Proofs.YtekfkdddadcalaaGreatDoor
open Go Go.RowKit Go.SX
open ChangeShapes WideShapes
theorem positionSums_j0:Rows.positionSumsRow.wf (OpenSpec.ofChange Rows.positionSumsSpec)=true:=by kernel_rfl
theorem positionSums_j3:Tryz.f4.params.all (Tryz.checked.prog.readableRec ·)=true:=by kernel_rfl
theorem positionSums_j4:namedTie Tryz.checked.prog Rows.positionSumsRow.named Rows.positionSumsSpec.vars=true:=by kernel_rfl
theorem positionSums_j5:(Rows.positionSumsRow.stops == [])=true:=by kernel_rfl
theorem positionSums_j7:(Rows.positionSumsRow.knobs == [])=true:=by kernel_rfl
theorem positionSums_j9:(Rows.positionSumsRow.inPlace == Tryz.checked.prog.inPlace 4)=true:=by kernel_rfl
theorem positionSums_j10:(Rows.positionSumsRow.unfollowed == Tryz.checked.prog.unfollowed 4)=true:=by kernel_rfl
theorem positionSums_j11:(Rows.positionSumsRow.recurses == Tryz.checked.prog.recurses 4)=true:=by kernel_rfl
theorem positionSums_j12:(Rows.positionSumsRow.named == Tryz.checked.prog.varsNamed 4)=true:=by kernel_rfl
theorem positionSums_j13:(Rows.positionSumsRow.maps == (Tryz.f4.params.toList++Rows.positionSumsSpec.plain.varTypes Tryz.checked.prog).any (Tryz.checked.prog.mapsRec ·))=true:=by kernel_rfl
theorem positionSums_j14:(Rows.positionSumsRow.ifaces == (Tryz.f4.params.toList++Rows.positionSumsSpec.plain.varTypes Tryz.checked.prog).any (Tryz.checked.prog.ifacesRec ·))=true:=by kernel_rfl
theorem positionSums_j15:(Rows.positionSumsRow.mapsOut == Tryz.checked.prog.mapsAmong Tryz.f4.resultTypes.toList)=true:=by kernel_rfl
theorem positionSums_j16:(Rows.positionSumsRow.loops == (Tryz.f4.params.toList++Rows.positionSumsSpec.plain.varTypes Tryz.checked.prog).any (Tryz.checked.prog.loopsFrom ·))=true:=by kernel_rfl
theorem positionSums_j17:(Rows.positionSumsRow.wideKeys == (Tryz.f4.params.toList++Rows.positionSumsSpec.plain.varTypes Tryz.checked.prog++Tryz.f4.resultTypes.toList).any (Tryz.checked.prog.wideKeysFrom ·))=true:=by kernel_rfl
theorem positionSums_j18:Rows.positionSumsSpec.vars.all (Tryz.checked.prog.varReadable ·)=true:=by kernel_rfl
theorem positionSums_j19:Tryz.f4.resultTypes.all (fun t=>Tryz.checked.prog.readableRec t && decide (t < Tryz.checked.prog.types.size))=true:=by kernel_rfl
theorem positionSums_j20:(Rows.positionSumsRow.ifacesOut == Tryz.f4.resultTypes.toList.any (Tryz.checked.prog.ifacesRec ·))=true:=by kernel_rfl
theorem positionSums_j21:(Rows.positionSumsRow.loopsOut == Tryz.f4.resultTypes.toList.any (Tryz.checked.prog.loopsFrom ·))=true:=by kernel_rfl
theorem positionSums_j22:(Rows.positionSumsRow.plainKeys == Tryz.checked.prog.plainKeys)=true:=by kernel_rfl
theorem positionSums_j23:Rows.positionSumsRow.shortTexts.isNone=true:=by kernel_rfl
theorem positionSums_j26:(Rows.positionSumsRow.lifted == Tryz.checked.prog.liftsFinal)=true:=jfl
theorem positionSums_j27:(Tryz.checked.prog.make == some Rows.positionSumsRow.make)=true:=by kernel_rfl
theorem positionSums_j28:(Rows.positionSumsRow.kinds == (if Rows.positionSumsRow.domain.isEmpty then [] else Tryz.f4.params.toList.map fun t=>match Tryz.checked.prog.underlying t with | some (.int k)=>some k | _=>none))=true:=by kernel_rfl
theorem positionSums_j29:(Rows.positionSumsRow.pinned == Rows.positionSumsRow.pinnedBy)=true:=by kernel_rfl
theorem positionSums_j30:(Rows.positionSumsRow.veiled == (Tryz.f4.params.toList++Rows.positionSumsSpec.plain.varTypes Tryz.checked.prog++Tryz.f4.resultTypes.toList).any (Tryz.checked.prog.veiledRec ·))=true:=by kernel_rfl
theorem positionSums_j31:Rows.positionSumsRow.veiledFits Tryz.checked.prog Tryz.f4.params.toList (Tryz.f4.params.toList++Rows.positionSumsSpec.plain.varTypes Tryz.checked.prog++Tryz.f4.resultTypes.toList)=true:=by kernel_rfl
theorem positionSums_named:Tryz.checked.prog.funcNamed Rows.positionSumsRow.func=some 4:=by kernel_rfl
theorem positionSums_inst:Tryz.f4.isInstance Tryz.checked.prog Rows.positionSumsRow.origin Rows.positionSumsRow.targs:=of_decide_eq_true (by kernel_rfl)
theorem positionSums_wrap:Tryz.f4.isWrapper Tryz.checked.prog Rows.positionSumsRow.wrapper Rows.positionSumsRow.mainSum:=by unfold Func.isWrapper;first | (rw [if_pos (by decide +kernel)];kernel_rfl) | (rw [if_neg (by decide +kernel)];exact ⟨rfl,rfl⟩)
theorem positionSums_holds:Rows.PositionSumsSaid :=
 OpenClaim.holds_of_wide 4 Tryz.f4 rfl rfl rfl rfl rfl rfl rfl ⟨rfl,rfl,rfl,rfl,rfl⟩ rfl rfl rfl rfl rfl positionSums_named Tryz.func4 (joinedFacts_of positionSums_j0 jf1 jf2 positionSums_j3 positionSums_j4 positionSums_j5 jf6 positionSums_j7 jf8 positionSums_j9 positionSums_j10 positionSums_j11 positionSums_j12 positionSums_j13 positionSums_j14 positionSums_j15 positionSums_j16 positionSums_j17 positionSums_j18 positionSums_j19 positionSums_j20 positionSums_j21 positionSums_j22 positionSums_j23 jf24 jf25 positionSums_j26 positionSums_j27 positionSums_j28 positionSums_j29 positionSums_j30 positionSums_j31) positionSums_inst positionSums_wrap
  (fun os started H enc _=>positionSums_lifted os started H enc)
end Go.Proofs.YtekfkdddadcalaaGreatDoor
