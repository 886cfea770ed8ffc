/- PositionBent: the row; no condition. -/
import Derived.Test.YtekfkdddadcalaaGreatDoorPositionBentQ32
import Derived.Test.YtekfkdddadcalaaGreatDoorPositionBentQ3
set_option maxRecDepth 100000
set_option maxHeartbeats 4000000
namespace Go.Proofs.YtekfkdddadcalaaGreatDoor
open Go Go.RowKit Go.SX
open ChangeShapes WideShapes
theorem positionBent_j0:Rows.positionBentRow.wf (OpenSpec.ofChange Rows.positionBentSpec)=true:=by kernel_rfl
theorem positionBent_j3:Tryz.f10.params.all (Tryz.checked.prog.readableRec ·)=true:=by kernel_rfl
theorem positionBent_j4:namedTie Tryz.checked.prog Rows.positionBentRow.named Rows.positionBentSpec.vars=true:=by kernel_rfl
theorem positionBent_j5:(Rows.positionBentRow.stops == [])=true:=by kernel_rfl
theorem positionBent_j7:(Rows.positionBentRow.knobs == [])=true:=by kernel_rfl
theorem positionBent_j9:(Rows.positionBentRow.inPlace == Tryz.checked.prog.inPlace 10)=true:=by kernel_rfl
theorem positionBent_j10:(Rows.positionBentRow.unfollowed == Tryz.checked.prog.unfollowed 10)=true:=by kernel_rfl
theorem positionBent_j11:(Rows.positionBentRow.recurses == Tryz.checked.prog.recurses 10)=true:=by kernel_rfl
theorem positionBent_j12:(Rows.positionBentRow.named == Tryz.checked.prog.varsNamed 10)=true:=by kernel_rfl
theorem positionBent_j13:(Rows.positionBentRow.maps == (Tryz.f10.params.toList++Rows.positionBentSpec.plain.varTypes Tryz.checked.prog).any (Tryz.checked.prog.mapsRec ·))=true:=by kernel_rfl
theorem positionBent_j14:(Rows.positionBentRow.ifaces == (Tryz.f10.params.toList++Rows.positionBentSpec.plain.varTypes Tryz.checked.prog).any (Tryz.checked.prog.ifacesRec ·))=true:=by kernel_rfl
theorem positionBent_j15:(Rows.positionBentRow.mapsOut == Tryz.checked.prog.mapsAmong Tryz.f10.resultTypes.toList)=true:=by kernel_rfl
theorem positionBent_j16:(Rows.positionBentRow.loops == (Tryz.f10.params.toList++Rows.positionBentSpec.plain.varTypes Tryz.checked.prog).any (Tryz.checked.prog.loopsFrom ·))=true:=by kernel_rfl
theorem positionBent_j17:(Rows.positionBentRow.wideKeys == (Tryz.f10.params.toList++Rows.positionBentSpec.plain.varTypes Tryz.checked.prog++Tryz.f10.resultTypes.toList).any (Tryz.checked.prog.wideKeysFrom ·))=true:=by kernel_rfl
theorem positionBent_j18:Rows.positionBentSpec.vars.all (Tryz.checked.prog.varReadable ·)=true:=by kernel_rfl
theorem positionBent_j19:Tryz.f10.resultTypes.all (fun t=>Tryz.checked.prog.readableRec t && decide (t < Tryz.checked.prog.types.size))=true:=by kernel_rfl
theorem positionBent_j20:(Rows.positionBentRow.ifacesOut == Tryz.f10.resultTypes.toList.any (Tryz.checked.prog.ifacesRec ·))=true:=by kernel_rfl
theorem positionBent_j21:(Rows.positionBentRow.loopsOut == Tryz.f10.resultTypes.toList.any (Tryz.checked.prog.loopsFrom ·))=true:=by kernel_rfl
theorem positionBent_j22:(Rows.positionBentRow.plainKeys == Tryz.checked.prog.plainKeys)=true:=by kernel_rfl
theorem positionBent_j23:Rows.positionBentRow.shortTexts.isNone=true:=by kernel_rfl
theorem positionBent_j26:(Rows.positionBentRow.lifted == Tryz.checked.prog.liftsFinal)=true:=jfl
theorem positionBent_j27:(Tryz.checked.prog.make == some Rows.positionBentRow.make)=true:=by kernel_rfl
theorem positionBent_j28:(Rows.positionBentRow.kinds == (if Rows.positionBentRow.domain.isEmpty then [] else Tryz.f10.params.toList.map fun t=>match Tryz.checked.prog.underlying t with | some (.int k)=>some k | _=>none))=true:=by kernel_rfl
theorem positionBent_j29:(Rows.positionBentRow.pinned == Rows.positionBentRow.pinnedBy)=true:=by kernel_rfl
theorem positionBent_j30:(Rows.positionBentRow.veiled == (Tryz.f10.params.toList++Rows.positionBentSpec.plain.varTypes Tryz.checked.prog++Tryz.f10.resultTypes.toList).any (Tryz.checked.prog.veiledRec ·))=true:=by kernel_rfl
theorem positionBent_j31:Rows.positionBentRow.veiledFits Tryz.checked.prog Tryz.f10.params.toList (Tryz.f10.params.toList++Rows.positionBentSpec.plain.varTypes Tryz.checked.prog++Tryz.f10.resultTypes.toList)=true:=by kernel_rfl
theorem positionBent_named:Tryz.checked.prog.funcNamed Rows.positionBentRow.func=some 10:=by kernel_rfl
theorem positionBent_inst:Tryz.f10.isInstance Tryz.checked.prog Rows.positionBentRow.origin Rows.positionBentRow.targs:=of_decide_eq_true (by kernel_rfl)
theorem positionBent_wrap:Tryz.f10.isWrapper Tryz.checked.prog Rows.positionBentRow.wrapper Rows.positionBentRow.mainSum:=by unfold Func.isWrapper;first | (rw [if_pos (by decide +kernel)];kernel_rfl) | (rw [if_neg (by decide +kernel)];exact ⟨rfl,rfl⟩)
theorem positionBent_holds:Rows.PositionBentSaid :=
 OpenClaim.holds_of_wide 10 Tryz.f10 rfl rfl rfl rfl rfl rfl rfl ⟨rfl,rfl,rfl,rfl,rfl⟩ rfl rfl rfl rfl rfl positionBent_named Tryz.func10 (joinedFacts_of positionBent_j0 jf1 jf2 positionBent_j3 positionBent_j4 positionBent_j5 jf6 positionBent_j7 jf8 positionBent_j9 positionBent_j10 positionBent_j11 positionBent_j12 positionBent_j13 positionBent_j14 positionBent_j15 positionBent_j16 positionBent_j17 positionBent_j18 positionBent_j19 positionBent_j20 positionBent_j21 positionBent_j22 positionBent_j23 jf24 jf25 positionBent_j26 positionBent_j27 positionBent_j28 positionBent_j29 positionBent_j30 positionBent_j31) positionBent_inst positionBent_wrap
  (fun os started H enc _=>positionBent_lifted os started H enc)
end Go.Proofs.YtekfkdddadcalaaGreatDoor
