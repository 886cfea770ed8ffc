/- PositionSettles: the row; no condition. -/
import Derived.Test.YtekfkdddadcalaaGreatDoorPositionSettlesQ2
import Derived.Test.YtekfkdddadcalaaGreatDoorP3
set_option maxRecDepth 100000
set_option maxHeartbeats 4000000
namespace Go.Proofs.YtekfkdddadcalaaGreatDoor
open Go Go.RowKit Go.SX
open ChangeShapes WideShapes
theorem positionSettles_j0:Rows.positionSettlesRow.wf (OpenSpec.ofChange Rows.positionSettlesSpec)=true:=by kernel_rfl
theorem positionSettles_j3:Tryz.f7.params.all (Tryz.checked.prog.readableRec ·)=true:=by kernel_rfl
theorem positionSettles_j4:namedTie Tryz.checked.prog Rows.positionSettlesRow.named Rows.positionSettlesSpec.vars=true:=by kernel_rfl
theorem positionSettles_j5:(Rows.positionSettlesRow.stops == [])=true:=by kernel_rfl
theorem positionSettles_j7:(Rows.positionSettlesRow.knobs == [])=true:=by kernel_rfl
theorem positionSettles_j9:(Rows.positionSettlesRow.inPlace == Tryz.checked.prog.inPlace 7)=true:=by kernel_rfl
theorem positionSettles_j10:(Rows.positionSettlesRow.unfollowed == Tryz.checked.prog.unfollowed 7)=true:=by kernel_rfl
theorem positionSettles_j11:(Rows.positionSettlesRow.recurses == Tryz.checked.prog.recurses 7)=true:=by kernel_rfl
theorem positionSettles_j12:(Rows.positionSettlesRow.named == Tryz.checked.prog.varsNamed 7)=true:=by kernel_rfl
theorem positionSettles_j13:(Rows.positionSettlesRow.maps == (Tryz.f7.params.toList++Rows.positionSettlesSpec.plain.varTypes Tryz.checked.prog).any (Tryz.checked.prog.mapsRec ·))=true:=by kernel_rfl
theorem positionSettles_j14:(Rows.positionSettlesRow.ifaces == (Tryz.f7.params.toList++Rows.positionSettlesSpec.plain.varTypes Tryz.checked.prog).any (Tryz.checked.prog.ifacesRec ·))=true:=by kernel_rfl
theorem positionSettles_j15:(Rows.positionSettlesRow.mapsOut == Tryz.checked.prog.mapsAmong Tryz.f7.resultTypes.toList)=true:=by kernel_rfl
theorem positionSettles_j16:(Rows.positionSettlesRow.loops == (Tryz.f7.params.toList++Rows.positionSettlesSpec.plain.varTypes Tryz.checked.prog).any (Tryz.checked.prog.loopsFrom ·))=true:=by kernel_rfl
theorem positionSettles_j17:(Rows.positionSettlesRow.wideKeys == (Tryz.f7.params.toList++Rows.positionSettlesSpec.plain.varTypes Tryz.checked.prog++Tryz.f7.resultTypes.toList).any (Tryz.checked.prog.wideKeysFrom ·))=true:=by kernel_rfl
theorem positionSettles_j18:Rows.positionSettlesSpec.vars.all (Tryz.checked.prog.varReadable ·)=true:=by kernel_rfl
theorem positionSettles_j19:Tryz.f7.resultTypes.all (fun t=>Tryz.checked.prog.readableRec t && decide (t < Tryz.checked.prog.types.size))=true:=by kernel_rfl
theorem positionSettles_j20:(Rows.positionSettlesRow.ifacesOut == Tryz.f7.resultTypes.toList.any (Tryz.checked.prog.ifacesRec ·))=true:=by kernel_rfl
theorem positionSettles_j21:(Rows.positionSettlesRow.loopsOut == Tryz.f7.resultTypes.toList.any (Tryz.checked.prog.loopsFrom ·))=true:=by kernel_rfl
theorem positionSettles_j22:(Rows.positionSettlesRow.plainKeys == Tryz.checked.prog.plainKeys)=true:=by kernel_rfl
theorem positionSettles_j23:Rows.positionSettlesRow.shortTexts.isNone=true:=by kernel_rfl
theorem positionSettles_j26:(Rows.positionSettlesRow.lifted == Tryz.checked.prog.liftsFinal)=true:=jfl
theorem positionSettles_j27:(Tryz.checked.prog.make == some Rows.positionSettlesRow.make)=true:=by kernel_rfl
theorem positionSettles_j28:(Rows.positionSettlesRow.kinds == (if Rows.positionSettlesRow.domain.isEmpty then [] else Tryz.f7.params.toList.map fun t=>match Tryz.checked.prog.underlying t with | some (.int k)=>some k | _=>none))=true:=by kernel_rfl
theorem positionSettles_j29:(Rows.positionSettlesRow.pinned == Rows.positionSettlesRow.pinnedBy)=true:=by kernel_rfl
theorem positionSettles_j30:(Rows.positionSettlesRow.veiled == (Tryz.f7.params.toList++Rows.positionSettlesSpec.plain.varTypes Tryz.checked.prog++Tryz.f7.resultTypes.toList).any (Tryz.checked.prog.veiledRec ·))=true:=by kernel_rfl
theorem positionSettles_j31:Rows.positionSettlesRow.veiledFits Tryz.checked.prog Tryz.f7.params.toList (Tryz.f7.params.toList++Rows.positionSettlesSpec.plain.varTypes Tryz.checked.prog++Tryz.f7.resultTypes.toList)=true:=by kernel_rfl
theorem positionSettles_named:Tryz.checked.prog.funcNamed Rows.positionSettlesRow.func=some 7:=by kernel_rfl
theorem positionSettles_inst:Tryz.f7.isInstance Tryz.checked.prog Rows.positionSettlesRow.origin Rows.positionSettlesRow.targs:=of_decide_eq_true (by kernel_rfl)
theorem positionSettles_wrap:Tryz.f7.isWrapper Tryz.checked.prog Rows.positionSettlesRow.wrapper Rows.positionSettlesRow.mainSum:=by unfold Func.isWrapper;first | (rw [if_pos (by decide +kernel)];kernel_rfl) | (rw [if_neg (by decide +kernel)];exact ⟨rfl,rfl⟩)
theorem positionSettles_holds:Rows.PositionSettlesSaid :=
 OpenClaim.holds_of_wide 7 Tryz.f7 rfl rfl rfl rfl rfl rfl rfl ⟨rfl,rfl,rfl,rfl,rfl⟩ rfl rfl rfl rfl rfl positionSettles_named Tryz.func7 (joinedFacts_of positionSettles_j0 jf1 jf2 positionSettles_j3 positionSettles_j4 positionSettles_j5 jf6 positionSettles_j7 jf8 positionSettles_j9 positionSettles_j10 positionSettles_j11 positionSettles_j12 positionSettles_j13 positionSettles_j14 positionSettles_j15 positionSettles_j16 positionSettles_j17 positionSettles_j18 positionSettles_j19 positionSettles_j20 positionSettles_j21 positionSettles_j22 positionSettles_j23 jf24 jf25 positionSettles_j26 positionSettles_j27 positionSettles_j28 positionSettles_j29 positionSettles_j30 positionSettles_j31) positionSettles_inst positionSettles_wrap
  (fun os started H enc _=>positionSettles_lifted os started H enc)
end Go.Proofs.YtekfkdddadcalaaGreatDoor
