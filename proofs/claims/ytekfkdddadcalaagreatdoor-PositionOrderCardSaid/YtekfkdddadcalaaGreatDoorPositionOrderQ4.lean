/- PositionOrder: the row; no condition. -/
import Derived.Test.YtekfkdddadcalaaGreatDoorPositionOrderQ3
import Derived.Test.YtekfkdddadcalaaGreatDoorP3
set_option maxRecDepth 100000
set_option maxHeartbeats 4000000
namespace Go.Proofs.YtekfkdddadcalaaGreatDoor
open Go Go.RowKit Go.SX
open ChangeShapes WideShapes
theorem positionOrder_j0:Rows.positionOrderRow.wf (OpenSpec.ofChange Rows.positionOrderSpec)=true:=by kernel_rfl
theorem positionOrder_j3:Tryz.f6.params.all (Tryz.checked.prog.readableRec ·)=true:=by kernel_rfl
theorem positionOrder_j4:namedTie Tryz.checked.prog Rows.positionOrderRow.named Rows.positionOrderSpec.vars=true:=by kernel_rfl
theorem positionOrder_j5:(Rows.positionOrderRow.stops == [])=true:=by kernel_rfl
theorem positionOrder_j7:(Rows.positionOrderRow.knobs == [])=true:=by kernel_rfl
theorem positionOrder_j9:(Rows.positionOrderRow.inPlace == Tryz.checked.prog.inPlace 6)=true:=by kernel_rfl
theorem positionOrder_j10:(Rows.positionOrderRow.unfollowed == Tryz.checked.prog.unfollowed 6)=true:=by kernel_rfl
theorem positionOrder_j11:(Rows.positionOrderRow.recurses == Tryz.checked.prog.recurses 6)=true:=by kernel_rfl
theorem positionOrder_j12:(Rows.positionOrderRow.named == Tryz.checked.prog.varsNamed 6)=true:=by kernel_rfl
theorem positionOrder_j13:(Rows.positionOrderRow.maps == (Tryz.f6.params.toList++Rows.positionOrderSpec.plain.varTypes Tryz.checked.prog).any (Tryz.checked.prog.mapsRec ·))=true:=by kernel_rfl
theorem positionOrder_j14:(Rows.positionOrderRow.ifaces == (Tryz.f6.params.toList++Rows.positionOrderSpec.plain.varTypes Tryz.checked.prog).any (Tryz.checked.prog.ifacesRec ·))=true:=by kernel_rfl
theorem positionOrder_j15:(Rows.positionOrderRow.mapsOut == Tryz.checked.prog.mapsAmong Tryz.f6.resultTypes.toList)=true:=by kernel_rfl
theorem positionOrder_j16:(Rows.positionOrderRow.loops == (Tryz.f6.params.toList++Rows.positionOrderSpec.plain.varTypes Tryz.checked.prog).any (Tryz.checked.prog.loopsFrom ·))=true:=by kernel_rfl
theorem positionOrder_j17:(Rows.positionOrderRow.wideKeys == (Tryz.f6.params.toList++Rows.positionOrderSpec.plain.varTypes Tryz.checked.prog++Tryz.f6.resultTypes.toList).any (Tryz.checked.prog.wideKeysFrom ·))=true:=by kernel_rfl
theorem positionOrder_j18:Rows.positionOrderSpec.vars.all (Tryz.checked.prog.varReadable ·)=true:=by kernel_rfl
theorem positionOrder_j19:Tryz.f6.resultTypes.all (fun t=>Tryz.checked.prog.readableRec t && decide (t < Tryz.checked.prog.types.size))=true:=by kernel_rfl
theorem positionOrder_j20:(Rows.positionOrderRow.ifacesOut == Tryz.f6.resultTypes.toList.any (Tryz.checked.prog.ifacesRec ·))=true:=by kernel_rfl
theorem positionOrder_j21:(Rows.positionOrderRow.loopsOut == Tryz.f6.resultTypes.toList.any (Tryz.checked.prog.loopsFrom ·))=true:=by kernel_rfl
theorem positionOrder_j22:(Rows.positionOrderRow.plainKeys == Tryz.checked.prog.plainKeys)=true:=by kernel_rfl
theorem positionOrder_j23:Rows.positionOrderRow.shortTexts.isNone=true:=by kernel_rfl
theorem positionOrder_j26:(Rows.positionOrderRow.lifted == Tryz.checked.prog.liftsFinal)=true:=jfl
theorem positionOrder_j27:(Tryz.checked.prog.make == some Rows.positionOrderRow.make)=true:=by kernel_rfl
theorem positionOrder_j28:(Rows.positionOrderRow.kinds == (if Rows.positionOrderRow.domain.isEmpty then [] else Tryz.f6.params.toList.map fun t=>match Tryz.checked.prog.underlying t with | some (.int k)=>some k | _=>none))=true:=by kernel_rfl
theorem positionOrder_j29:(Rows.positionOrderRow.pinned == Rows.positionOrderRow.pinnedBy)=true:=by kernel_rfl
theorem positionOrder_j30:(Rows.positionOrderRow.veiled == (Tryz.f6.params.toList++Rows.positionOrderSpec.plain.varTypes Tryz.checked.prog++Tryz.f6.resultTypes.toList).any (Tryz.checked.prog.veiledRec ·))=true:=by kernel_rfl
theorem positionOrder_j31:Rows.positionOrderRow.veiledFits Tryz.checked.prog Tryz.f6.params.toList (Tryz.f6.params.toList++Rows.positionOrderSpec.plain.varTypes Tryz.checked.prog++Tryz.f6.resultTypes.toList)=true:=by kernel_rfl
theorem positionOrder_named:Tryz.checked.prog.funcNamed Rows.positionOrderRow.func=some 6:=by kernel_rfl
theorem positionOrder_inst:Tryz.f6.isInstance Tryz.checked.prog Rows.positionOrderRow.origin Rows.positionOrderRow.targs:=of_decide_eq_true (by kernel_rfl)
theorem positionOrder_wrap:Tryz.f6.isWrapper Tryz.checked.prog Rows.positionOrderRow.wrapper Rows.positionOrderRow.mainSum:=by unfold Func.isWrapper;first | (rw [if_pos (by decide +kernel)];kernel_rfl) | (rw [if_neg (by decide +kernel)];exact ⟨rfl,rfl⟩)
theorem positionOrder_holds:Rows.PositionOrderSaid :=
 OpenClaim.holds_of_wide 6 Tryz.f6 rfl rfl rfl rfl rfl rfl rfl ⟨rfl,rfl,rfl,rfl,rfl⟩ rfl rfl rfl rfl rfl positionOrder_named Tryz.func6 (joinedFacts_of positionOrder_j0 jf1 jf2 positionOrder_j3 positionOrder_j4 positionOrder_j5 jf6 positionOrder_j7 jf8 positionOrder_j9 positionOrder_j10 positionOrder_j11 positionOrder_j12 positionOrder_j13 positionOrder_j14 positionOrder_j15 positionOrder_j16 positionOrder_j17 positionOrder_j18 positionOrder_j19 positionOrder_j20 positionOrder_j21 positionOrder_j22 positionOrder_j23 jf24 jf25 positionOrder_j26 positionOrder_j27 positionOrder_j28 positionOrder_j29 positionOrder_j30 positionOrder_j31) positionOrder_inst positionOrder_wrap
  (fun os started H enc _=>positionOrder_lifted os started H enc)
end Go.Proofs.YtekfkdddadcalaaGreatDoor
