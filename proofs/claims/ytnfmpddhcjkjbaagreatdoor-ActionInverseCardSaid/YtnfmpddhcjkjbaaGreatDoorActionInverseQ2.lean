/- ActionInverse: the row; no condition. -/
import Derived.Test.YtnfmpddhcjkjbaaGreatDoorActionInverseQ1
import Derived.Test.YtnfmpddhcjkjbaaGreatDoorP2
set_option maxRecDepth 100000
set_option maxHeartbeats 4000000
namespace Go.Proofs.YtnfmpddhcjkjbaaGreatDoor
open Go Go.RowKit Go.SX
open ChangeShapes WideShapes
theorem actionInverse_j0:Rows.actionInverseRow.wf (OpenSpec.ofChange Rows.actionInverseSpec)=true:=by kernel_rfl
theorem actionInverse_j3:Tryz.f8.params.all (Tryz.checked.prog.readableRec ·)=true:=by kernel_rfl
theorem actionInverse_j4:namedTie Tryz.checked.prog Rows.actionInverseRow.named Rows.actionInverseSpec.vars=true:=by kernel_rfl
theorem actionInverse_j5:(Rows.actionInverseRow.stops == [])=true:=by kernel_rfl
theorem actionInverse_j7:(Rows.actionInverseRow.knobs == [])=true:=by kernel_rfl
theorem actionInverse_j9:(Rows.actionInverseRow.inPlace == Tryz.checked.prog.inPlace 8)=true:=by kernel_rfl
theorem actionInverse_j10:(Rows.actionInverseRow.unfollowed == Tryz.checked.prog.unfollowed 8)=true:=by kernel_rfl
theorem actionInverse_j11:(Rows.actionInverseRow.recurses == Tryz.checked.prog.recurses 8)=true:=by kernel_rfl
theorem actionInverse_j12:(Rows.actionInverseRow.named == Tryz.checked.prog.varsNamed 8)=true:=by kernel_rfl
theorem actionInverse_j13:(Rows.actionInverseRow.maps == (Tryz.f8.params.toList++Rows.actionInverseSpec.plain.varTypes Tryz.checked.prog).any (Tryz.checked.prog.mapsRec ·))=true:=by kernel_rfl
theorem actionInverse_j14:(Rows.actionInverseRow.ifaces == (Tryz.f8.params.toList++Rows.actionInverseSpec.plain.varTypes Tryz.checked.prog).any (Tryz.checked.prog.ifacesRec ·))=true:=by kernel_rfl
theorem actionInverse_j15:(Rows.actionInverseRow.mapsOut == Tryz.checked.prog.mapsAmong Tryz.f8.resultTypes.toList)=true:=by kernel_rfl
theorem actionInverse_j16:(Rows.actionInverseRow.loops == (Tryz.f8.params.toList++Rows.actionInverseSpec.plain.varTypes Tryz.checked.prog).any (Tryz.checked.prog.loopsFrom ·))=true:=by kernel_rfl
theorem actionInverse_j17:(Rows.actionInverseRow.wideKeys == (Tryz.f8.params.toList++Rows.actionInverseSpec.plain.varTypes Tryz.checked.prog++Tryz.f8.resultTypes.toList).any (Tryz.checked.prog.wideKeysFrom ·))=true:=by kernel_rfl
theorem actionInverse_j18:Rows.actionInverseSpec.vars.all (Tryz.checked.prog.varReadable ·)=true:=by kernel_rfl
theorem actionInverse_j19:Tryz.f8.resultTypes.all (fun t=>Tryz.checked.prog.readableRec t && decide (t < Tryz.checked.prog.types.size))=true:=by kernel_rfl
theorem actionInverse_j20:(Rows.actionInverseRow.ifacesOut == Tryz.f8.resultTypes.toList.any (Tryz.checked.prog.ifacesRec ·))=true:=by kernel_rfl
theorem actionInverse_j21:(Rows.actionInverseRow.loopsOut == Tryz.f8.resultTypes.toList.any (Tryz.checked.prog.loopsFrom ·))=true:=by kernel_rfl
theorem actionInverse_j22:(Rows.actionInverseRow.plainKeys == Tryz.checked.prog.plainKeys)=true:=by kernel_rfl
theorem actionInverse_j23:Rows.actionInverseRow.shortTexts.isNone=true:=by kernel_rfl
theorem actionInverse_j26:(Rows.actionInverseRow.lifted == Tryz.checked.prog.liftsFinal)=true:=jfl
theorem actionInverse_j27:(Tryz.checked.prog.make == some Rows.actionInverseRow.make)=true:=by kernel_rfl
theorem actionInverse_j28:(Rows.actionInverseRow.kinds == (if Rows.actionInverseRow.domain.isEmpty then [] else Tryz.f8.params.toList.map fun t=>match Tryz.checked.prog.underlying t with | some (.int k)=>some k | _=>none))=true:=by kernel_rfl
theorem actionInverse_j29:(Rows.actionInverseRow.pinned == Rows.actionInverseRow.pinnedBy)=true:=by kernel_rfl
theorem actionInverse_j30:(Rows.actionInverseRow.veiled == (Tryz.f8.params.toList++Rows.actionInverseSpec.plain.varTypes Tryz.checked.prog++Tryz.f8.resultTypes.toList).any (Tryz.checked.prog.veiledRec ·))=true:=by kernel_rfl
theorem actionInverse_j31:Rows.actionInverseRow.veiledFits Tryz.checked.prog Tryz.f8.params.toList (Tryz.f8.params.toList++Rows.actionInverseSpec.plain.varTypes Tryz.checked.prog++Tryz.f8.resultTypes.toList)=true:=by kernel_rfl
theorem actionInverse_named:Tryz.checked.prog.funcNamed Rows.actionInverseRow.func=some 8:=by kernel_rfl
theorem actionInverse_inst:Tryz.f8.isInstance Tryz.checked.prog Rows.actionInverseRow.origin Rows.actionInverseRow.targs:=of_decide_eq_true (by kernel_rfl)
theorem actionInverse_wrap:Tryz.f8.isWrapper Tryz.checked.prog Rows.actionInverseRow.wrapper Rows.actionInverseRow.mainSum:=by unfold Func.isWrapper;first | (rw [if_pos (by decide +kernel)];kernel_rfl) | (rw [if_neg (by decide +kernel)];exact ⟨rfl,rfl⟩)
theorem actionInverse_holds:Rows.ActionInverseSaid :=
 OpenClaim.holds_of_wide 8 Tryz.f8 rfl rfl rfl rfl rfl rfl rfl ⟨rfl,rfl,rfl,rfl,rfl⟩ rfl rfl rfl rfl rfl actionInverse_named Tryz.func8 (joinedFacts_of actionInverse_j0 jf1 jf2 actionInverse_j3 actionInverse_j4 actionInverse_j5 jf6 actionInverse_j7 jf8 actionInverse_j9 actionInverse_j10 actionInverse_j11 actionInverse_j12 actionInverse_j13 actionInverse_j14 actionInverse_j15 actionInverse_j16 actionInverse_j17 actionInverse_j18 actionInverse_j19 actionInverse_j20 actionInverse_j21 actionInverse_j22 actionInverse_j23 jf24 jf25 actionInverse_j26 actionInverse_j27 actionInverse_j28 actionInverse_j29 actionInverse_j30 actionInverse_j31) actionInverse_inst actionInverse_wrap
  (fun os started H enc _=>actionInverse_lifted os started H enc)
end Go.Proofs.YtnfmpddhcjkjbaaGreatDoor
