/- ActionMonotone: the row; no condition. -/
import Derived.Test.YtnfmpddhcjkjbaaGreatDoorActionMonotoneQ1
import Derived.Test.YtnfmpddhcjkjbaaGreatDoorP2
set_option maxRecDepth 100000
set_option maxHeartbeats 4000000
namespace Go.Proofs.YtnfmpddhcjkjbaaGreatDoor
open Go Go.RowKit Go.SX
open ChangeShapes WideShapes
theorem actionMonotone_j0:Rows.actionMonotoneRow.wf (OpenSpec.ofChange Rows.actionMonotoneSpec)=true:=by kernel_rfl
theorem actionMonotone_j3:Tryz.f7.params.all (Tryz.checked.prog.readableRec ·)=true:=by kernel_rfl
theorem actionMonotone_j4:namedTie Tryz.checked.prog Rows.actionMonotoneRow.named Rows.actionMonotoneSpec.vars=true:=by kernel_rfl
theorem actionMonotone_j5:(Rows.actionMonotoneRow.stops == [])=true:=by kernel_rfl
theorem actionMonotone_j7:(Rows.actionMonotoneRow.knobs == [])=true:=by kernel_rfl
theorem actionMonotone_j9:(Rows.actionMonotoneRow.inPlace == Tryz.checked.prog.inPlace 7)=true:=by kernel_rfl
theorem actionMonotone_j10:(Rows.actionMonotoneRow.unfollowed == Tryz.checked.prog.unfollowed 7)=true:=by kernel_rfl
theorem actionMonotone_j11:(Rows.actionMonotoneRow.recurses == Tryz.checked.prog.recurses 7)=true:=by kernel_rfl
theorem actionMonotone_j12:(Rows.actionMonotoneRow.named == Tryz.checked.prog.varsNamed 7)=true:=by kernel_rfl
theorem actionMonotone_j13:(Rows.actionMonotoneRow.maps == (Tryz.f7.params.toList++Rows.actionMonotoneSpec.plain.varTypes Tryz.checked.prog).any (Tryz.checked.prog.mapsRec ·))=true:=by kernel_rfl
theorem actionMonotone_j14:(Rows.actionMonotoneRow.ifaces == (Tryz.f7.params.toList++Rows.actionMonotoneSpec.plain.varTypes Tryz.checked.prog).any (Tryz.checked.prog.ifacesRec ·))=true:=by kernel_rfl
theorem actionMonotone_j15:(Rows.actionMonotoneRow.mapsOut == Tryz.checked.prog.mapsAmong Tryz.f7.resultTypes.toList)=true:=by kernel_rfl
theorem actionMonotone_j16:(Rows.actionMonotoneRow.loops == (Tryz.f7.params.toList++Rows.actionMonotoneSpec.plain.varTypes Tryz.checked.prog).any (Tryz.checked.prog.loopsFrom ·))=true:=by kernel_rfl
theorem actionMonotone_j17:(Rows.actionMonotoneRow.wideKeys == (Tryz.f7.params.toList++Rows.actionMonotoneSpec.plain.varTypes Tryz.checked.prog++Tryz.f7.resultTypes.toList).any (Tryz.checked.prog.wideKeysFrom ·))=true:=by kernel_rfl
theorem actionMonotone_j18:Rows.actionMonotoneSpec.vars.all (Tryz.checked.prog.varReadable ·)=true:=by kernel_rfl
theorem actionMonotone_j19:Tryz.f7.resultTypes.all (fun t=>Tryz.checked.prog.readableRec t && decide (t < Tryz.checked.prog.types.size))=true:=by kernel_rfl
theorem actionMonotone_j20:(Rows.actionMonotoneRow.ifacesOut == Tryz.f7.resultTypes.toList.any (Tryz.checked.prog.ifacesRec ·))=true:=by kernel_rfl
theorem actionMonotone_j21:(Rows.actionMonotoneRow.loopsOut == Tryz.f7.resultTypes.toList.any (Tryz.checked.prog.loopsFrom ·))=true:=by kernel_rfl
theorem actionMonotone_j22:(Rows.actionMonotoneRow.plainKeys == Tryz.checked.prog.plainKeys)=true:=by kernel_rfl
theorem actionMonotone_j23:Rows.actionMonotoneRow.shortTexts.isNone=true:=by kernel_rfl
theorem actionMonotone_j26:(Rows.actionMonotoneRow.lifted == Tryz.checked.prog.liftsFinal)=true:=jfl
theorem actionMonotone_j27:(Tryz.checked.prog.make == some Rows.actionMonotoneRow.make)=true:=by kernel_rfl
theorem actionMonotone_j28:(Rows.actionMonotoneRow.kinds == (if Rows.actionMonotoneRow.domain.isEmpty then [] else Tryz.f7.params.toList.map fun t=>match Tryz.checked.prog.underlying t with | some (.int k)=>some k | _=>none))=true:=by kernel_rfl
theorem actionMonotone_j29:(Rows.actionMonotoneRow.pinned == Rows.actionMonotoneRow.pinnedBy)=true:=by kernel_rfl
theorem actionMonotone_j30:(Rows.actionMonotoneRow.veiled == (Tryz.f7.params.toList++Rows.actionMonotoneSpec.plain.varTypes Tryz.checked.prog++Tryz.f7.resultTypes.toList).any (Tryz.checked.prog.veiledRec ·))=true:=by kernel_rfl
theorem actionMonotone_j31:Rows.actionMonotoneRow.veiledFits Tryz.checked.prog Tryz.f7.params.toList (Tryz.f7.params.toList++Rows.actionMonotoneSpec.plain.varTypes Tryz.checked.prog++Tryz.f7.resultTypes.toList)=true:=by kernel_rfl
theorem actionMonotone_named:Tryz.checked.prog.funcNamed Rows.actionMonotoneRow.func=some 7:=by kernel_rfl
theorem actionMonotone_inst:Tryz.f7.isInstance Tryz.checked.prog Rows.actionMonotoneRow.origin Rows.actionMonotoneRow.targs:=of_decide_eq_true (by kernel_rfl)
theorem actionMonotone_wrap:Tryz.f7.isWrapper Tryz.checked.prog Rows.actionMonotoneRow.wrapper Rows.actionMonotoneRow.mainSum:=by unfold Func.isWrapper;first | (rw [if_pos (by decide +kernel)];kernel_rfl) | (rw [if_neg (by decide +kernel)];exact ⟨rfl,rfl⟩)
theorem actionMonotone_holds:Rows.ActionMonotoneSaid :=
 OpenClaim.holds_of_wide 7 Tryz.f7 rfl rfl rfl rfl rfl rfl rfl ⟨rfl,rfl,rfl,rfl,rfl⟩ rfl rfl rfl rfl rfl actionMonotone_named Tryz.func7 (joinedFacts_of actionMonotone_j0 jf1 jf2 actionMonotone_j3 actionMonotone_j4 actionMonotone_j5 jf6 actionMonotone_j7 jf8 actionMonotone_j9 actionMonotone_j10 actionMonotone_j11 actionMonotone_j12 actionMonotone_j13 actionMonotone_j14 actionMonotone_j15 actionMonotone_j16 actionMonotone_j17 actionMonotone_j18 actionMonotone_j19 actionMonotone_j20 actionMonotone_j21 actionMonotone_j22 actionMonotone_j23 jf24 jf25 actionMonotone_j26 actionMonotone_j27 actionMonotone_j28 actionMonotone_j29 actionMonotone_j30 actionMonotone_j31) actionMonotone_inst actionMonotone_wrap
  (fun os started H enc _=>actionMonotone_lifted os started H enc)
end Go.Proofs.YtnfmpddhcjkjbaaGreatDoor
