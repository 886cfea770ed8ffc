/- ActionValue: the row; no condition. -/
import Derived.Test.YtnfmpddhcjkjbaaGreatDoorActionValueQ1
import Derived.Test.YtnfmpddhcjkjbaaGreatDoorP2
set_option maxRecDepth 100000
set_option maxHeartbeats 4000000
namespace Go.Proofs.YtnfmpddhcjkjbaaGreatDoor
open Go Go.RowKit Go.SX
open ChangeShapes WideShapes
theorem actionValue_j0:Rows.actionValueRow.wf (OpenSpec.ofChange Rows.actionValueSpec)=true:=by kernel_rfl
theorem actionValue_j3:Tryz.f5.params.all (Tryz.checked.prog.readableRec ·)=true:=by kernel_rfl
theorem actionValue_j4:namedTie Tryz.checked.prog Rows.actionValueRow.named Rows.actionValueSpec.vars=true:=by kernel_rfl
theorem actionValue_j5:(Rows.actionValueRow.stops == [])=true:=by kernel_rfl
theorem actionValue_j7:(Rows.actionValueRow.knobs == [])=true:=by kernel_rfl
theorem actionValue_j9:(Rows.actionValueRow.inPlace == Tryz.checked.prog.inPlace 5)=true:=by kernel_rfl
theorem actionValue_j10:(Rows.actionValueRow.unfollowed == Tryz.checked.prog.unfollowed 5)=true:=by kernel_rfl
theorem actionValue_j11:(Rows.actionValueRow.recurses == Tryz.checked.prog.recurses 5)=true:=by kernel_rfl
theorem actionValue_j12:(Rows.actionValueRow.named == Tryz.checked.prog.varsNamed 5)=true:=by kernel_rfl
theorem actionValue_j13:(Rows.actionValueRow.maps == (Tryz.f5.params.toList++Rows.actionValueSpec.plain.varTypes Tryz.checked.prog).any (Tryz.checked.prog.mapsRec ·))=true:=by kernel_rfl
theorem actionValue_j14:(Rows.actionValueRow.ifaces == (Tryz.f5.params.toList++Rows.actionValueSpec.plain.varTypes Tryz.checked.prog).any (Tryz.checked.prog.ifacesRec ·))=true:=by kernel_rfl
theorem actionValue_j15:(Rows.actionValueRow.mapsOut == Tryz.checked.prog.mapsAmong Tryz.f5.resultTypes.toList)=true:=by kernel_rfl
theorem actionValue_j16:(Rows.actionValueRow.loops == (Tryz.f5.params.toList++Rows.actionValueSpec.plain.varTypes Tryz.checked.prog).any (Tryz.checked.prog.loopsFrom ·))=true:=by kernel_rfl
theorem actionValue_j17:(Rows.actionValueRow.wideKeys == (Tryz.f5.params.toList++Rows.actionValueSpec.plain.varTypes Tryz.checked.prog++Tryz.f5.resultTypes.toList).any (Tryz.checked.prog.wideKeysFrom ·))=true:=by kernel_rfl
theorem actionValue_j18:Rows.actionValueSpec.vars.all (Tryz.checked.prog.varReadable ·)=true:=by kernel_rfl
theorem actionValue_j19:Tryz.f5.resultTypes.all (fun t=>Tryz.checked.prog.readableRec t && decide (t < Tryz.checked.prog.types.size))=true:=by kernel_rfl
theorem actionValue_j20:(Rows.actionValueRow.ifacesOut == Tryz.f5.resultTypes.toList.any (Tryz.checked.prog.ifacesRec ·))=true:=by kernel_rfl
theorem actionValue_j21:(Rows.actionValueRow.loopsOut == Tryz.f5.resultTypes.toList.any (Tryz.checked.prog.loopsFrom ·))=true:=by kernel_rfl
theorem actionValue_j22:(Rows.actionValueRow.plainKeys == Tryz.checked.prog.plainKeys)=true:=by kernel_rfl
theorem actionValue_j23:Rows.actionValueRow.shortTexts.isNone=true:=by kernel_rfl
theorem actionValue_j26:(Rows.actionValueRow.lifted == Tryz.checked.prog.liftsFinal)=true:=jfl
theorem actionValue_j27:(Tryz.checked.prog.make == some Rows.actionValueRow.make)=true:=by kernel_rfl
theorem actionValue_j28:(Rows.actionValueRow.kinds == (if Rows.actionValueRow.domain.isEmpty then [] else Tryz.f5.params.toList.map fun t=>match Tryz.checked.prog.underlying t with | some (.int k)=>some k | _=>none))=true:=by kernel_rfl
theorem actionValue_j29:(Rows.actionValueRow.pinned == Rows.actionValueRow.pinnedBy)=true:=by kernel_rfl
theorem actionValue_j30:(Rows.actionValueRow.veiled == (Tryz.f5.params.toList++Rows.actionValueSpec.plain.varTypes Tryz.checked.prog++Tryz.f5.resultTypes.toList).any (Tryz.checked.prog.veiledRec ·))=true:=by kernel_rfl
theorem actionValue_j31:Rows.actionValueRow.veiledFits Tryz.checked.prog Tryz.f5.params.toList (Tryz.f5.params.toList++Rows.actionValueSpec.plain.varTypes Tryz.checked.prog++Tryz.f5.resultTypes.toList)=true:=by kernel_rfl
theorem actionValue_named:Tryz.checked.prog.funcNamed Rows.actionValueRow.func=some 5:=by kernel_rfl
theorem actionValue_inst:Tryz.f5.isInstance Tryz.checked.prog Rows.actionValueRow.origin Rows.actionValueRow.targs:=of_decide_eq_true (by kernel_rfl)
theorem actionValue_wrap:Tryz.f5.isWrapper Tryz.checked.prog Rows.actionValueRow.wrapper Rows.actionValueRow.mainSum:=by unfold Func.isWrapper;first | (rw [if_pos (by decide +kernel)];kernel_rfl) | (rw [if_neg (by decide +kernel)];exact ⟨rfl,rfl⟩)
theorem actionValue_holds:Rows.ActionValueSaid :=
 OpenClaim.holds_of_wide 5 Tryz.f5 rfl rfl rfl rfl rfl rfl rfl ⟨rfl,rfl,rfl,rfl,rfl⟩ rfl rfl rfl rfl rfl actionValue_named Tryz.func5 (joinedFacts_of actionValue_j0 jf1 jf2 actionValue_j3 actionValue_j4 actionValue_j5 jf6 actionValue_j7 jf8 actionValue_j9 actionValue_j10 actionValue_j11 actionValue_j12 actionValue_j13 actionValue_j14 actionValue_j15 actionValue_j16 actionValue_j17 actionValue_j18 actionValue_j19 actionValue_j20 actionValue_j21 actionValue_j22 actionValue_j23 jf24 jf25 actionValue_j26 actionValue_j27 actionValue_j28 actionValue_j29 actionValue_j30 actionValue_j31) actionValue_inst actionValue_wrap
  (fun os started H enc _=>actionValue_lifted os started H enc)
end Go.Proofs.YtnfmpddhcjkjbaaGreatDoor
