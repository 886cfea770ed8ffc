/- ActionExact: the row; no condition. -/
import Derived.Test.YtnfmpddhcjkjbaaGreatDoorActionExactQ1
import Derived.Test.YtnfmpddhcjkjbaaGreatDoorP2
set_option maxRecDepth 100000
set_option maxHeartbeats 4000000
namespace Go.Proofs.YtnfmpddhcjkjbaaGreatDoor
open Go Go.RowKit Go.SX
open ChangeShapes WideShapes
theorem actionExact_j0:Rows.actionExactRow.wf (OpenSpec.ofChange Rows.actionExactSpec)=true:=by kernel_rfl
theorem actionExact_j3:Tryz.f3.params.all (Tryz.checked.prog.readableRec ·)=true:=by kernel_rfl
theorem actionExact_j4:namedTie Tryz.checked.prog Rows.actionExactRow.named Rows.actionExactSpec.vars=true:=by kernel_rfl
theorem actionExact_j5:(Rows.actionExactRow.stops == [])=true:=by kernel_rfl
theorem actionExact_j7:(Rows.actionExactRow.knobs == [])=true:=by kernel_rfl
theorem actionExact_j9:(Rows.actionExactRow.inPlace == Tryz.checked.prog.inPlace 3)=true:=by kernel_rfl
theorem actionExact_j10:(Rows.actionExactRow.unfollowed == Tryz.checked.prog.unfollowed 3)=true:=by kernel_rfl
theorem actionExact_j11:(Rows.actionExactRow.recurses == Tryz.checked.prog.recurses 3)=true:=by kernel_rfl
theorem actionExact_j12:(Rows.actionExactRow.named == Tryz.checked.prog.varsNamed 3)=true:=by kernel_rfl
theorem actionExact_j13:(Rows.actionExactRow.maps == (Tryz.f3.params.toList++Rows.actionExactSpec.plain.varTypes Tryz.checked.prog).any (Tryz.checked.prog.mapsRec ·))=true:=by kernel_rfl
theorem actionExact_j14:(Rows.actionExactRow.ifaces == (Tryz.f3.params.toList++Rows.actionExactSpec.plain.varTypes Tryz.checked.prog).any (Tryz.checked.prog.ifacesRec ·))=true:=by kernel_rfl
theorem actionExact_j15:(Rows.actionExactRow.mapsOut == Tryz.checked.prog.mapsAmong Tryz.f3.resultTypes.toList)=true:=by kernel_rfl
theorem actionExact_j16:(Rows.actionExactRow.loops == (Tryz.f3.params.toList++Rows.actionExactSpec.plain.varTypes Tryz.checked.prog).any (Tryz.checked.prog.loopsFrom ·))=true:=by kernel_rfl
theorem actionExact_j17:(Rows.actionExactRow.wideKeys == (Tryz.f3.params.toList++Rows.actionExactSpec.plain.varTypes Tryz.checked.prog++Tryz.f3.resultTypes.toList).any (Tryz.checked.prog.wideKeysFrom ·))=true:=by kernel_rfl
theorem actionExact_j18:Rows.actionExactSpec.vars.all (Tryz.checked.prog.varReadable ·)=true:=by kernel_rfl
theorem actionExact_j19:Tryz.f3.resultTypes.all (fun t=>Tryz.checked.prog.readableRec t && decide (t < Tryz.checked.prog.types.size))=true:=by kernel_rfl
theorem actionExact_j20:(Rows.actionExactRow.ifacesOut == Tryz.f3.resultTypes.toList.any (Tryz.checked.prog.ifacesRec ·))=true:=by kernel_rfl
theorem actionExact_j21:(Rows.actionExactRow.loopsOut == Tryz.f3.resultTypes.toList.any (Tryz.checked.prog.loopsFrom ·))=true:=by kernel_rfl
theorem actionExact_j22:(Rows.actionExactRow.plainKeys == Tryz.checked.prog.plainKeys)=true:=by kernel_rfl
theorem actionExact_j23:Rows.actionExactRow.shortTexts.isNone=true:=by kernel_rfl
theorem actionExact_j26:(Rows.actionExactRow.lifted == Tryz.checked.prog.liftsFinal)=true:=jfl
theorem actionExact_j27:(Tryz.checked.prog.make == some Rows.actionExactRow.make)=true:=by kernel_rfl
theorem actionExact_j28:(Rows.actionExactRow.kinds == (if Rows.actionExactRow.domain.isEmpty then [] else Tryz.f3.params.toList.map fun t=>match Tryz.checked.prog.underlying t with | some (.int k)=>some k | _=>none))=true:=by kernel_rfl
theorem actionExact_j29:(Rows.actionExactRow.pinned == Rows.actionExactRow.pinnedBy)=true:=by kernel_rfl
theorem actionExact_j30:(Rows.actionExactRow.veiled == (Tryz.f3.params.toList++Rows.actionExactSpec.plain.varTypes Tryz.checked.prog++Tryz.f3.resultTypes.toList).any (Tryz.checked.prog.veiledRec ·))=true:=by kernel_rfl
theorem actionExact_j31:Rows.actionExactRow.veiledFits Tryz.checked.prog Tryz.f3.params.toList (Tryz.f3.params.toList++Rows.actionExactSpec.plain.varTypes Tryz.checked.prog++Tryz.f3.resultTypes.toList)=true:=by kernel_rfl
theorem actionExact_named:Tryz.checked.prog.funcNamed Rows.actionExactRow.func=some 3:=by kernel_rfl
theorem actionExact_inst:Tryz.f3.isInstance Tryz.checked.prog Rows.actionExactRow.origin Rows.actionExactRow.targs:=of_decide_eq_true (by kernel_rfl)
theorem actionExact_wrap:Tryz.f3.isWrapper Tryz.checked.prog Rows.actionExactRow.wrapper Rows.actionExactRow.mainSum:=by unfold Func.isWrapper;first | (rw [if_pos (by decide +kernel)];kernel_rfl) | (rw [if_neg (by decide +kernel)];exact ⟨rfl,rfl⟩)
theorem actionExact_holds:Rows.ActionExactSaid :=
 OpenClaim.holds_of_wide 3 Tryz.f3 rfl rfl rfl rfl rfl rfl rfl ⟨rfl,rfl,rfl,rfl,rfl⟩ rfl rfl rfl rfl rfl actionExact_named Tryz.func3 (joinedFacts_of actionExact_j0 jf1 jf2 actionExact_j3 actionExact_j4 actionExact_j5 jf6 actionExact_j7 jf8 actionExact_j9 actionExact_j10 actionExact_j11 actionExact_j12 actionExact_j13 actionExact_j14 actionExact_j15 actionExact_j16 actionExact_j17 actionExact_j18 actionExact_j19 actionExact_j20 actionExact_j21 actionExact_j22 actionExact_j23 jf24 jf25 actionExact_j26 actionExact_j27 actionExact_j28 actionExact_j29 actionExact_j30 actionExact_j31) actionExact_inst actionExact_wrap
  (fun os started H enc _=>actionExact_lifted os started H enc)
end Go.Proofs.YtnfmpddhcjkjbaaGreatDoor
