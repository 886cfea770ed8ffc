/- ActionDividend: the row; no condition. -/
import Derived.Test.YtnfmpddhcjkjbaaGreatDoorActionDividendQ1
import Derived.Test.YtnfmpddhcjkjbaaGreatDoorP2
set_option maxRecDepth 100000
set_option maxHeartbeats 4000000
namespace Go.Proofs.YtnfmpddhcjkjbaaGreatDoor
open Go Go.RowKit Go.SX
open ChangeShapes WideShapes
theorem actionDividend_j0:Rows.actionDividendRow.wf (OpenSpec.ofChange Rows.actionDividendSpec)=true:=by kernel_rfl
theorem actionDividend_j3:Tryz.f6.params.all (Tryz.checked.prog.readableRec ·)=true:=by kernel_rfl
theorem actionDividend_j4:namedTie Tryz.checked.prog Rows.actionDividendRow.named Rows.actionDividendSpec.vars=true:=by kernel_rfl
theorem actionDividend_j5:(Rows.actionDividendRow.stops == [])=true:=by kernel_rfl
theorem actionDividend_j7:(Rows.actionDividendRow.knobs == [])=true:=by kernel_rfl
theorem actionDividend_j9:(Rows.actionDividendRow.inPlace == Tryz.checked.prog.inPlace 6)=true:=by kernel_rfl
theorem actionDividend_j10:(Rows.actionDividendRow.unfollowed == Tryz.checked.prog.unfollowed 6)=true:=by kernel_rfl
theorem actionDividend_j11:(Rows.actionDividendRow.recurses == Tryz.checked.prog.recurses 6)=true:=by kernel_rfl
theorem actionDividend_j12:(Rows.actionDividendRow.named == Tryz.checked.prog.varsNamed 6)=true:=by kernel_rfl
theorem actionDividend_j13:(Rows.actionDividendRow.maps == (Tryz.f6.params.toList++Rows.actionDividendSpec.plain.varTypes Tryz.checked.prog).any (Tryz.checked.prog.mapsRec ·))=true:=by kernel_rfl
theorem actionDividend_j14:(Rows.actionDividendRow.ifaces == (Tryz.f6.params.toList++Rows.actionDividendSpec.plain.varTypes Tryz.checked.prog).any (Tryz.checked.prog.ifacesRec ·))=true:=by kernel_rfl
theorem actionDividend_j15:(Rows.actionDividendRow.mapsOut == Tryz.checked.prog.mapsAmong Tryz.f6.resultTypes.toList)=true:=by kernel_rfl
theorem actionDividend_j16:(Rows.actionDividendRow.loops == (Tryz.f6.params.toList++Rows.actionDividendSpec.plain.varTypes Tryz.checked.prog).any (Tryz.checked.prog.loopsFrom ·))=true:=by kernel_rfl
theorem actionDividend_j17:(Rows.actionDividendRow.wideKeys == (Tryz.f6.params.toList++Rows.actionDividendSpec.plain.varTypes Tryz.checked.prog++Tryz.f6.resultTypes.toList).any (Tryz.checked.prog.wideKeysFrom ·))=true:=by kernel_rfl
theorem actionDividend_j18:Rows.actionDividendSpec.vars.all (Tryz.checked.prog.varReadable ·)=true:=by kernel_rfl
theorem actionDividend_j19:Tryz.f6.resultTypes.all (fun t=>Tryz.checked.prog.readableRec t && decide (t < Tryz.checked.prog.types.size))=true:=by kernel_rfl
theorem actionDividend_j20:(Rows.actionDividendRow.ifacesOut == Tryz.f6.resultTypes.toList.any (Tryz.checked.prog.ifacesRec ·))=true:=by kernel_rfl
theorem actionDividend_j21:(Rows.actionDividendRow.loopsOut == Tryz.f6.resultTypes.toList.any (Tryz.checked.prog.loopsFrom ·))=true:=by kernel_rfl
theorem actionDividend_j22:(Rows.actionDividendRow.plainKeys == Tryz.checked.prog.plainKeys)=true:=by kernel_rfl
theorem actionDividend_j23:Rows.actionDividendRow.shortTexts.isNone=true:=by kernel_rfl
theorem actionDividend_j26:(Rows.actionDividendRow.lifted == Tryz.checked.prog.liftsFinal)=true:=jfl
theorem actionDividend_j27:(Tryz.checked.prog.make == some Rows.actionDividendRow.make)=true:=by kernel_rfl
theorem actionDividend_j28:(Rows.actionDividendRow.kinds == (if Rows.actionDividendRow.domain.isEmpty then [] else Tryz.f6.params.toList.map fun t=>match Tryz.checked.prog.underlying t with | some (.int k)=>some k | _=>none))=true:=by kernel_rfl
theorem actionDividend_j29:(Rows.actionDividendRow.pinned == Rows.actionDividendRow.pinnedBy)=true:=by kernel_rfl
theorem actionDividend_j30:(Rows.actionDividendRow.veiled == (Tryz.f6.params.toList++Rows.actionDividendSpec.plain.varTypes Tryz.checked.prog++Tryz.f6.resultTypes.toList).any (Tryz.checked.prog.veiledRec ·))=true:=by kernel_rfl
theorem actionDividend_j31:Rows.actionDividendRow.veiledFits Tryz.checked.prog Tryz.f6.params.toList (Tryz.f6.params.toList++Rows.actionDividendSpec.plain.varTypes Tryz.checked.prog++Tryz.f6.resultTypes.toList)=true:=by kernel_rfl
theorem actionDividend_named:Tryz.checked.prog.funcNamed Rows.actionDividendRow.func=some 6:=by kernel_rfl
theorem actionDividend_inst:Tryz.f6.isInstance Tryz.checked.prog Rows.actionDividendRow.origin Rows.actionDividendRow.targs:=of_decide_eq_true (by kernel_rfl)
theorem actionDividend_wrap:Tryz.f6.isWrapper Tryz.checked.prog Rows.actionDividendRow.wrapper Rows.actionDividendRow.mainSum:=by unfold Func.isWrapper;first | (rw [if_pos (by decide +kernel)];kernel_rfl) | (rw [if_neg (by decide +kernel)];exact ⟨rfl,rfl⟩)
theorem actionDividend_holds:Rows.ActionDividendSaid :=
 OpenClaim.holds_of_wide 6 Tryz.f6 rfl rfl rfl rfl rfl rfl rfl ⟨rfl,rfl,rfl,rfl,rfl⟩ rfl rfl rfl rfl rfl actionDividend_named Tryz.func6 (joinedFacts_of actionDividend_j0 jf1 jf2 actionDividend_j3 actionDividend_j4 actionDividend_j5 jf6 actionDividend_j7 jf8 actionDividend_j9 actionDividend_j10 actionDividend_j11 actionDividend_j12 actionDividend_j13 actionDividend_j14 actionDividend_j15 actionDividend_j16 actionDividend_j17 actionDividend_j18 actionDividend_j19 actionDividend_j20 actionDividend_j21 actionDividend_j22 actionDividend_j23 jf24 jf25 actionDividend_j26 actionDividend_j27 actionDividend_j28 actionDividend_j29 actionDividend_j30 actionDividend_j31) actionDividend_inst actionDividend_wrap
  (fun os started H enc _=>actionDividend_lifted os started H enc)
end Go.Proofs.YtnfmpddhcjkjbaaGreatDoor
