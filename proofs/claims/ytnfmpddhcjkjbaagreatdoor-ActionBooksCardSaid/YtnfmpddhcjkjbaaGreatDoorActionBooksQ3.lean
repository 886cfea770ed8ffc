/- ActionBooks: the row; no condition. -/
import Derived.Test.YtnfmpddhcjkjbaaGreatDoorActionBooksQ2
import Derived.Test.YtnfmpddhcjkjbaaGreatDoorP2
set_option maxRecDepth 100000
set_option maxHeartbeats 4000000
namespace Go.Proofs.YtnfmpddhcjkjbaaGreatDoor
open Go Go.RowKit Go.SX
open ChangeShapes WideShapes
theorem actionBooks_j0:Rows.actionBooksRow.wf (OpenSpec.ofChange Rows.actionBooksSpec)=true:=by kernel_rfl
theorem actionBooks_j3:Tryz.f9.params.all (Tryz.checked.prog.readableRec ·)=true:=by kernel_rfl
theorem actionBooks_j4:namedTie Tryz.checked.prog Rows.actionBooksRow.named Rows.actionBooksSpec.vars=true:=by kernel_rfl
theorem actionBooks_j5:(Rows.actionBooksRow.stops == [])=true:=by kernel_rfl
theorem actionBooks_j7:(Rows.actionBooksRow.knobs == [])=true:=by kernel_rfl
theorem actionBooks_j9:(Rows.actionBooksRow.inPlace == Tryz.checked.prog.inPlace 9)=true:=by kernel_rfl
theorem actionBooks_j10:(Rows.actionBooksRow.unfollowed == Tryz.checked.prog.unfollowed 9)=true:=by kernel_rfl
theorem actionBooks_j11:(Rows.actionBooksRow.recurses == Tryz.checked.prog.recurses 9)=true:=by kernel_rfl
theorem actionBooks_j12:(Rows.actionBooksRow.named == Tryz.checked.prog.varsNamed 9)=true:=by kernel_rfl
theorem actionBooks_j13:(Rows.actionBooksRow.maps == (Tryz.f9.params.toList++Rows.actionBooksSpec.plain.varTypes Tryz.checked.prog).any (Tryz.checked.prog.mapsRec ·))=true:=by kernel_rfl
theorem actionBooks_j14:(Rows.actionBooksRow.ifaces == (Tryz.f9.params.toList++Rows.actionBooksSpec.plain.varTypes Tryz.checked.prog).any (Tryz.checked.prog.ifacesRec ·))=true:=by kernel_rfl
theorem actionBooks_j15:(Rows.actionBooksRow.mapsOut == Tryz.checked.prog.mapsAmong Tryz.f9.resultTypes.toList)=true:=by kernel_rfl
theorem actionBooks_j16:(Rows.actionBooksRow.loops == (Tryz.f9.params.toList++Rows.actionBooksSpec.plain.varTypes Tryz.checked.prog).any (Tryz.checked.prog.loopsFrom ·))=true:=by kernel_rfl
theorem actionBooks_j17:(Rows.actionBooksRow.wideKeys == (Tryz.f9.params.toList++Rows.actionBooksSpec.plain.varTypes Tryz.checked.prog++Tryz.f9.resultTypes.toList).any (Tryz.checked.prog.wideKeysFrom ·))=true:=by kernel_rfl
theorem actionBooks_j18:Rows.actionBooksSpec.vars.all (Tryz.checked.prog.varReadable ·)=true:=by kernel_rfl
theorem actionBooks_j19:Tryz.f9.resultTypes.all (fun t=>Tryz.checked.prog.readableRec t && decide (t < Tryz.checked.prog.types.size))=true:=by kernel_rfl
theorem actionBooks_j20:(Rows.actionBooksRow.ifacesOut == Tryz.f9.resultTypes.toList.any (Tryz.checked.prog.ifacesRec ·))=true:=by kernel_rfl
theorem actionBooks_j21:(Rows.actionBooksRow.loopsOut == Tryz.f9.resultTypes.toList.any (Tryz.checked.prog.loopsFrom ·))=true:=by kernel_rfl
theorem actionBooks_j22:(Rows.actionBooksRow.plainKeys == Tryz.checked.prog.plainKeys)=true:=by kernel_rfl
theorem actionBooks_j23:Rows.actionBooksRow.shortTexts.isNone=true:=by kernel_rfl
theorem actionBooks_j26:(Rows.actionBooksRow.lifted == Tryz.checked.prog.liftsFinal)=true:=jfl
theorem actionBooks_j27:(Tryz.checked.prog.make == some Rows.actionBooksRow.make)=true:=by kernel_rfl
theorem actionBooks_j28:(Rows.actionBooksRow.kinds == (if Rows.actionBooksRow.domain.isEmpty then [] else Tryz.f9.params.toList.map fun t=>match Tryz.checked.prog.underlying t with | some (.int k)=>some k | _=>none))=true:=by kernel_rfl
theorem actionBooks_j29:(Rows.actionBooksRow.pinned == Rows.actionBooksRow.pinnedBy)=true:=by kernel_rfl
theorem actionBooks_j30:(Rows.actionBooksRow.veiled == (Tryz.f9.params.toList++Rows.actionBooksSpec.plain.varTypes Tryz.checked.prog++Tryz.f9.resultTypes.toList).any (Tryz.checked.prog.veiledRec ·))=true:=by kernel_rfl
theorem actionBooks_j31:Rows.actionBooksRow.veiledFits Tryz.checked.prog Tryz.f9.params.toList (Tryz.f9.params.toList++Rows.actionBooksSpec.plain.varTypes Tryz.checked.prog++Tryz.f9.resultTypes.toList)=true:=by kernel_rfl
theorem actionBooks_named:Tryz.checked.prog.funcNamed Rows.actionBooksRow.func=some 9:=by kernel_rfl
theorem actionBooks_inst:Tryz.f9.isInstance Tryz.checked.prog Rows.actionBooksRow.origin Rows.actionBooksRow.targs:=of_decide_eq_true (by kernel_rfl)
theorem actionBooks_wrap:Tryz.f9.isWrapper Tryz.checked.prog Rows.actionBooksRow.wrapper Rows.actionBooksRow.mainSum:=by unfold Func.isWrapper;first | (rw [if_pos (by decide +kernel)];kernel_rfl) | (rw [if_neg (by decide +kernel)];exact ⟨rfl,rfl⟩)
theorem actionBooks_holds:Rows.ActionBooksSaid :=
 OpenClaim.holds_of_wide 9 Tryz.f9 rfl rfl rfl rfl rfl rfl rfl ⟨rfl,rfl,rfl,rfl,rfl⟩ rfl rfl rfl rfl rfl actionBooks_named Tryz.func9 (joinedFacts_of actionBooks_j0 jf1 jf2 actionBooks_j3 actionBooks_j4 actionBooks_j5 jf6 actionBooks_j7 jf8 actionBooks_j9 actionBooks_j10 actionBooks_j11 actionBooks_j12 actionBooks_j13 actionBooks_j14 actionBooks_j15 actionBooks_j16 actionBooks_j17 actionBooks_j18 actionBooks_j19 actionBooks_j20 actionBooks_j21 actionBooks_j22 actionBooks_j23 jf24 jf25 actionBooks_j26 actionBooks_j27 actionBooks_j28 actionBooks_j29 actionBooks_j30 actionBooks_j31) actionBooks_inst actionBooks_wrap
  (fun os started H enc _=>actionBooks_lifted os started H enc)
end Go.Proofs.YtnfmpddhcjkjbaaGreatDoor
