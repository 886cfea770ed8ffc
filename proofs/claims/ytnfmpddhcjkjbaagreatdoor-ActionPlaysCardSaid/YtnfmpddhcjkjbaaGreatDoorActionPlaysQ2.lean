/- ActionPlays: the row; no condition. -/
import Derived.Test.YtnfmpddhcjkjbaaGreatDoorActionPlaysQ1
import Derived.Test.YtnfmpddhcjkjbaaGreatDoorP2
set_option maxRecDepth 100000
set_option maxHeartbeats 4000000
namespace Go.Proofs.YtnfmpddhcjkjbaaGreatDoor
open Go Go.RowKit Go.SX
open ChangeShapes WideShapes
theorem actionPlays_j0:Rows.actionPlaysRow.wf (OpenSpec.ofChange Rows.actionPlaysSpec)=true:=by kernel_rfl
theorem actionPlays_j3:Tryz.f4.params.all (Tryz.checked.prog.readableRec ·)=true:=by kernel_rfl
theorem actionPlays_j4:namedTie Tryz.checked.prog Rows.actionPlaysRow.named Rows.actionPlaysSpec.vars=true:=by kernel_rfl
theorem actionPlays_j5:(Rows.actionPlaysRow.stops == [])=true:=by kernel_rfl
theorem actionPlays_j7:(Rows.actionPlaysRow.knobs == [])=true:=by kernel_rfl
theorem actionPlays_j9:(Rows.actionPlaysRow.inPlace == Tryz.checked.prog.inPlace 4)=true:=by kernel_rfl
theorem actionPlays_j10:(Rows.actionPlaysRow.unfollowed == Tryz.checked.prog.unfollowed 4)=true:=by kernel_rfl
theorem actionPlays_j11:(Rows.actionPlaysRow.recurses == Tryz.checked.prog.recurses 4)=true:=by kernel_rfl
theorem actionPlays_j12:(Rows.actionPlaysRow.named == Tryz.checked.prog.varsNamed 4)=true:=by kernel_rfl
theorem actionPlays_j13:(Rows.actionPlaysRow.maps == (Tryz.f4.params.toList++Rows.actionPlaysSpec.plain.varTypes Tryz.checked.prog).any (Tryz.checked.prog.mapsRec ·))=true:=by kernel_rfl
theorem actionPlays_j14:(Rows.actionPlaysRow.ifaces == (Tryz.f4.params.toList++Rows.actionPlaysSpec.plain.varTypes Tryz.checked.prog).any (Tryz.checked.prog.ifacesRec ·))=true:=by kernel_rfl
theorem actionPlays_j15:(Rows.actionPlaysRow.mapsOut == Tryz.checked.prog.mapsAmong Tryz.f4.resultTypes.toList)=true:=by kernel_rfl
theorem actionPlays_j16:(Rows.actionPlaysRow.loops == (Tryz.f4.params.toList++Rows.actionPlaysSpec.plain.varTypes Tryz.checked.prog).any (Tryz.checked.prog.loopsFrom ·))=true:=by kernel_rfl
theorem actionPlays_j17:(Rows.actionPlaysRow.wideKeys == (Tryz.f4.params.toList++Rows.actionPlaysSpec.plain.varTypes Tryz.checked.prog++Tryz.f4.resultTypes.toList).any (Tryz.checked.prog.wideKeysFrom ·))=true:=by kernel_rfl
theorem actionPlays_j18:Rows.actionPlaysSpec.vars.all (Tryz.checked.prog.varReadable ·)=true:=by kernel_rfl
theorem actionPlays_j19:Tryz.f4.resultTypes.all (fun t=>Tryz.checked.prog.readableRec t && decide (t < Tryz.checked.prog.types.size))=true:=by kernel_rfl
theorem actionPlays_j20:(Rows.actionPlaysRow.ifacesOut == Tryz.f4.resultTypes.toList.any (Tryz.checked.prog.ifacesRec ·))=true:=by kernel_rfl
theorem actionPlays_j21:(Rows.actionPlaysRow.loopsOut == Tryz.f4.resultTypes.toList.any (Tryz.checked.prog.loopsFrom ·))=true:=by kernel_rfl
theorem actionPlays_j22:(Rows.actionPlaysRow.plainKeys == Tryz.checked.prog.plainKeys)=true:=by kernel_rfl
theorem actionPlays_j23:Rows.actionPlaysRow.shortTexts.isNone=true:=by kernel_rfl
theorem actionPlays_j26:(Rows.actionPlaysRow.lifted == Tryz.checked.prog.liftsFinal)=true:=jfl
theorem actionPlays_j27:(Tryz.checked.prog.make == some Rows.actionPlaysRow.make)=true:=by kernel_rfl
theorem actionPlays_j28:(Rows.actionPlaysRow.kinds == (if Rows.actionPlaysRow.domain.isEmpty then [] else Tryz.f4.params.toList.map fun t=>match Tryz.checked.prog.underlying t with | some (.int k)=>some k | _=>none))=true:=by kernel_rfl
theorem actionPlays_j29:(Rows.actionPlaysRow.pinned == Rows.actionPlaysRow.pinnedBy)=true:=by kernel_rfl
theorem actionPlays_j30:(Rows.actionPlaysRow.veiled == (Tryz.f4.params.toList++Rows.actionPlaysSpec.plain.varTypes Tryz.checked.prog++Tryz.f4.resultTypes.toList).any (Tryz.checked.prog.veiledRec ·))=true:=by kernel_rfl
theorem actionPlays_j31:Rows.actionPlaysRow.veiledFits Tryz.checked.prog Tryz.f4.params.toList (Tryz.f4.params.toList++Rows.actionPlaysSpec.plain.varTypes Tryz.checked.prog++Tryz.f4.resultTypes.toList)=true:=by kernel_rfl
theorem actionPlays_named:Tryz.checked.prog.funcNamed Rows.actionPlaysRow.func=some 4:=by kernel_rfl
theorem actionPlays_inst:Tryz.f4.isInstance Tryz.checked.prog Rows.actionPlaysRow.origin Rows.actionPlaysRow.targs:=of_decide_eq_true (by kernel_rfl)
theorem actionPlays_wrap:Tryz.f4.isWrapper Tryz.checked.prog Rows.actionPlaysRow.wrapper Rows.actionPlaysRow.mainSum:=by unfold Func.isWrapper;first | (rw [if_pos (by decide +kernel)];kernel_rfl) | (rw [if_neg (by decide +kernel)];exact ⟨rfl,rfl⟩)
theorem actionPlays_holds:Rows.ActionPlaysSaid :=
 OpenClaim.holds_of_wide 4 Tryz.f4 rfl rfl rfl rfl rfl rfl rfl ⟨rfl,rfl,rfl,rfl,rfl⟩ rfl rfl rfl rfl rfl actionPlays_named Tryz.func4 (joinedFacts_of actionPlays_j0 jf1 jf2 actionPlays_j3 actionPlays_j4 actionPlays_j5 jf6 actionPlays_j7 jf8 actionPlays_j9 actionPlays_j10 actionPlays_j11 actionPlays_j12 actionPlays_j13 actionPlays_j14 actionPlays_j15 actionPlays_j16 actionPlays_j17 actionPlays_j18 actionPlays_j19 actionPlays_j20 actionPlays_j21 actionPlays_j22 actionPlays_j23 jf24 jf25 actionPlays_j26 actionPlays_j27 actionPlays_j28 actionPlays_j29 actionPlays_j30 actionPlays_j31) actionPlays_inst actionPlays_wrap
  (fun os started H enc _=>actionPlays_lifted os started H enc)
end Go.Proofs.YtnfmpddhcjkjbaaGreatDoor
