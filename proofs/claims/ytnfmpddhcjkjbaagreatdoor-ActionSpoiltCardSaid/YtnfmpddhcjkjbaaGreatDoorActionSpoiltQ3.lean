/- ActionSpoilt: the row; no condition. -/
import Derived.Test.YtnfmpddhcjkjbaaGreatDoorActionSpoiltQ2
import Derived.Test.YtnfmpddhcjkjbaaGreatDoorP2
set_option maxRecDepth 100000
set_option maxHeartbeats 4000000
namespace Go.Proofs.YtnfmpddhcjkjbaaGreatDoor
open Go Go.RowKit Go.SX
open ChangeShapes WideShapes
theorem actionSpoilt_j0:Rows.actionSpoiltRow.wf (OpenSpec.ofChange Rows.actionSpoiltSpec)=true:=by kernel_rfl
theorem actionSpoilt_j3:Tryz.f10.params.all (Tryz.checked.prog.readableRec ·)=true:=by kernel_rfl
theorem actionSpoilt_j4:namedTie Tryz.checked.prog Rows.actionSpoiltRow.named Rows.actionSpoiltSpec.vars=true:=by kernel_rfl
theorem actionSpoilt_j5:(Rows.actionSpoiltRow.stops == [])=true:=by kernel_rfl
theorem actionSpoilt_j7:(Rows.actionSpoiltRow.knobs == [])=true:=by kernel_rfl
theorem actionSpoilt_j9:(Rows.actionSpoiltRow.inPlace == Tryz.checked.prog.inPlace 10)=true:=by kernel_rfl
theorem actionSpoilt_j10:(Rows.actionSpoiltRow.unfollowed == Tryz.checked.prog.unfollowed 10)=true:=by kernel_rfl
theorem actionSpoilt_j11:(Rows.actionSpoiltRow.recurses == Tryz.checked.prog.recurses 10)=true:=by kernel_rfl
theorem actionSpoilt_j12:(Rows.actionSpoiltRow.named == Tryz.checked.prog.varsNamed 10)=true:=by kernel_rfl
theorem actionSpoilt_j13:(Rows.actionSpoiltRow.maps == (Tryz.f10.params.toList++Rows.actionSpoiltSpec.plain.varTypes Tryz.checked.prog).any (Tryz.checked.prog.mapsRec ·))=true:=by kernel_rfl
theorem actionSpoilt_j14:(Rows.actionSpoiltRow.ifaces == (Tryz.f10.params.toList++Rows.actionSpoiltSpec.plain.varTypes Tryz.checked.prog).any (Tryz.checked.prog.ifacesRec ·))=true:=by kernel_rfl
theorem actionSpoilt_j15:(Rows.actionSpoiltRow.mapsOut == Tryz.checked.prog.mapsAmong Tryz.f10.resultTypes.toList)=true:=by kernel_rfl
theorem actionSpoilt_j16:(Rows.actionSpoiltRow.loops == (Tryz.f10.params.toList++Rows.actionSpoiltSpec.plain.varTypes Tryz.checked.prog).any (Tryz.checked.prog.loopsFrom ·))=true:=by kernel_rfl
theorem actionSpoilt_j17:(Rows.actionSpoiltRow.wideKeys == (Tryz.f10.params.toList++Rows.actionSpoiltSpec.plain.varTypes Tryz.checked.prog++Tryz.f10.resultTypes.toList).any (Tryz.checked.prog.wideKeysFrom ·))=true:=by kernel_rfl
theorem actionSpoilt_j18:Rows.actionSpoiltSpec.vars.all (Tryz.checked.prog.varReadable ·)=true:=by kernel_rfl
theorem actionSpoilt_j19:Tryz.f10.resultTypes.all (fun t=>Tryz.checked.prog.readableRec t && decide (t < Tryz.checked.prog.types.size))=true:=by kernel_rfl
theorem actionSpoilt_j20:(Rows.actionSpoiltRow.ifacesOut == Tryz.f10.resultTypes.toList.any (Tryz.checked.prog.ifacesRec ·))=true:=by kernel_rfl
theorem actionSpoilt_j21:(Rows.actionSpoiltRow.loopsOut == Tryz.f10.resultTypes.toList.any (Tryz.checked.prog.loopsFrom ·))=true:=by kernel_rfl
theorem actionSpoilt_j22:(Rows.actionSpoiltRow.plainKeys == Tryz.checked.prog.plainKeys)=true:=by kernel_rfl
theorem actionSpoilt_j23:Rows.actionSpoiltRow.shortTexts.isNone=true:=by kernel_rfl
theorem actionSpoilt_j26:(Rows.actionSpoiltRow.lifted == Tryz.checked.prog.liftsFinal)=true:=jfl
theorem actionSpoilt_j27:(Tryz.checked.prog.make == some Rows.actionSpoiltRow.make)=true:=by kernel_rfl
theorem actionSpoilt_j28:(Rows.actionSpoiltRow.kinds == (if Rows.actionSpoiltRow.domain.isEmpty then [] else Tryz.f10.params.toList.map fun t=>match Tryz.checked.prog.underlying t with | some (.int k)=>some k | _=>none))=true:=by kernel_rfl
theorem actionSpoilt_j29:(Rows.actionSpoiltRow.pinned == Rows.actionSpoiltRow.pinnedBy)=true:=by kernel_rfl
theorem actionSpoilt_j30:(Rows.actionSpoiltRow.veiled == (Tryz.f10.params.toList++Rows.actionSpoiltSpec.plain.varTypes Tryz.checked.prog++Tryz.f10.resultTypes.toList).any (Tryz.checked.prog.veiledRec ·))=true:=by kernel_rfl
theorem actionSpoilt_j31:Rows.actionSpoiltRow.veiledFits Tryz.checked.prog Tryz.f10.params.toList (Tryz.f10.params.toList++Rows.actionSpoiltSpec.plain.varTypes Tryz.checked.prog++Tryz.f10.resultTypes.toList)=true:=by kernel_rfl
theorem actionSpoilt_named:Tryz.checked.prog.funcNamed Rows.actionSpoiltRow.func=some 10:=by kernel_rfl
theorem actionSpoilt_inst:Tryz.f10.isInstance Tryz.checked.prog Rows.actionSpoiltRow.origin Rows.actionSpoiltRow.targs:=of_decide_eq_true (by kernel_rfl)
theorem actionSpoilt_wrap:Tryz.f10.isWrapper Tryz.checked.prog Rows.actionSpoiltRow.wrapper Rows.actionSpoiltRow.mainSum:=by unfold Func.isWrapper;first | (rw [if_pos (by decide +kernel)];kernel_rfl) | (rw [if_neg (by decide +kernel)];exact ⟨rfl,rfl⟩)
theorem actionSpoilt_holds:Rows.ActionSpoiltSaid :=
 OpenClaim.holds_of_wide 10 Tryz.f10 rfl rfl rfl rfl rfl rfl rfl ⟨rfl,rfl,rfl,rfl,rfl⟩ rfl rfl rfl rfl rfl actionSpoilt_named Tryz.func10 (joinedFacts_of actionSpoilt_j0 jf1 jf2 actionSpoilt_j3 actionSpoilt_j4 actionSpoilt_j5 jf6 actionSpoilt_j7 jf8 actionSpoilt_j9 actionSpoilt_j10 actionSpoilt_j11 actionSpoilt_j12 actionSpoilt_j13 actionSpoilt_j14 actionSpoilt_j15 actionSpoilt_j16 actionSpoilt_j17 actionSpoilt_j18 actionSpoilt_j19 actionSpoilt_j20 actionSpoilt_j21 actionSpoilt_j22 actionSpoilt_j23 jf24 jf25 actionSpoilt_j26 actionSpoilt_j27 actionSpoilt_j28 actionSpoilt_j29 actionSpoilt_j30 actionSpoilt_j31) actionSpoilt_inst actionSpoilt_wrap
  (fun os started H enc _=>actionSpoilt_lifted os started H enc)
end Go.Proofs.YtnfmpddhcjkjbaaGreatDoor
