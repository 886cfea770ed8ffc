/- SelectorLater: the row; no condition. -/
import Derived.Test.YtinojijgeabfnaaGreatDoorSelectorLaterQ2
import Derived.Test.YtinojijgeabfnaaGreatDoorP3
set_option maxRecDepth 100000
set_option maxHeartbeats 4000000
namespace Go.Proofs.YtinojijgeabfnaaGreatDoor
open Go Go.RowKit Go.SX
open ChangeShapes WideShapes
theorem selectorLater_j0:Rows.selectorLaterRow.wf (OpenSpec.ofChange Rows.selectorLaterSpec)=true:=by kernel_rfl
theorem selectorLater_j3:Tryz.f7.params.all (Tryz.checked.prog.readableRec ·)=true:=by kernel_rfl
theorem selectorLater_j4:namedTie Tryz.checked.prog Rows.selectorLaterRow.named Rows.selectorLaterSpec.vars=true:=by kernel_rfl
theorem selectorLater_j5:(Rows.selectorLaterRow.stops == [])=true:=by kernel_rfl
theorem selectorLater_j7:(Rows.selectorLaterRow.knobs == [])=true:=by kernel_rfl
theorem selectorLater_j9:(Rows.selectorLaterRow.inPlace == Tryz.checked.prog.inPlace 7)=true:=by kernel_rfl
theorem selectorLater_j10:(Rows.selectorLaterRow.unfollowed == Tryz.checked.prog.unfollowed 7)=true:=by kernel_rfl
theorem selectorLater_j11:(Rows.selectorLaterRow.recurses == Tryz.checked.prog.recurses 7)=true:=by kernel_rfl
theorem selectorLater_j12:(Rows.selectorLaterRow.named == Tryz.checked.prog.varsNamed 7)=true:=by kernel_rfl
theorem selectorLater_j13:(Rows.selectorLaterRow.maps == (Tryz.f7.params.toList++Rows.selectorLaterSpec.plain.varTypes Tryz.checked.prog).any (Tryz.checked.prog.mapsRec ·))=true:=by kernel_rfl
theorem selectorLater_j14:(Rows.selectorLaterRow.ifaces == (Tryz.f7.params.toList++Rows.selectorLaterSpec.plain.varTypes Tryz.checked.prog).any (Tryz.checked.prog.ifacesRec ·))=true:=by kernel_rfl
theorem selectorLater_j15:(Rows.selectorLaterRow.mapsOut == Tryz.checked.prog.mapsAmong Tryz.f7.resultTypes.toList)=true:=by kernel_rfl
theorem selectorLater_j16:(Rows.selectorLaterRow.loops == (Tryz.f7.params.toList++Rows.selectorLaterSpec.plain.varTypes Tryz.checked.prog).any (Tryz.checked.prog.loopsFrom ·))=true:=by kernel_rfl
theorem selectorLater_j17:(Rows.selectorLaterRow.wideKeys == (Tryz.f7.params.toList++Rows.selectorLaterSpec.plain.varTypes Tryz.checked.prog++Tryz.f7.resultTypes.toList).any (Tryz.checked.prog.wideKeysFrom ·))=true:=by kernel_rfl
theorem selectorLater_j18:Rows.selectorLaterSpec.vars.all (Tryz.checked.prog.varReadable ·)=true:=by kernel_rfl
theorem selectorLater_j19:Tryz.f7.resultTypes.all (fun t=>Tryz.checked.prog.readableRec t && decide (t < Tryz.checked.prog.types.size))=true:=by kernel_rfl
theorem selectorLater_j20:(Rows.selectorLaterRow.ifacesOut == Tryz.f7.resultTypes.toList.any (Tryz.checked.prog.ifacesRec ·))=true:=by kernel_rfl
theorem selectorLater_j21:(Rows.selectorLaterRow.loopsOut == Tryz.f7.resultTypes.toList.any (Tryz.checked.prog.loopsFrom ·))=true:=by kernel_rfl
theorem selectorLater_j22:(Rows.selectorLaterRow.plainKeys == Tryz.checked.prog.plainKeys)=true:=by kernel_rfl
theorem selectorLater_j23:Rows.selectorLaterRow.shortTexts.isNone=true:=by kernel_rfl
theorem selectorLater_j26:(Rows.selectorLaterRow.lifted == Tryz.checked.prog.liftsFinal)=true:=jfl
theorem selectorLater_j27:(Tryz.checked.prog.make == some Rows.selectorLaterRow.make)=true:=by kernel_rfl
theorem selectorLater_j28:(Rows.selectorLaterRow.kinds == (if Rows.selectorLaterRow.domain.isEmpty then [] else Tryz.f7.params.toList.map fun t=>match Tryz.checked.prog.underlying t with | some (.int k)=>some k | _=>none))=true:=by kernel_rfl
theorem selectorLater_j29:(Rows.selectorLaterRow.pinned == Rows.selectorLaterRow.pinnedBy)=true:=by kernel_rfl
theorem selectorLater_j30:(Rows.selectorLaterRow.veiled == (Tryz.f7.params.toList++Rows.selectorLaterSpec.plain.varTypes Tryz.checked.prog++Tryz.f7.resultTypes.toList).any (Tryz.checked.prog.veiledRec ·))=true:=by kernel_rfl
theorem selectorLater_j31:Rows.selectorLaterRow.veiledFits Tryz.checked.prog Tryz.f7.params.toList (Tryz.f7.params.toList++Rows.selectorLaterSpec.plain.varTypes Tryz.checked.prog++Tryz.f7.resultTypes.toList)=true:=by kernel_rfl
theorem selectorLater_named:Tryz.checked.prog.funcNamed Rows.selectorLaterRow.func=some 7:=by kernel_rfl
theorem selectorLater_inst:Tryz.f7.isInstance Tryz.checked.prog Rows.selectorLaterRow.origin Rows.selectorLaterRow.targs:=of_decide_eq_true (by kernel_rfl)
theorem selectorLater_wrap:Tryz.f7.isWrapper Tryz.checked.prog Rows.selectorLaterRow.wrapper Rows.selectorLaterRow.mainSum:=by unfold Func.isWrapper;first | (rw [if_pos (by decide +kernel)];kernel_rfl) | (rw [if_neg (by decide +kernel)];exact ⟨rfl,rfl⟩)
theorem selectorLater_holds:Rows.SelectorLaterSaid :=
 OpenClaim.holds_of_wide 7 Tryz.f7 rfl rfl rfl rfl rfl rfl rfl ⟨rfl,rfl,rfl,rfl,rfl⟩ rfl rfl rfl rfl rfl selectorLater_named Tryz.func7 (joinedFacts_of selectorLater_j0 jf1 jf2 selectorLater_j3 selectorLater_j4 selectorLater_j5 jf6 selectorLater_j7 jf8 selectorLater_j9 selectorLater_j10 selectorLater_j11 selectorLater_j12 selectorLater_j13 selectorLater_j14 selectorLater_j15 selectorLater_j16 selectorLater_j17 selectorLater_j18 selectorLater_j19 selectorLater_j20 selectorLater_j21 selectorLater_j22 selectorLater_j23 jf24 jf25 selectorLater_j26 selectorLater_j27 selectorLater_j28 selectorLater_j29 selectorLater_j30 selectorLater_j31) selectorLater_inst selectorLater_wrap
  (fun os started H enc _=>selectorLater_lifted os started H enc)
end Go.Proofs.YtinojijgeabfnaaGreatDoor
