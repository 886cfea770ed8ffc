/- SelectorMiddle: the row; no condition. -/
import Derived.Test.YtinojijgeabfnaaGreatDoorSelectorMiddleQ2
import Derived.Test.YtinojijgeabfnaaGreatDoorP3
set_option maxRecDepth 100000
set_option maxHeartbeats 4000000
namespace Go.Proofs.YtinojijgeabfnaaGreatDoor
open Go Go.RowKit Go.SX
open ChangeShapes WideShapes
theorem selectorMiddle_j0:Rows.selectorMiddleRow.wf (OpenSpec.ofChange Rows.selectorMiddleSpec)=true:=by kernel_rfl
theorem selectorMiddle_j3:Tryz.f6.params.all (Tryz.checked.prog.readableRec ·)=true:=by kernel_rfl
theorem selectorMiddle_j4:namedTie Tryz.checked.prog Rows.selectorMiddleRow.named Rows.selectorMiddleSpec.vars=true:=by kernel_rfl
theorem selectorMiddle_j5:(Rows.selectorMiddleRow.stops == [])=true:=by kernel_rfl
theorem selectorMiddle_j7:(Rows.selectorMiddleRow.knobs == [])=true:=by kernel_rfl
theorem selectorMiddle_j9:(Rows.selectorMiddleRow.inPlace == Tryz.checked.prog.inPlace 6)=true:=by kernel_rfl
theorem selectorMiddle_j10:(Rows.selectorMiddleRow.unfollowed == Tryz.checked.prog.unfollowed 6)=true:=by kernel_rfl
theorem selectorMiddle_j11:(Rows.selectorMiddleRow.recurses == Tryz.checked.prog.recurses 6)=true:=by kernel_rfl
theorem selectorMiddle_j12:(Rows.selectorMiddleRow.named == Tryz.checked.prog.varsNamed 6)=true:=by kernel_rfl
theorem selectorMiddle_j13:(Rows.selectorMiddleRow.maps == (Tryz.f6.params.toList++Rows.selectorMiddleSpec.plain.varTypes Tryz.checked.prog).any (Tryz.checked.prog.mapsRec ·))=true:=by kernel_rfl
theorem selectorMiddle_j14:(Rows.selectorMiddleRow.ifaces == (Tryz.f6.params.toList++Rows.selectorMiddleSpec.plain.varTypes Tryz.checked.prog).any (Tryz.checked.prog.ifacesRec ·))=true:=by kernel_rfl
theorem selectorMiddle_j15:(Rows.selectorMiddleRow.mapsOut == Tryz.checked.prog.mapsAmong Tryz.f6.resultTypes.toList)=true:=by kernel_rfl
theorem selectorMiddle_j16:(Rows.selectorMiddleRow.loops == (Tryz.f6.params.toList++Rows.selectorMiddleSpec.plain.varTypes Tryz.checked.prog).any (Tryz.checked.prog.loopsFrom ·))=true:=by kernel_rfl
theorem selectorMiddle_j17:(Rows.selectorMiddleRow.wideKeys == (Tryz.f6.params.toList++Rows.selectorMiddleSpec.plain.varTypes Tryz.checked.prog++Tryz.f6.resultTypes.toList).any (Tryz.checked.prog.wideKeysFrom ·))=true:=by kernel_rfl
theorem selectorMiddle_j18:Rows.selectorMiddleSpec.vars.all (Tryz.checked.prog.varReadable ·)=true:=by kernel_rfl
theorem selectorMiddle_j19:Tryz.f6.resultTypes.all (fun t=>Tryz.checked.prog.readableRec t && decide (t < Tryz.checked.prog.types.size))=true:=by kernel_rfl
theorem selectorMiddle_j20:(Rows.selectorMiddleRow.ifacesOut == Tryz.f6.resultTypes.toList.any (Tryz.checked.prog.ifacesRec ·))=true:=by kernel_rfl
theorem selectorMiddle_j21:(Rows.selectorMiddleRow.loopsOut == Tryz.f6.resultTypes.toList.any (Tryz.checked.prog.loopsFrom ·))=true:=by kernel_rfl
theorem selectorMiddle_j22:(Rows.selectorMiddleRow.plainKeys == Tryz.checked.prog.plainKeys)=true:=by kernel_rfl
theorem selectorMiddle_j23:Rows.selectorMiddleRow.shortTexts.isNone=true:=by kernel_rfl
theorem selectorMiddle_j26:(Rows.selectorMiddleRow.lifted == Tryz.checked.prog.liftsFinal)=true:=jfl
theorem selectorMiddle_j27:(Tryz.checked.prog.make == some Rows.selectorMiddleRow.make)=true:=by kernel_rfl
theorem selectorMiddle_j28:(Rows.selectorMiddleRow.kinds == (if Rows.selectorMiddleRow.domain.isEmpty then [] else Tryz.f6.params.toList.map fun t=>match Tryz.checked.prog.underlying t with | some (.int k)=>some k | _=>none))=true:=by kernel_rfl
theorem selectorMiddle_j29:(Rows.selectorMiddleRow.pinned == Rows.selectorMiddleRow.pinnedBy)=true:=by kernel_rfl
theorem selectorMiddle_j30:(Rows.selectorMiddleRow.veiled == (Tryz.f6.params.toList++Rows.selectorMiddleSpec.plain.varTypes Tryz.checked.prog++Tryz.f6.resultTypes.toList).any (Tryz.checked.prog.veiledRec ·))=true:=by kernel_rfl
theorem selectorMiddle_j31:Rows.selectorMiddleRow.veiledFits Tryz.checked.prog Tryz.f6.params.toList (Tryz.f6.params.toList++Rows.selectorMiddleSpec.plain.varTypes Tryz.checked.prog++Tryz.f6.resultTypes.toList)=true:=by kernel_rfl
theorem selectorMiddle_named:Tryz.checked.prog.funcNamed Rows.selectorMiddleRow.func=some 6:=by kernel_rfl
theorem selectorMiddle_inst:Tryz.f6.isInstance Tryz.checked.prog Rows.selectorMiddleRow.origin Rows.selectorMiddleRow.targs:=of_decide_eq_true (by kernel_rfl)
theorem selectorMiddle_wrap:Tryz.f6.isWrapper Tryz.checked.prog Rows.selectorMiddleRow.wrapper Rows.selectorMiddleRow.mainSum:=by unfold Func.isWrapper;first | (rw [if_pos (by decide +kernel)];kernel_rfl) | (rw [if_neg (by decide +kernel)];exact ⟨rfl,rfl⟩)
theorem selectorMiddle_holds:Rows.SelectorMiddleSaid :=
 OpenClaim.holds_of_wide 6 Tryz.f6 rfl rfl rfl rfl rfl rfl rfl ⟨rfl,rfl,rfl,rfl,rfl⟩ rfl rfl rfl rfl rfl selectorMiddle_named Tryz.func6 (joinedFacts_of selectorMiddle_j0 jf1 jf2 selectorMiddle_j3 selectorMiddle_j4 selectorMiddle_j5 jf6 selectorMiddle_j7 jf8 selectorMiddle_j9 selectorMiddle_j10 selectorMiddle_j11 selectorMiddle_j12 selectorMiddle_j13 selectorMiddle_j14 selectorMiddle_j15 selectorMiddle_j16 selectorMiddle_j17 selectorMiddle_j18 selectorMiddle_j19 selectorMiddle_j20 selectorMiddle_j21 selectorMiddle_j22 selectorMiddle_j23 jf24 jf25 selectorMiddle_j26 selectorMiddle_j27 selectorMiddle_j28 selectorMiddle_j29 selectorMiddle_j30 selectorMiddle_j31) selectorMiddle_inst selectorMiddle_wrap
  (fun os started H enc _=>selectorMiddle_lifted os started H enc)
end Go.Proofs.YtinojijgeabfnaaGreatDoor
