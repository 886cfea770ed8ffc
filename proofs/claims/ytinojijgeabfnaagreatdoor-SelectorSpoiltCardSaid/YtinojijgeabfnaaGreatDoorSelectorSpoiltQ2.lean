/- SelectorSpoilt: the row; no condition. -/
import Derived.Test.YtinojijgeabfnaaGreatDoorSelectorSpoiltQ1
import Derived.Test.YtinojijgeabfnaaGreatDoorP3
set_option maxRecDepth 100000
set_option maxHeartbeats 4000000
namespace Go.Proofs.YtinojijgeabfnaaGreatDoor
open Go Go.RowKit Go.SX
open ChangeShapes WideShapes
theorem selectorSpoilt_j0:Rows.selectorSpoiltRow.wf (OpenSpec.ofChange Rows.selectorSpoiltSpec)=true:=by kernel_rfl
theorem selectorSpoilt_j3:Tryz.f5.params.all (Tryz.checked.prog.readableRec ·)=true:=by kernel_rfl
theorem selectorSpoilt_j4:namedTie Tryz.checked.prog Rows.selectorSpoiltRow.named Rows.selectorSpoiltSpec.vars=true:=by kernel_rfl
theorem selectorSpoilt_j5:(Rows.selectorSpoiltRow.stops == [])=true:=by kernel_rfl
theorem selectorSpoilt_j7:(Rows.selectorSpoiltRow.knobs == [])=true:=by kernel_rfl
theorem selectorSpoilt_j9:(Rows.selectorSpoiltRow.inPlace == Tryz.checked.prog.inPlace 5)=true:=by kernel_rfl
theorem selectorSpoilt_j10:(Rows.selectorSpoiltRow.unfollowed == Tryz.checked.prog.unfollowed 5)=true:=by kernel_rfl
theorem selectorSpoilt_j11:(Rows.selectorSpoiltRow.recurses == Tryz.checked.prog.recurses 5)=true:=by kernel_rfl
theorem selectorSpoilt_j12:(Rows.selectorSpoiltRow.named == Tryz.checked.prog.varsNamed 5)=true:=by kernel_rfl
theorem selectorSpoilt_j13:(Rows.selectorSpoiltRow.maps == (Tryz.f5.params.toList++Rows.selectorSpoiltSpec.plain.varTypes Tryz.checked.prog).any (Tryz.checked.prog.mapsRec ·))=true:=by kernel_rfl
theorem selectorSpoilt_j14:(Rows.selectorSpoiltRow.ifaces == (Tryz.f5.params.toList++Rows.selectorSpoiltSpec.plain.varTypes Tryz.checked.prog).any (Tryz.checked.prog.ifacesRec ·))=true:=by kernel_rfl
theorem selectorSpoilt_j15:(Rows.selectorSpoiltRow.mapsOut == Tryz.checked.prog.mapsAmong Tryz.f5.resultTypes.toList)=true:=by kernel_rfl
theorem selectorSpoilt_j16:(Rows.selectorSpoiltRow.loops == (Tryz.f5.params.toList++Rows.selectorSpoiltSpec.plain.varTypes Tryz.checked.prog).any (Tryz.checked.prog.loopsFrom ·))=true:=by kernel_rfl
theorem selectorSpoilt_j17:(Rows.selectorSpoiltRow.wideKeys == (Tryz.f5.params.toList++Rows.selectorSpoiltSpec.plain.varTypes Tryz.checked.prog++Tryz.f5.resultTypes.toList).any (Tryz.checked.prog.wideKeysFrom ·))=true:=by kernel_rfl
theorem selectorSpoilt_j18:Rows.selectorSpoiltSpec.vars.all (Tryz.checked.prog.varReadable ·)=true:=by kernel_rfl
theorem selectorSpoilt_j19:Tryz.f5.resultTypes.all (fun t=>Tryz.checked.prog.readableRec t && decide (t < Tryz.checked.prog.types.size))=true:=by kernel_rfl
theorem selectorSpoilt_j20:(Rows.selectorSpoiltRow.ifacesOut == Tryz.f5.resultTypes.toList.any (Tryz.checked.prog.ifacesRec ·))=true:=by kernel_rfl
theorem selectorSpoilt_j21:(Rows.selectorSpoiltRow.loopsOut == Tryz.f5.resultTypes.toList.any (Tryz.checked.prog.loopsFrom ·))=true:=by kernel_rfl
theorem selectorSpoilt_j22:(Rows.selectorSpoiltRow.plainKeys == Tryz.checked.prog.plainKeys)=true:=by kernel_rfl
theorem selectorSpoilt_j23:Rows.selectorSpoiltRow.shortTexts.isNone=true:=by kernel_rfl
theorem selectorSpoilt_j26:(Rows.selectorSpoiltRow.lifted == Tryz.checked.prog.liftsFinal)=true:=jfl
theorem selectorSpoilt_j27:(Tryz.checked.prog.make == some Rows.selectorSpoiltRow.make)=true:=by kernel_rfl
theorem selectorSpoilt_j28:(Rows.selectorSpoiltRow.kinds == (if Rows.selectorSpoiltRow.domain.isEmpty then [] else Tryz.f5.params.toList.map fun t=>match Tryz.checked.prog.underlying t with | some (.int k)=>some k | _=>none))=true:=by kernel_rfl
theorem selectorSpoilt_j29:(Rows.selectorSpoiltRow.pinned == Rows.selectorSpoiltRow.pinnedBy)=true:=by kernel_rfl
theorem selectorSpoilt_j30:(Rows.selectorSpoiltRow.veiled == (Tryz.f5.params.toList++Rows.selectorSpoiltSpec.plain.varTypes Tryz.checked.prog++Tryz.f5.resultTypes.toList).any (Tryz.checked.prog.veiledRec ·))=true:=by kernel_rfl
theorem selectorSpoilt_j31:Rows.selectorSpoiltRow.veiledFits Tryz.checked.prog Tryz.f5.params.toList (Tryz.f5.params.toList++Rows.selectorSpoiltSpec.plain.varTypes Tryz.checked.prog++Tryz.f5.resultTypes.toList)=true:=by kernel_rfl
theorem selectorSpoilt_named:Tryz.checked.prog.funcNamed Rows.selectorSpoiltRow.func=some 5:=by kernel_rfl
theorem selectorSpoilt_inst:Tryz.f5.isInstance Tryz.checked.prog Rows.selectorSpoiltRow.origin Rows.selectorSpoiltRow.targs:=of_decide_eq_true (by kernel_rfl)
theorem selectorSpoilt_wrap:Tryz.f5.isWrapper Tryz.checked.prog Rows.selectorSpoiltRow.wrapper Rows.selectorSpoiltRow.mainSum:=by unfold Func.isWrapper;first | (rw [if_pos (by decide +kernel)];kernel_rfl) | (rw [if_neg (by decide +kernel)];exact ⟨rfl,rfl⟩)
theorem selectorSpoilt_holds:Rows.SelectorSpoiltSaid :=
 OpenClaim.holds_of_wide 5 Tryz.f5 rfl rfl rfl rfl rfl rfl rfl ⟨rfl,rfl,rfl,rfl,rfl⟩ rfl rfl rfl rfl rfl selectorSpoilt_named Tryz.func5 (joinedFacts_of selectorSpoilt_j0 jf1 jf2 selectorSpoilt_j3 selectorSpoilt_j4 selectorSpoilt_j5 jf6 selectorSpoilt_j7 jf8 selectorSpoilt_j9 selectorSpoilt_j10 selectorSpoilt_j11 selectorSpoilt_j12 selectorSpoilt_j13 selectorSpoilt_j14 selectorSpoilt_j15 selectorSpoilt_j16 selectorSpoilt_j17 selectorSpoilt_j18 selectorSpoilt_j19 selectorSpoilt_j20 selectorSpoilt_j21 selectorSpoilt_j22 selectorSpoilt_j23 jf24 jf25 selectorSpoilt_j26 selectorSpoilt_j27 selectorSpoilt_j28 selectorSpoilt_j29 selectorSpoilt_j30 selectorSpoilt_j31) selectorSpoilt_inst selectorSpoilt_wrap
  (fun os started H enc _=>selectorSpoilt_lifted os started H enc)
end Go.Proofs.YtinojijgeabfnaaGreatDoor
