/- SelectorSingle: the row; no condition. -/
import Derived.Test.YtinojijgeabfnaaGreatDoorSelectorSingleQ1
import Derived.Test.YtinojijgeabfnaaGreatDoorP3
set_option maxRecDepth 100000
set_option maxHeartbeats 4000000
namespace Go.Proofs.YtinojijgeabfnaaGreatDoor
open Go Go.RowKit Go.SX
open ChangeShapes WideShapes
theorem selectorSingle_j0:Rows.selectorSingleRow.wf (OpenSpec.ofChange Rows.selectorSingleSpec)=true:=by kernel_rfl
theorem selectorSingle_j3:Tryz.f9.params.all (Tryz.checked.prog.readableRec ·)=true:=by kernel_rfl
theorem selectorSingle_j4:namedTie Tryz.checked.prog Rows.selectorSingleRow.named Rows.selectorSingleSpec.vars=true:=by kernel_rfl
theorem selectorSingle_j5:(Rows.selectorSingleRow.stops == [])=true:=by kernel_rfl
theorem selectorSingle_j7:(Rows.selectorSingleRow.knobs == [])=true:=by kernel_rfl
theorem selectorSingle_j9:(Rows.selectorSingleRow.inPlace == Tryz.checked.prog.inPlace 9)=true:=by kernel_rfl
theorem selectorSingle_j10:(Rows.selectorSingleRow.unfollowed == Tryz.checked.prog.unfollowed 9)=true:=by kernel_rfl
theorem selectorSingle_j11:(Rows.selectorSingleRow.recurses == Tryz.checked.prog.recurses 9)=true:=by kernel_rfl
theorem selectorSingle_j12:(Rows.selectorSingleRow.named == Tryz.checked.prog.varsNamed 9)=true:=by kernel_rfl
theorem selectorSingle_j13:(Rows.selectorSingleRow.maps == (Tryz.f9.params.toList++Rows.selectorSingleSpec.plain.varTypes Tryz.checked.prog).any (Tryz.checked.prog.mapsRec ·))=true:=by kernel_rfl
theorem selectorSingle_j14:(Rows.selectorSingleRow.ifaces == (Tryz.f9.params.toList++Rows.selectorSingleSpec.plain.varTypes Tryz.checked.prog).any (Tryz.checked.prog.ifacesRec ·))=true:=by kernel_rfl
theorem selectorSingle_j15:(Rows.selectorSingleRow.mapsOut == Tryz.checked.prog.mapsAmong Tryz.f9.resultTypes.toList)=true:=by kernel_rfl
theorem selectorSingle_j16:(Rows.selectorSingleRow.loops == (Tryz.f9.params.toList++Rows.selectorSingleSpec.plain.varTypes Tryz.checked.prog).any (Tryz.checked.prog.loopsFrom ·))=true:=by kernel_rfl
theorem selectorSingle_j17:(Rows.selectorSingleRow.wideKeys == (Tryz.f9.params.toList++Rows.selectorSingleSpec.plain.varTypes Tryz.checked.prog++Tryz.f9.resultTypes.toList).any (Tryz.checked.prog.wideKeysFrom ·))=true:=by kernel_rfl
theorem selectorSingle_j18:Rows.selectorSingleSpec.vars.all (Tryz.checked.prog.varReadable ·)=true:=by kernel_rfl
theorem selectorSingle_j19:Tryz.f9.resultTypes.all (fun t=>Tryz.checked.prog.readableRec t && decide (t < Tryz.checked.prog.types.size))=true:=by kernel_rfl
theorem selectorSingle_j20:(Rows.selectorSingleRow.ifacesOut == Tryz.f9.resultTypes.toList.any (Tryz.checked.prog.ifacesRec ·))=true:=by kernel_rfl
theorem selectorSingle_j21:(Rows.selectorSingleRow.loopsOut == Tryz.f9.resultTypes.toList.any (Tryz.checked.prog.loopsFrom ·))=true:=by kernel_rfl
theorem selectorSingle_j22:(Rows.selectorSingleRow.plainKeys == Tryz.checked.prog.plainKeys)=true:=by kernel_rfl
theorem selectorSingle_j23:Rows.selectorSingleRow.shortTexts.isNone=true:=by kernel_rfl
theorem selectorSingle_j26:(Rows.selectorSingleRow.lifted == Tryz.checked.prog.liftsFinal)=true:=jfl
theorem selectorSingle_j27:(Tryz.checked.prog.make == some Rows.selectorSingleRow.make)=true:=by kernel_rfl
theorem selectorSingle_j28:(Rows.selectorSingleRow.kinds == (if Rows.selectorSingleRow.domain.isEmpty then [] else Tryz.f9.params.toList.map fun t=>match Tryz.checked.prog.underlying t with | some (.int k)=>some k | _=>none))=true:=by kernel_rfl
theorem selectorSingle_j29:(Rows.selectorSingleRow.pinned == Rows.selectorSingleRow.pinnedBy)=true:=by kernel_rfl
theorem selectorSingle_j30:(Rows.selectorSingleRow.veiled == (Tryz.f9.params.toList++Rows.selectorSingleSpec.plain.varTypes Tryz.checked.prog++Tryz.f9.resultTypes.toList).any (Tryz.checked.prog.veiledRec ·))=true:=by kernel_rfl
theorem selectorSingle_j31:Rows.selectorSingleRow.veiledFits Tryz.checked.prog Tryz.f9.params.toList (Tryz.f9.params.toList++Rows.selectorSingleSpec.plain.varTypes Tryz.checked.prog++Tryz.f9.resultTypes.toList)=true:=by kernel_rfl
theorem selectorSingle_named:Tryz.checked.prog.funcNamed Rows.selectorSingleRow.func=some 9:=by kernel_rfl
theorem selectorSingle_inst:Tryz.f9.isInstance Tryz.checked.prog Rows.selectorSingleRow.origin Rows.selectorSingleRow.targs:=of_decide_eq_true (by kernel_rfl)
theorem selectorSingle_wrap:Tryz.f9.isWrapper Tryz.checked.prog Rows.selectorSingleRow.wrapper Rows.selectorSingleRow.mainSum:=by unfold Func.isWrapper;first | (rw [if_pos (by decide +kernel)];kernel_rfl) | (rw [if_neg (by decide +kernel)];exact ⟨rfl,rfl⟩)
theorem selectorSingle_holds:Rows.SelectorSingleSaid :=
 OpenClaim.holds_of_wide 9 Tryz.f9 rfl rfl rfl rfl rfl rfl rfl ⟨rfl,rfl,rfl,rfl,rfl⟩ rfl rfl rfl rfl rfl selectorSingle_named Tryz.func9 (joinedFacts_of selectorSingle_j0 jf1 jf2 selectorSingle_j3 selectorSingle_j4 selectorSingle_j5 jf6 selectorSingle_j7 jf8 selectorSingle_j9 selectorSingle_j10 selectorSingle_j11 selectorSingle_j12 selectorSingle_j13 selectorSingle_j14 selectorSingle_j15 selectorSingle_j16 selectorSingle_j17 selectorSingle_j18 selectorSingle_j19 selectorSingle_j20 selectorSingle_j21 selectorSingle_j22 selectorSingle_j23 jf24 jf25 selectorSingle_j26 selectorSingle_j27 selectorSingle_j28 selectorSingle_j29 selectorSingle_j30 selectorSingle_j31) selectorSingle_inst selectorSingle_wrap
  (fun os started H enc _=>selectorSingle_lifted os started H enc)
end Go.Proofs.YtinojijgeabfnaaGreatDoor
