/- SelectorMajority: the row; no condition. -/
import Derived.Test.YtinojijgeabfnaaGreatDoorSelectorMajorityQ1
import Derived.Test.YtinojijgeabfnaaGreatDoorP3
set_option maxRecDepth 100000
set_option maxHeartbeats 4000000
namespace Go.Proofs.YtinojijgeabfnaaGreatDoor
open Go Go.RowKit Go.SX
open ChangeShapes WideShapes
theorem selectorMajority_j0:Rows.selectorMajorityRow.wf (OpenSpec.ofChange Rows.selectorMajoritySpec)=true:=by kernel_rfl
theorem selectorMajority_j3:Tryz.f8.params.all (Tryz.checked.prog.readableRec ·)=true:=by kernel_rfl
theorem selectorMajority_j4:namedTie Tryz.checked.prog Rows.selectorMajorityRow.named Rows.selectorMajoritySpec.vars=true:=by kernel_rfl
theorem selectorMajority_j5:(Rows.selectorMajorityRow.stops == [])=true:=by kernel_rfl
theorem selectorMajority_j7:(Rows.selectorMajorityRow.knobs == [])=true:=by kernel_rfl
theorem selectorMajority_j9:(Rows.selectorMajorityRow.inPlace == Tryz.checked.prog.inPlace 8)=true:=by kernel_rfl
theorem selectorMajority_j10:(Rows.selectorMajorityRow.unfollowed == Tryz.checked.prog.unfollowed 8)=true:=by kernel_rfl
theorem selectorMajority_j11:(Rows.selectorMajorityRow.recurses == Tryz.checked.prog.recurses 8)=true:=by kernel_rfl
theorem selectorMajority_j12:(Rows.selectorMajorityRow.named == Tryz.checked.prog.varsNamed 8)=true:=by kernel_rfl
theorem selectorMajority_j13:(Rows.selectorMajorityRow.maps == (Tryz.f8.params.toList++Rows.selectorMajoritySpec.plain.varTypes Tryz.checked.prog).any (Tryz.checked.prog.mapsRec ·))=true:=by kernel_rfl
theorem selectorMajority_j14:(Rows.selectorMajorityRow.ifaces == (Tryz.f8.params.toList++Rows.selectorMajoritySpec.plain.varTypes Tryz.checked.prog).any (Tryz.checked.prog.ifacesRec ·))=true:=by kernel_rfl
theorem selectorMajority_j15:(Rows.selectorMajorityRow.mapsOut == Tryz.checked.prog.mapsAmong Tryz.f8.resultTypes.toList)=true:=by kernel_rfl
theorem selectorMajority_j16:(Rows.selectorMajorityRow.loops == (Tryz.f8.params.toList++Rows.selectorMajoritySpec.plain.varTypes Tryz.checked.prog).any (Tryz.checked.prog.loopsFrom ·))=true:=by kernel_rfl
theorem selectorMajority_j17:(Rows.selectorMajorityRow.wideKeys == (Tryz.f8.params.toList++Rows.selectorMajoritySpec.plain.varTypes Tryz.checked.prog++Tryz.f8.resultTypes.toList).any (Tryz.checked.prog.wideKeysFrom ·))=true:=by kernel_rfl
theorem selectorMajority_j18:Rows.selectorMajoritySpec.vars.all (Tryz.checked.prog.varReadable ·)=true:=by kernel_rfl
theorem selectorMajority_j19:Tryz.f8.resultTypes.all (fun t=>Tryz.checked.prog.readableRec t && decide (t < Tryz.checked.prog.types.size))=true:=by kernel_rfl
theorem selectorMajority_j20:(Rows.selectorMajorityRow.ifacesOut == Tryz.f8.resultTypes.toList.any (Tryz.checked.prog.ifacesRec ·))=true:=by kernel_rfl
theorem selectorMajority_j21:(Rows.selectorMajorityRow.loopsOut == Tryz.f8.resultTypes.toList.any (Tryz.checked.prog.loopsFrom ·))=true:=by kernel_rfl
theorem selectorMajority_j22:(Rows.selectorMajorityRow.plainKeys == Tryz.checked.prog.plainKeys)=true:=by kernel_rfl
theorem selectorMajority_j23:Rows.selectorMajorityRow.shortTexts.isNone=true:=by kernel_rfl
theorem selectorMajority_j26:(Rows.selectorMajorityRow.lifted == Tryz.checked.prog.liftsFinal)=true:=jfl
theorem selectorMajority_j27:(Tryz.checked.prog.make == some Rows.selectorMajorityRow.make)=true:=by kernel_rfl
theorem selectorMajority_j28:(Rows.selectorMajorityRow.kinds == (if Rows.selectorMajorityRow.domain.isEmpty then [] else Tryz.f8.params.toList.map fun t=>match Tryz.checked.prog.underlying t with | some (.int k)=>some k | _=>none))=true:=by kernel_rfl
theorem selectorMajority_j29:(Rows.selectorMajorityRow.pinned == Rows.selectorMajorityRow.pinnedBy)=true:=by kernel_rfl
theorem selectorMajority_j30:(Rows.selectorMajorityRow.veiled == (Tryz.f8.params.toList++Rows.selectorMajoritySpec.plain.varTypes Tryz.checked.prog++Tryz.f8.resultTypes.toList).any (Tryz.checked.prog.veiledRec ·))=true:=by kernel_rfl
theorem selectorMajority_j31:Rows.selectorMajorityRow.veiledFits Tryz.checked.prog Tryz.f8.params.toList (Tryz.f8.params.toList++Rows.selectorMajoritySpec.plain.varTypes Tryz.checked.prog++Tryz.f8.resultTypes.toList)=true:=by kernel_rfl
theorem selectorMajority_named:Tryz.checked.prog.funcNamed Rows.selectorMajorityRow.func=some 8:=by kernel_rfl
theorem selectorMajority_inst:Tryz.f8.isInstance Tryz.checked.prog Rows.selectorMajorityRow.origin Rows.selectorMajorityRow.targs:=of_decide_eq_true (by kernel_rfl)
theorem selectorMajority_wrap:Tryz.f8.isWrapper Tryz.checked.prog Rows.selectorMajorityRow.wrapper Rows.selectorMajorityRow.mainSum:=by unfold Func.isWrapper;first | (rw [if_pos (by decide +kernel)];kernel_rfl) | (rw [if_neg (by decide +kernel)];exact ⟨rfl,rfl⟩)
theorem selectorMajority_holds:Rows.SelectorMajoritySaid :=
 OpenClaim.holds_of_wide 8 Tryz.f8 rfl rfl rfl rfl rfl rfl rfl ⟨rfl,rfl,rfl,rfl,rfl⟩ rfl rfl rfl rfl rfl selectorMajority_named Tryz.func8 (joinedFacts_of selectorMajority_j0 jf1 jf2 selectorMajority_j3 selectorMajority_j4 selectorMajority_j5 jf6 selectorMajority_j7 jf8 selectorMajority_j9 selectorMajority_j10 selectorMajority_j11 selectorMajority_j12 selectorMajority_j13 selectorMajority_j14 selectorMajority_j15 selectorMajority_j16 selectorMajority_j17 selectorMajority_j18 selectorMajority_j19 selectorMajority_j20 selectorMajority_j21 selectorMajority_j22 selectorMajority_j23 jf24 jf25 selectorMajority_j26 selectorMajority_j27 selectorMajority_j28 selectorMajority_j29 selectorMajority_j30 selectorMajority_j31) selectorMajority_inst selectorMajority_wrap
  (fun os started H enc _=>selectorMajority_lifted os started H enc)
end Go.Proofs.YtinojijgeabfnaaGreatDoor
