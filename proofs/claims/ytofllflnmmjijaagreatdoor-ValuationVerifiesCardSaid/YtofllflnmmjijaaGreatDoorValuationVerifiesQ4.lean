/- ValuationVerifies: the row; no condition. -/
import Derived.Test.YtofllflnmmjijaaGreatDoorValuationVerifiesQ3
import Derived.Test.YtofllflnmmjijaaGreatDoorP3
set_option maxRecDepth 100000
set_option maxHeartbeats 4000000
namespace Go.Proofs.YtofllflnmmjijaaGreatDoor
open Go Go.RowKit Go.SX
open ChangeShapes WideShapes
theorem valuationVerifies_j0:Rows.valuationVerifiesRow.wf (OpenSpec.ofChange Rows.valuationVerifiesSpec)=true:=by kernel_rfl
theorem valuationVerifies_j3:Tryz.f5.params.all (Tryz.checked.prog.readableRec ·)=true:=by kernel_rfl
theorem valuationVerifies_j4:namedTie Tryz.checked.prog Rows.valuationVerifiesRow.named Rows.valuationVerifiesSpec.vars=true:=by kernel_rfl
theorem valuationVerifies_j5:(Rows.valuationVerifiesRow.stops == [])=true:=by kernel_rfl
theorem valuationVerifies_j7:(Rows.valuationVerifiesRow.knobs == [])=true:=by kernel_rfl
theorem valuationVerifies_j9:(Rows.valuationVerifiesRow.inPlace == Tryz.checked.prog.inPlace 5)=true:=by kernel_rfl
theorem valuationVerifies_j10:(Rows.valuationVerifiesRow.unfollowed == Tryz.checked.prog.unfollowed 5)=true:=by kernel_rfl
theorem valuationVerifies_j11:(Rows.valuationVerifiesRow.recurses == Tryz.checked.prog.recurses 5)=true:=by kernel_rfl
theorem valuationVerifies_j12:(Rows.valuationVerifiesRow.named == Tryz.checked.prog.varsNamed 5)=true:=by kernel_rfl
theorem valuationVerifies_j13:(Rows.valuationVerifiesRow.maps == (Tryz.f5.params.toList++Rows.valuationVerifiesSpec.plain.varTypes Tryz.checked.prog).any (Tryz.checked.prog.mapsRec ·))=true:=by kernel_rfl
theorem valuationVerifies_j14:(Rows.valuationVerifiesRow.ifaces == (Tryz.f5.params.toList++Rows.valuationVerifiesSpec.plain.varTypes Tryz.checked.prog).any (Tryz.checked.prog.ifacesRec ·))=true:=by kernel_rfl
theorem valuationVerifies_j15:(Rows.valuationVerifiesRow.mapsOut == Tryz.checked.prog.mapsAmong Tryz.f5.resultTypes.toList)=true:=by kernel_rfl
theorem valuationVerifies_j16:(Rows.valuationVerifiesRow.loops == (Tryz.f5.params.toList++Rows.valuationVerifiesSpec.plain.varTypes Tryz.checked.prog).any (Tryz.checked.prog.loopsFrom ·))=true:=by kernel_rfl
theorem valuationVerifies_j17:(Rows.valuationVerifiesRow.wideKeys == (Tryz.f5.params.toList++Rows.valuationVerifiesSpec.plain.varTypes Tryz.checked.prog++Tryz.f5.resultTypes.toList).any (Tryz.checked.prog.wideKeysFrom ·))=true:=by kernel_rfl
theorem valuationVerifies_j18:Rows.valuationVerifiesSpec.vars.all (Tryz.checked.prog.varReadable ·)=true:=by kernel_rfl
theorem valuationVerifies_j19:Tryz.f5.resultTypes.all (fun t=>Tryz.checked.prog.readableRec t && decide (t < Tryz.checked.prog.types.size))=true:=by kernel_rfl
theorem valuationVerifies_j20:(Rows.valuationVerifiesRow.ifacesOut == Tryz.f5.resultTypes.toList.any (Tryz.checked.prog.ifacesRec ·))=true:=by kernel_rfl
theorem valuationVerifies_j21:(Rows.valuationVerifiesRow.loopsOut == Tryz.f5.resultTypes.toList.any (Tryz.checked.prog.loopsFrom ·))=true:=by kernel_rfl
theorem valuationVerifies_j22:(Rows.valuationVerifiesRow.plainKeys == Tryz.checked.prog.plainKeys)=true:=by kernel_rfl
theorem valuationVerifies_j23:Rows.valuationVerifiesRow.shortTexts.isNone=true:=by kernel_rfl
theorem valuationVerifies_j26:(Rows.valuationVerifiesRow.lifted == Tryz.checked.prog.liftsFinal)=true:=jfl
theorem valuationVerifies_j27:(Tryz.checked.prog.make == some Rows.valuationVerifiesRow.make)=true:=by kernel_rfl
theorem valuationVerifies_j28:(Rows.valuationVerifiesRow.kinds == (if Rows.valuationVerifiesRow.domain.isEmpty then [] else Tryz.f5.params.toList.map fun t=>match Tryz.checked.prog.underlying t with | some (.int k)=>some k | _=>none))=true:=by kernel_rfl
theorem valuationVerifies_j29:(Rows.valuationVerifiesRow.pinned == Rows.valuationVerifiesRow.pinnedBy)=true:=by kernel_rfl
theorem valuationVerifies_j30:(Rows.valuationVerifiesRow.veiled == (Tryz.f5.params.toList++Rows.valuationVerifiesSpec.plain.varTypes Tryz.checked.prog++Tryz.f5.resultTypes.toList).any (Tryz.checked.prog.veiledRec ·))=true:=by kernel_rfl
theorem valuationVerifies_j31:Rows.valuationVerifiesRow.veiledFits Tryz.checked.prog Tryz.f5.params.toList (Tryz.f5.params.toList++Rows.valuationVerifiesSpec.plain.varTypes Tryz.checked.prog++Tryz.f5.resultTypes.toList)=true:=by kernel_rfl
theorem valuationVerifies_named:Tryz.checked.prog.funcNamed Rows.valuationVerifiesRow.func=some 5:=by kernel_rfl
theorem valuationVerifies_inst:Tryz.f5.isInstance Tryz.checked.prog Rows.valuationVerifiesRow.origin Rows.valuationVerifiesRow.targs:=of_decide_eq_true (by kernel_rfl)
theorem valuationVerifies_wrap:Tryz.f5.isWrapper Tryz.checked.prog Rows.valuationVerifiesRow.wrapper Rows.valuationVerifiesRow.mainSum:=by unfold Func.isWrapper;first | (rw [if_pos (by decide +kernel)];kernel_rfl) | (rw [if_neg (by decide +kernel)];exact ⟨rfl,rfl⟩)
theorem valuationVerifies_holds:Rows.ValuationVerifiesSaid :=
 OpenClaim.holds_of_wide 5 Tryz.f5 rfl rfl rfl rfl rfl rfl rfl ⟨rfl,rfl,rfl,rfl,rfl⟩ rfl rfl rfl rfl rfl valuationVerifies_named Tryz.func5 (joinedFacts_of valuationVerifies_j0 jf1 jf2 valuationVerifies_j3 valuationVerifies_j4 valuationVerifies_j5 jf6 valuationVerifies_j7 jf8 valuationVerifies_j9 valuationVerifies_j10 valuationVerifies_j11 valuationVerifies_j12 valuationVerifies_j13 valuationVerifies_j14 valuationVerifies_j15 valuationVerifies_j16 valuationVerifies_j17 valuationVerifies_j18 valuationVerifies_j19 valuationVerifies_j20 valuationVerifies_j21 valuationVerifies_j22 valuationVerifies_j23 jf24 jf25 valuationVerifies_j26 valuationVerifies_j27 valuationVerifies_j28 valuationVerifies_j29 valuationVerifies_j30 valuationVerifies_j31) valuationVerifies_inst valuationVerifies_wrap
  (fun os started H enc _=>valuationVerifies_lifted os started H enc)
end Go.Proofs.YtofllflnmmjijaaGreatDoor
