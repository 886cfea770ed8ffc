/- ValuationAmounts: the row; no condition. -/
import Derived.Test.YtofllflnmmjijaaGreatDoorValuationAmountsQ1
import Derived.Test.YtofllflnmmjijaaGreatDoorP3
set_option maxRecDepth 100000
set_option maxHeartbeats 4000000
namespace Go.Proofs.YtofllflnmmjijaaGreatDoor
open Go Go.RowKit Go.SX
open ChangeShapes WideShapes
theorem valuationAmounts_j0:Rows.valuationAmountsRow.wf (OpenSpec.ofChange Rows.valuationAmountsSpec)=true:=by kernel_rfl
theorem valuationAmounts_j3:Tryz.f4.params.all (Tryz.checked.prog.readableRec ·)=true:=by kernel_rfl
theorem valuationAmounts_j4:namedTie Tryz.checked.prog Rows.valuationAmountsRow.named Rows.valuationAmountsSpec.vars=true:=by kernel_rfl
theorem valuationAmounts_j5:(Rows.valuationAmountsRow.stops == [])=true:=by kernel_rfl
theorem valuationAmounts_j7:(Rows.valuationAmountsRow.knobs == [])=true:=by kernel_rfl
theorem valuationAmounts_j9:(Rows.valuationAmountsRow.inPlace == Tryz.checked.prog.inPlace 4)=true:=by kernel_rfl
theorem valuationAmounts_j10:(Rows.valuationAmountsRow.unfollowed == Tryz.checked.prog.unfollowed 4)=true:=by kernel_rfl
theorem valuationAmounts_j11:(Rows.valuationAmountsRow.recurses == Tryz.checked.prog.recurses 4)=true:=by kernel_rfl
theorem valuationAmounts_j12:(Rows.valuationAmountsRow.named == Tryz.checked.prog.varsNamed 4)=true:=by kernel_rfl
theorem valuationAmounts_j13:(Rows.valuationAmountsRow.maps == (Tryz.f4.params.toList++Rows.valuationAmountsSpec.plain.varTypes Tryz.checked.prog).any (Tryz.checked.prog.mapsRec ·))=true:=by kernel_rfl
theorem valuationAmounts_j14:(Rows.valuationAmountsRow.ifaces == (Tryz.f4.params.toList++Rows.valuationAmountsSpec.plain.varTypes Tryz.checked.prog).any (Tryz.checked.prog.ifacesRec ·))=true:=by kernel_rfl
theorem valuationAmounts_j15:(Rows.valuationAmountsRow.mapsOut == Tryz.checked.prog.mapsAmong Tryz.f4.resultTypes.toList)=true:=by kernel_rfl
theorem valuationAmounts_j16:(Rows.valuationAmountsRow.loops == (Tryz.f4.params.toList++Rows.valuationAmountsSpec.plain.varTypes Tryz.checked.prog).any (Tryz.checked.prog.loopsFrom ·))=true:=by kernel_rfl
theorem valuationAmounts_j17:(Rows.valuationAmountsRow.wideKeys == (Tryz.f4.params.toList++Rows.valuationAmountsSpec.plain.varTypes Tryz.checked.prog++Tryz.f4.resultTypes.toList).any (Tryz.checked.prog.wideKeysFrom ·))=true:=by kernel_rfl
theorem valuationAmounts_j18:Rows.valuationAmountsSpec.vars.all (Tryz.checked.prog.varReadable ·)=true:=by kernel_rfl
theorem valuationAmounts_j19:Tryz.f4.resultTypes.all (fun t=>Tryz.checked.prog.readableRec t && decide (t < Tryz.checked.prog.types.size))=true:=by kernel_rfl
theorem valuationAmounts_j20:(Rows.valuationAmountsRow.ifacesOut == Tryz.f4.resultTypes.toList.any (Tryz.checked.prog.ifacesRec ·))=true:=by kernel_rfl
theorem valuationAmounts_j21:(Rows.valuationAmountsRow.loopsOut == Tryz.f4.resultTypes.toList.any (Tryz.checked.prog.loopsFrom ·))=true:=by kernel_rfl
theorem valuationAmounts_j22:(Rows.valuationAmountsRow.plainKeys == Tryz.checked.prog.plainKeys)=true:=by kernel_rfl
theorem valuationAmounts_j23:Rows.valuationAmountsRow.shortTexts.isNone=true:=by kernel_rfl
theorem valuationAmounts_j26:(Rows.valuationAmountsRow.lifted == Tryz.checked.prog.liftsFinal)=true:=jfl
theorem valuationAmounts_j27:(Tryz.checked.prog.make == some Rows.valuationAmountsRow.make)=true:=by kernel_rfl
theorem valuationAmounts_j28:(Rows.valuationAmountsRow.kinds == (if Rows.valuationAmountsRow.domain.isEmpty then [] else Tryz.f4.params.toList.map fun t=>match Tryz.checked.prog.underlying t with | some (.int k)=>some k | _=>none))=true:=by kernel_rfl
theorem valuationAmounts_j29:(Rows.valuationAmountsRow.pinned == Rows.valuationAmountsRow.pinnedBy)=true:=by kernel_rfl
theorem valuationAmounts_j30:(Rows.valuationAmountsRow.veiled == (Tryz.f4.params.toList++Rows.valuationAmountsSpec.plain.varTypes Tryz.checked.prog++Tryz.f4.resultTypes.toList).any (Tryz.checked.prog.veiledRec ·))=true:=by kernel_rfl
theorem valuationAmounts_j31:Rows.valuationAmountsRow.veiledFits Tryz.checked.prog Tryz.f4.params.toList (Tryz.f4.params.toList++Rows.valuationAmountsSpec.plain.varTypes Tryz.checked.prog++Tryz.f4.resultTypes.toList)=true:=by kernel_rfl
theorem valuationAmounts_named:Tryz.checked.prog.funcNamed Rows.valuationAmountsRow.func=some 4:=by kernel_rfl
theorem valuationAmounts_inst:Tryz.f4.isInstance Tryz.checked.prog Rows.valuationAmountsRow.origin Rows.valuationAmountsRow.targs:=of_decide_eq_true (by kernel_rfl)
theorem valuationAmounts_wrap:Tryz.f4.isWrapper Tryz.checked.prog Rows.valuationAmountsRow.wrapper Rows.valuationAmountsRow.mainSum:=by unfold Func.isWrapper;first | (rw [if_pos (by decide +kernel)];kernel_rfl) | (rw [if_neg (by decide +kernel)];exact ⟨rfl,rfl⟩)
theorem valuationAmounts_holds:Rows.ValuationAmountsSaid :=
 OpenClaim.holds_of_wide 4 Tryz.f4 rfl rfl rfl rfl rfl rfl rfl ⟨rfl,rfl,rfl,rfl,rfl⟩ rfl rfl rfl rfl rfl valuationAmounts_named Tryz.func4 (joinedFacts_of valuationAmounts_j0 jf1 jf2 valuationAmounts_j3 valuationAmounts_j4 valuationAmounts_j5 jf6 valuationAmounts_j7 jf8 valuationAmounts_j9 valuationAmounts_j10 valuationAmounts_j11 valuationAmounts_j12 valuationAmounts_j13 valuationAmounts_j14 valuationAmounts_j15 valuationAmounts_j16 valuationAmounts_j17 valuationAmounts_j18 valuationAmounts_j19 valuationAmounts_j20 valuationAmounts_j21 valuationAmounts_j22 valuationAmounts_j23 jf24 jf25 valuationAmounts_j26 valuationAmounts_j27 valuationAmounts_j28 valuationAmounts_j29 valuationAmounts_j30 valuationAmounts_j31) valuationAmounts_inst valuationAmounts_wrap
  (fun os started H enc _=>valuationAmounts_lifted os started H enc)
end Go.Proofs.YtofllflnmmjijaaGreatDoor
