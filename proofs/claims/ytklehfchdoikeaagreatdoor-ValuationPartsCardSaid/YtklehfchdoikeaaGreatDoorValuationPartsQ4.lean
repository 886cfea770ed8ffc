/- ValuationParts: the row; no condition. -/
import Derived.Test.YtklehfchdoikeaaGreatDoorValuationPartsQ3
import Derived.Test.YtklehfchdoikeaaGreatDoorP3
set_option maxRecDepth 100000
set_option maxHeartbeats 4000000
namespace Go.Proofs.YtklehfchdoikeaaGreatDoor
open Go Go.RowKit Go.SX
open ChangeShapes WideShapes
theorem oO:Rows.valuationPartsRow.wf (OpenSpec.ofChange Rows.valuationPartsSpec)=true:=by kernel_rfl
theorem oN:Tryz.f10.params.all (Tryz.checked.prog.readableRec ·)=true:=by kernel_rfl
theorem oM:namedTie Tryz.checked.prog Rows.valuationPartsRow.named Rows.valuationPartsSpec.vars=true:=by kernel_rfl
theorem oL:(Rows.valuationPartsRow.stops == [])=true:=by kernel_rfl
theorem oK:(Rows.valuationPartsRow.knobs == [])=true:=by kernel_rfl
theorem oJ:(Rows.valuationPartsRow.inPlace == Tryz.checked.prog.inPlace 10)=true:=by kernel_rfl
theorem mW:(Rows.valuationPartsRow.unfollowed == Tryz.checked.prog.unfollowed 10)=true:=by kernel_rfl
theorem mV:(Rows.valuationPartsRow.recurses == Tryz.checked.prog.recurses 10)=true:=by kernel_rfl
theorem mU:(Rows.valuationPartsRow.named == Tryz.checked.prog.varsNamed 10)=true:=by kernel_rfl
theorem mT:(Rows.valuationPartsRow.maps == (Tryz.f10.params.toList++Rows.valuationPartsSpec.plain.varTypes Tryz.checked.prog).any (Tryz.checked.prog.mapsRec ·))=true:=by kernel_rfl
theorem mS:(Rows.valuationPartsRow.ifaces == (Tryz.f10.params.toList++Rows.valuationPartsSpec.plain.varTypes Tryz.checked.prog).any (Tryz.checked.prog.ifacesRec ·))=true:=by kernel_rfl
theorem mR:(Rows.valuationPartsRow.mapsOut == Tryz.checked.prog.mapsAmong Tryz.f10.resultTypes.toList)=true:=by kernel_rfl
theorem mQ:(Rows.valuationPartsRow.loops == (Tryz.f10.params.toList++Rows.valuationPartsSpec.plain.varTypes Tryz.checked.prog).any (Tryz.checked.prog.loopsFrom ·))=true:=by kernel_rfl
theorem mP:(Rows.valuationPartsRow.wideKeys == (Tryz.f10.params.toList++Rows.valuationPartsSpec.plain.varTypes Tryz.checked.prog++Tryz.f10.resultTypes.toList).any (Tryz.checked.prog.wideKeysFrom ·))=true:=by kernel_rfl
theorem mO:Rows.valuationPartsSpec.vars.all (Tryz.checked.prog.varReadable ·)=true:=by kernel_rfl
theorem mN:Tryz.f10.resultTypes.all (fun t=>Tryz.checked.prog.readableRec t && decide (t < Tryz.checked.prog.types.size))=true:=by kernel_rfl
theorem mM:(Rows.valuationPartsRow.ifacesOut == Tryz.f10.resultTypes.toList.any (Tryz.checked.prog.ifacesRec ·))=true:=by kernel_rfl
theorem mL:(Rows.valuationPartsRow.loopsOut == Tryz.f10.resultTypes.toList.any (Tryz.checked.prog.loopsFrom ·))=true:=by kernel_rfl
theorem mK:(Rows.valuationPartsRow.plainKeys == Tryz.checked.prog.plainKeys)=true:=by kernel_rfl
theorem mJ:Rows.valuationPartsRow.shortTexts.isNone=true:=by kernel_rfl
theorem mI:(Rows.valuationPartsRow.lifted == Tryz.checked.prog.liftsFinal)=true:=jfl
theorem mH:(Tryz.checked.prog.make == some Rows.valuationPartsRow.make)=true:=by kernel_rfl
theorem mG:(Rows.valuationPartsRow.kinds == (if Rows.valuationPartsRow.domain.isEmpty then [] else Tryz.f10.params.toList.map fun t=>match Tryz.checked.prog.underlying t with | some (.int k)=>some k | _=>none))=true:=by kernel_rfl
theorem mF:(Rows.valuationPartsRow.pinned == Rows.valuationPartsRow.pinnedBy)=true:=by kernel_rfl
theorem mE:(Rows.valuationPartsRow.veiled == (Tryz.f10.params.toList++Rows.valuationPartsSpec.plain.varTypes Tryz.checked.prog++Tryz.f10.resultTypes.toList).any (Tryz.checked.prog.veiledRec ·))=true:=by kernel_rfl
theorem mC:Rows.valuationPartsRow.veiledFits Tryz.checked.prog Tryz.f10.params.toList (Tryz.f10.params.toList++Rows.valuationPartsSpec.plain.varTypes Tryz.checked.prog++Tryz.f10.resultTypes.toList)=true:=by kernel_rfl
theorem fG:Tryz.checked.prog.funcNamed Rows.valuationPartsRow.func=some 10:=by kernel_rfl
theorem lZ:Tryz.f10.isInstance Tryz.checked.prog Rows.valuationPartsRow.origin Rows.valuationPartsRow.targs:=af (by kernel_rfl)
theorem lX:Tryz.f10.isWrapper Tryz.checked.prog Rows.valuationPartsRow.wrapper Rows.valuationPartsRow.mainSum:=by unfold Func.isWrapper;first | (rw [if_pos (by decide +kernel)];kernel_rfl) | (rw [if_neg (by decide +kernel)];exact ⟨rfl,rfl⟩)
theorem kF:Rows.ValuationPartsSaid :=
 OpenClaim.holds_of_wide 10 Tryz.f10 rfl rfl rfl rfl rfl rfl rfl ⟨rfl,rfl,rfl,rfl,rfl⟩ rfl rfl rfl rfl rfl fG Tryz.func10 (fc oO jf1 jf2 oN oM oL jf6 oK jf8 oJ mW mV mU mT mS mR mQ mP mO mN mM mL mK mJ Ke Kd mI mH mG mF mE mC) lZ lX
  (fun os started H enc _=>j0 os started H enc)
end Go.Proofs.YtklehfchdoikeaaGreatDoor
