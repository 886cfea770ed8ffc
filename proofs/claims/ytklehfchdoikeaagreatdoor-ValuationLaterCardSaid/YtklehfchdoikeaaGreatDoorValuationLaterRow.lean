/- ValuationLater: the card; no condition. -/
import Derived.Test.YtklehfchdoikeaaGreatDoorValuationLaterQ3
set_option maxRecDepth 100000
set_option maxHeartbeats 4000000
namespace Go.Proofs.YtklehfchdoikeaaGreatDoor
open Go Go.RowKit Go.SX
open ChangeShapes WideShapes
theorem oW:Rows.valuationLaterRow.wfByText (OpenSpec.ofChange Rows.valuationLaterSpec)=true:=by kernel_rfl
theorem md:Tryz.checked.prog.mainIs=some ((true,"773bb413c497e99beac895a344878c40b7236b19bcabd00278598496392f72bc").1,(true,"773bb413c497e99beac895a344878c40b7236b19bcabd00278598496392f72bc").2.toList):=by kernel_rfl
theorem kI:([50].all fun u=>!Tryz.prog.wantsStandIn u)=true:=by kernel_rfl
theorem mg:false=Rows.valuationLaterRow.goesBy Tryz.checked.prog:=by kernel_rfl
theorem valuationLater_card:Rows.ValuationLaterCardSaid :=
 Claim7.holds_tied_plain_at .later [] [.data,.pinned] true (true,"773bb413c497e99beac895a344878c40b7236b19bcabd00278598496392f72bc") false kJ (fun _ h=>by cases h) oW (fun _ h=>by cases h) valuationLater_row_tie rfl ⟨rfl,rfl⟩ md rfl
  (fun f fn hf hfn=>by
   obtain rfl:f=9:=Option.some.inj (fI.symm.trans hf) |>.symm
   obtain rfl:fn=Tryz.f9:=(Option.some.inj (Tryz.func9.symm.trans hfn)).symm
   exact ⟨jfo,fun j t ht=>by
    rw [Tryz.params9] at ht
    have hm:t∈[50]:=by simpa using Array.mem_of_getElem? ht
    exact (show Tryz.prog.wantsStandIn t=false by simpa using List.all_eq_true.1 kI t hm)⟩)
  mg
#print axioms valuationLater_card
end Go.Proofs.YtklehfchdoikeaaGreatDoor
