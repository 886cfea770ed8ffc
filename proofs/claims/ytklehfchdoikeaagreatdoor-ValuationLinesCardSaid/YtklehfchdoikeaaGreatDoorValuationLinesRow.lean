/- ValuationLines: the card; no condition. -/
import Derived.Test.YtklehfchdoikeaaGreatDoorValuationLinesQ3
set_option maxRecDepth 100000
set_option maxHeartbeats 4000000
namespace Go.Proofs.YtklehfchdoikeaaGreatDoor
open Go Go.RowKit Go.SX
open ChangeShapes WideShapes
theorem oP:Rows.valuationLinesRow.wfByText (OpenSpec.ofChange Rows.valuationLinesSpec)=true:=by kernel_rfl
theorem l8:Tryz.checked.prog.mainIs=some ((true,"773bb413c497e99beac895a344878c40b7236b19bcabd00278598496392f72bc").1,(true,"773bb413c497e99beac895a344878c40b7236b19bcabd00278598496392f72bc").2.toList):=by kernel_rfl
theorem kG:([50].all fun u=>!Tryz.prog.wantsStandIn u)=true:=by kernel_rfl
theorem mb:false=Rows.valuationLinesRow.goesBy Tryz.checked.prog:=by kernel_rfl
theorem valuationLines_card:Rows.ValuationLinesCardSaid :=
 Claim7.holds_tied_plain_at .later [] [.data,.pinned] true (true,"773bb413c497e99beac895a344878c40b7236b19bcabd00278598496392f72bc") false kH (fun _ h=>by cases h) oP (fun _ h=>by cases h) valuationLines_row_tie rfl ⟨rfl,rfl⟩ l8 rfl
  (fun f fn hf hfn=>by
   obtain rfl:f=6:=Option.some.inj (fH.symm.trans hf) |>.symm
   obtain rfl:fn=Tryz.f6:=(Option.some.inj (Tryz.func6.symm.trans hfn)).symm
   exact ⟨jfo,fun j t ht=>by
    rw [Tryz.params6] at ht
    have hm:t∈[50]:=by simpa using Array.mem_of_getElem? ht
    exact (show Tryz.prog.wantsStandIn t=false by simpa using List.all_eq_true.1 kG t hm)⟩)
  mb
#print axioms valuationLines_card
end Go.Proofs.YtklehfchdoikeaaGreatDoor
