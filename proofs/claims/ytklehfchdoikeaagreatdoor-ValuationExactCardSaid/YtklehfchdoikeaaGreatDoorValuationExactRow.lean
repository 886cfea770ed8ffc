/- ValuationExact: the card; no condition. -/
import Derived.Test.YtklehfchdoikeaaGreatDoorValuationExactQ36
set_option maxRecDepth 100000
set_option maxHeartbeats 4000000
namespace Go.Proofs.YtklehfchdoikeaaGreatDoor
open Go Go.RowKit Go.SX
open ChangeShapes WideShapes
theorem mi:Rows.valuationExactRow.wfByText (OpenSpec.ofChange Rows.valuationExactSpec)=true:=by kernel_rfl
theorem kO:Tryz.checked.prog.mainIs=some ((true,"773bb413c497e99beac895a344878c40b7236b19bcabd00278598496392f72bc").1,(true,"773bb413c497e99beac895a344878c40b7236b19bcabd00278598496392f72bc").2.toList):=by kernel_rfl
theorem j0:([39].all fun u=>!Tryz.prog.wantsStandIn u)=true:=by kernel_rfl
theorem kQ:false=Rows.valuationExactRow.goesBy Tryz.checked.prog:=by kernel_rfl
theorem valuationExact_card:Rows.ValuationExactCardSaid :=
 Claim7.holds_tied_plain_at .later [] [.data,.pinned] true (true,"773bb413c497e99beac895a344878c40b7236b19bcabd00278598496392f72bc") false j4 (fun _ h=>by cases h) mi (fun _ h=>by cases h) valuationExact_row_tie rfl ⟨rfl,rfl⟩ kO rfl
  (fun f fn hf hfn=>by
   obtain rfl:f=3:=Option.some.inj (gd.symm.trans hf) |>.symm
   obtain rfl:fn=Tryz.f3:=(Option.some.inj (Tryz.func3.symm.trans hfn)).symm
   exact ⟨jfo,fun j t ht=>by
    rw [Tryz.params3] at ht
    have hm:t∈[39]:=by simpa using Array.mem_of_getElem? ht
    exact (show Tryz.prog.wantsStandIn t=false by simpa using List.all_eq_true.1 j0 t hm)⟩)
  kQ
#print axioms valuationExact_card
end Go.Proofs.YtklehfchdoikeaaGreatDoor
