/- ValuationAmounts: the card; no condition. -/
import Derived.Test.YtofllflnmmjijaaGreatDoorValuationAmountsQ2
set_option maxRecDepth 100000
set_option maxHeartbeats 4000000
namespace Go.Proofs.YtofllflnmmjijaaGreatDoor
open Go Go.RowKit Go.SX
open ChangeShapes WideShapes
theorem valuationAmounts_wf:Rows.valuationAmountsRow.wfByText (OpenSpec.ofChange Rows.valuationAmountsSpec)=true:=by kernel_rfl
theorem valuationAmounts_main:Tryz.checked.prog.mainIs=some ((true,"6ee20449c94c97ba295719eee901b553d1f0d28fe158322f833a90a49d5ad373").1,(true,"6ee20449c94c97ba295719eee901b553d1f0d28fe158322f833a90a49d5ad373").2.toList):=by kernel_rfl
theorem valuationAmounts_stand:([3,33,33].all fun u=>!Tryz.prog.wantsStandIn u)=true:=by kernel_rfl
theorem valuationAmounts_goes:false=Rows.valuationAmountsRow.goesBy Tryz.checked.prog:=by kernel_rfl
theorem valuationAmounts_card:Rows.ValuationAmountsCardSaid :=
 Claim7.holds_tied_plain_at .later [] [.data,.pinned] true (true,"6ee20449c94c97ba295719eee901b553d1f0d28fe158322f833a90a49d5ad373") false valuationAmounts_holds (fun _ h=>by cases h) valuationAmounts_wf (fun _ h=>by cases h) valuationAmounts_row_tie rfl ⟨rfl,rfl⟩ valuationAmounts_main rfl
  (fun f fn hf hfn=>by
   obtain rfl:f=4:=Option.some.inj (valuationAmounts_named.symm.trans hf) |>.symm
   obtain rfl:fn=Tryz.f4:=(Option.some.inj (Tryz.func4.symm.trans hfn)).symm
   exact ⟨jfo,fun j t ht=>by
    rw [Tryz.params4] at ht
    have hm:t∈[3,33,33]:=by simpa using Array.mem_of_getElem? ht
    exact (show Tryz.prog.wantsStandIn t=false by simpa using List.all_eq_true.1 valuationAmounts_stand t hm)⟩)
  valuationAmounts_goes
#print axioms valuationAmounts_card
end Go.Proofs.YtofllflnmmjijaaGreatDoor
