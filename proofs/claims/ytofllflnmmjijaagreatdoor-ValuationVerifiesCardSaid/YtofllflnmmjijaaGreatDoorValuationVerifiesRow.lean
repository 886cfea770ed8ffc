/- ValuationVerifies: the card; no condition. -/
import Derived.Test.YtofllflnmmjijaaGreatDoorValuationVerifiesQ4
set_option maxRecDepth 100000
set_option maxHeartbeats 4000000
namespace Go.Proofs.YtofllflnmmjijaaGreatDoor
open Go Go.RowKit Go.SX
open ChangeShapes WideShapes
theorem valuationVerifies_wf:Rows.valuationVerifiesRow.wfByText (OpenSpec.ofChange Rows.valuationVerifiesSpec)=true:=by kernel_rfl
theorem valuationVerifies_main:Tryz.checked.prog.mainIs=some ((true,"6ee20449c94c97ba295719eee901b553d1f0d28fe158322f833a90a49d5ad373").1,(true,"6ee20449c94c97ba295719eee901b553d1f0d28fe158322f833a90a49d5ad373").2.toList):=by kernel_rfl
theorem valuationVerifies_stand:([42].all fun u=>!Tryz.prog.wantsStandIn u)=true:=by kernel_rfl
theorem valuationVerifies_goes:false=Rows.valuationVerifiesRow.goesBy Tryz.checked.prog:=by kernel_rfl
theorem valuationVerifies_card:Rows.ValuationVerifiesCardSaid :=
 Claim7.holds_tied_plain_at .later [] [.data,.pinned] true (true,"6ee20449c94c97ba295719eee901b553d1f0d28fe158322f833a90a49d5ad373") false valuationVerifies_holds (fun _ h=>by cases h) valuationVerifies_wf (fun _ h=>by cases h) valuationVerifies_row_tie rfl ⟨rfl,rfl⟩ valuationVerifies_main rfl
  (fun f fn hf hfn=>by
   obtain rfl:f=5:=Option.some.inj (valuationVerifies_named.symm.trans hf) |>.symm
   obtain rfl:fn=Tryz.f5:=(Option.some.inj (Tryz.func5.symm.trans hfn)).symm
   exact ⟨jfo,fun j t ht=>by
    rw [Tryz.params5] at ht
    have hm:t∈[42]:=by simpa using Array.mem_of_getElem? ht
    exact (show Tryz.prog.wantsStandIn t=false by simpa using List.all_eq_true.1 valuationVerifies_stand t hm)⟩)
  valuationVerifies_goes
#print axioms valuationVerifies_card
end Go.Proofs.YtofllflnmmjijaaGreatDoor
