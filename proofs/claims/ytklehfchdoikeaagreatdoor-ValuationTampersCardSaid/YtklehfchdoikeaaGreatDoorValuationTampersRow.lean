/- ValuationTampers: the card; no condition. -/
import Derived.Test.YtklehfchdoikeaaGreatDoorValuationTampersQ4
set_option maxRecDepth 100000
set_option maxHeartbeats 4000000
namespace Go.Proofs.YtklehfchdoikeaaGreatDoor
open Go Go.RowKit Go.SX
open ChangeShapes WideShapes
theorem lQ:Rows.valuationTampersRow.wfByText (OpenSpec.ofChange Rows.valuationTampersSpec)=true:=by kernel_rfl
theorem jX:Tryz.checked.prog.mainIs=some ((true,"773bb413c497e99beac895a344878c40b7236b19bcabd00278598496392f72bc").1,(true,"773bb413c497e99beac895a344878c40b7236b19bcabd00278598496392f72bc").2.toList):=by kernel_rfl
theorem jq:([50,3].all fun u=>!Tryz.prog.wantsStandIn u)=true:=by kernel_rfl
theorem jZ:false=Rows.valuationTampersRow.goesBy Tryz.checked.prog:=by kernel_rfl
theorem valuationTampers_card:Rows.ValuationTampersCardSaid :=
 Claim7.holds_tied_plain_at .later [] [.data,.pinned] true (true,"773bb413c497e99beac895a344878c40b7236b19bcabd00278598496392f72bc") false jr (fun _ h=>by cases h) lQ (fun _ h=>by cases h) valuationTampers_row_tie rfl ⟨rfl,rfl⟩ jX rfl
  (fun f fn hf hfn=>by
   obtain rfl:f=7:=Option.some.inj (eR.symm.trans hf) |>.symm
   obtain rfl:fn=Tryz.f7:=(Option.some.inj (Tryz.func7.symm.trans hfn)).symm
   exact ⟨jfo,fun j t ht=>by
    rw [Tryz.params7] at ht
    have hm:t∈[50,3]:=by simpa using Array.mem_of_getElem? ht
    exact (show Tryz.prog.wantsStandIn t=false by simpa using List.all_eq_true.1 jq t hm)⟩)
  jZ
#print axioms valuationTampers_card
end Go.Proofs.YtklehfchdoikeaaGreatDoor
