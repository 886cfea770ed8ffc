/- ValuationParts: the card; no condition. -/
import Derived.Test.YtklehfchdoikeaaGreatDoorValuationPartsQ4
set_option maxRecDepth 100000
set_option maxHeartbeats 4000000
namespace Go.Proofs.YtklehfchdoikeaaGreatDoor
open Go Go.RowKit Go.SX
open ChangeShapes WideShapes
theorem oI:Rows.valuationPartsRow.wfByText (OpenSpec.ofChange Rows.valuationPartsSpec)=true:=by kernel_rfl
theorem lY:Tryz.checked.prog.mainIs=some ((true,"773bb413c497e99beac895a344878c40b7236b19bcabd00278598496392f72bc").1,(true,"773bb413c497e99beac895a344878c40b7236b19bcabd00278598496392f72bc").2.toList):=by kernel_rfl
theorem kE:([50].all fun u=>!Tryz.prog.wantsStandIn u)=true:=by kernel_rfl
theorem l0:false=Rows.valuationPartsRow.goesBy Tryz.checked.prog:=by kernel_rfl
theorem valuationParts_card:Rows.ValuationPartsCardSaid :=
 Claim7.holds_tied_plain_at .later [] [.data,.pinned] true (true,"773bb413c497e99beac895a344878c40b7236b19bcabd00278598496392f72bc") false kF (fun _ h=>by cases h) oI (fun _ h=>by cases h) valuationParts_row_tie rfl ⟨rfl,rfl⟩ lY rfl
  (fun f fn hf hfn=>by
   obtain rfl:f=10:=Option.some.inj (fG.symm.trans hf) |>.symm
   obtain rfl:fn=Tryz.f10:=(Option.some.inj (Tryz.func10.symm.trans hfn)).symm
   exact ⟨jfo,fun j t ht=>by
    rw [Tryz.params10] at ht
    have hm:t∈[50]:=by simpa using Array.mem_of_getElem? ht
    exact (show Tryz.prog.wantsStandIn t=false by simpa using List.all_eq_true.1 kE t hm)⟩)
  l0
#print axioms valuationParts_card
end Go.Proofs.YtklehfchdoikeaaGreatDoor
