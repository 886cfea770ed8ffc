/- PositionSums: the card; no condition. -/
import Derived.Test.YtekfkdddadcalaaGreatDoorPositionSumsQ3
set_option maxRecDepth 100000
set_option maxHeartbeats 4000000
namespace Go.Proofs.YtekfkdddadcalaaGreatDoor
open Go Go.RowKit Go.SX
open ChangeShapes WideShapes
theorem positionSums_wf:Rows.positionSumsRow.wfByText (OpenSpec.ofChange Rows.positionSumsSpec)=true:=by kernel_rfl
theorem positionSums_main:Tryz.checked.prog.mainIs=some ((true,"aa5000ee0d7c1d901af995a79e019268efdca6199fc5768e4c4b152e43e19c9a").1,(true,"aa5000ee0d7c1d901af995a79e019268efdca6199fc5768e4c4b152e43e19c9a").2.toList):=by kernel_rfl
theorem positionSums_stand:([22].all fun u=>!Tryz.prog.wantsStandIn u)=true:=by kernel_rfl
theorem positionSums_goes:false=Rows.positionSumsRow.goesBy Tryz.checked.prog:=by kernel_rfl
theorem positionSums_card:Rows.PositionSumsCardSaid :=
 Claim7.holds_tied_plain_at .later [] [.data,.pinned] true (true,"aa5000ee0d7c1d901af995a79e019268efdca6199fc5768e4c4b152e43e19c9a") false positionSums_holds (fun _ h=>by cases h) positionSums_wf (fun _ h=>by cases h) positionSums_row_tie rfl ⟨rfl,rfl⟩ positionSums_main rfl
  (fun f fn hf hfn=>by
   obtain rfl:f=4:=Option.some.inj (positionSums_named.symm.trans hf) |>.symm
   obtain rfl:fn=Tryz.f4:=(Option.some.inj (Tryz.func4.symm.trans hfn)).symm
   exact ⟨jfo,fun j t ht=>by
    rw [Tryz.params4] at ht
    have hm:t∈[22]:=by simpa using Array.mem_of_getElem? ht
    exact (show Tryz.prog.wantsStandIn t=false by simpa using List.all_eq_true.1 positionSums_stand t hm)⟩)
  positionSums_goes
#print axioms positionSums_card
end Go.Proofs.YtekfkdddadcalaaGreatDoor
