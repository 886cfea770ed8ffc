/- PositionOrder: the card; no condition. -/
import Derived.Test.YtekfkdddadcalaaGreatDoorPositionOrderQ4
set_option maxRecDepth 100000
set_option maxHeartbeats 4000000
namespace Go.Proofs.YtekfkdddadcalaaGreatDoor
open Go Go.RowKit Go.SX
open ChangeShapes WideShapes
theorem positionOrder_wf:Rows.positionOrderRow.wfByText (OpenSpec.ofChange Rows.positionOrderSpec)=true:=by kernel_rfl
theorem positionOrder_main:Tryz.checked.prog.mainIs=some ((true,"aa5000ee0d7c1d901af995a79e019268efdca6199fc5768e4c4b152e43e19c9a").1,(true,"aa5000ee0d7c1d901af995a79e019268efdca6199fc5768e4c4b152e43e19c9a").2.toList):=by kernel_rfl
theorem positionOrder_stand:([22].all fun u=>!Tryz.prog.wantsStandIn u)=true:=by kernel_rfl
theorem positionOrder_goes:false=Rows.positionOrderRow.goesBy Tryz.checked.prog:=by kernel_rfl
theorem positionOrder_card:Rows.PositionOrderCardSaid :=
 Claim7.holds_tied_plain_at .later [] [.data,.pinned] true (true,"aa5000ee0d7c1d901af995a79e019268efdca6199fc5768e4c4b152e43e19c9a") false positionOrder_holds (fun _ h=>by cases h) positionOrder_wf (fun _ h=>by cases h) positionOrder_row_tie rfl ⟨rfl,rfl⟩ positionOrder_main rfl
  (fun f fn hf hfn=>by
   obtain rfl:f=6:=Option.some.inj (positionOrder_named.symm.trans hf) |>.symm
   obtain rfl:fn=Tryz.f6:=(Option.some.inj (Tryz.func6.symm.trans hfn)).symm
   exact ⟨jfo,fun j t ht=>by
    rw [Tryz.params6] at ht
    have hm:t∈[22]:=by simpa using Array.mem_of_getElem? ht
    exact (show Tryz.prog.wantsStandIn t=false by simpa using List.all_eq_true.1 positionOrder_stand t hm)⟩)
  positionOrder_goes
#print axioms positionOrder_card
end Go.Proofs.YtekfkdddadcalaaGreatDoor
