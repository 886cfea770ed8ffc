/- PositionSettles: the card; no condition. -/
import Derived.Test.YtekfkdddadcalaaGreatDoorPositionSettlesQ3
set_option maxRecDepth 100000
set_option maxHeartbeats 4000000
namespace Go.Proofs.YtekfkdddadcalaaGreatDoor
open Go Go.RowKit Go.SX
open ChangeShapes WideShapes
theorem positionSettles_wf:Rows.positionSettlesRow.wfByText (OpenSpec.ofChange Rows.positionSettlesSpec)=true:=by kernel_rfl
theorem positionSettles_main:Tryz.checked.prog.mainIs=some ((true,"aa5000ee0d7c1d901af995a79e019268efdca6199fc5768e4c4b152e43e19c9a").1,(true,"aa5000ee0d7c1d901af995a79e019268efdca6199fc5768e4c4b152e43e19c9a").2.toList):=by kernel_rfl
theorem positionSettles_stand:([22].all fun u=>!Tryz.prog.wantsStandIn u)=true:=by kernel_rfl
theorem positionSettles_goes:false=Rows.positionSettlesRow.goesBy Tryz.checked.prog:=by kernel_rfl
theorem positionSettles_card:Rows.PositionSettlesCardSaid :=
 Claim7.holds_tied_plain_at .later [] [.data,.pinned] true (true,"aa5000ee0d7c1d901af995a79e019268efdca6199fc5768e4c4b152e43e19c9a") false positionSettles_holds (fun _ h=>by cases h) positionSettles_wf (fun _ h=>by cases h) positionSettles_row_tie rfl ⟨rfl,rfl⟩ positionSettles_main rfl
  (fun f fn hf hfn=>by
   obtain rfl:f=7:=Option.some.inj (positionSettles_named.symm.trans hf) |>.symm
   obtain rfl:fn=Tryz.f7:=(Option.some.inj (Tryz.func7.symm.trans hfn)).symm
   exact ⟨jfo,fun j t ht=>by
    rw [Tryz.params7] at ht
    have hm:t∈[22]:=by simpa using Array.mem_of_getElem? ht
    exact (show Tryz.prog.wantsStandIn t=false by simpa using List.all_eq_true.1 positionSettles_stand t hm)⟩)
  positionSettles_goes
#print axioms positionSettles_card
end Go.Proofs.YtekfkdddadcalaaGreatDoor
