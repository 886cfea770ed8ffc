/- PositionValid: the card; no condition. -/
import Derived.Test.YtkaakbpeegpnkaaGreatDoorPositionValidQ4
set_option maxRecDepth 100000
set_option maxHeartbeats 4000000
namespace Go.Proofs.YtkaakbpeegpnkaaGreatDoor
open Go Go.RowKit Go.SX
open ChangeShapes WideShapes
theorem positionValid_wf:Rows.positionValidRow.wfByText (OpenSpec.ofChange Rows.positionValidSpec)=true:=by kernel_rfl
theorem positionValid_main:Tryz.checked.prog.mainIs=some ((true,"50441acfdc37b087390412179478dd3f101bd979b2d127afa52ca7f525d0394c").1,(true,"50441acfdc37b087390412179478dd3f101bd979b2d127afa52ca7f525d0394c").2.toList):=by kernel_rfl
theorem positionValid_stand:([30,9].all fun u=>!Tryz.prog.wantsStandIn u)=true:=by kernel_rfl
theorem positionValid_goes:false=Rows.positionValidRow.goesBy Tryz.checked.prog:=by kernel_rfl
theorem positionValid_card:Rows.PositionValidCardSaid :=
 Claim7.holds_tied_plain_at .later [] [.data,.pinned] true (true,"50441acfdc37b087390412179478dd3f101bd979b2d127afa52ca7f525d0394c") false positionValid_holds (fun _ h=>by cases h) positionValid_wf (fun _ h=>by cases h) positionValid_row_tie rfl ⟨rfl,rfl⟩ positionValid_main rfl
  (fun f fn hf hfn=>by
   obtain rfl:f=4:=Option.some.inj (positionValid_named.symm.trans hf) |>.symm
   obtain rfl:fn=Tryz.f4:=(Option.some.inj (Tryz.func4.symm.trans hfn)).symm
   exact ⟨jfo,fun j t ht=>by
    rw [Tryz.params4] at ht
    have hm:t∈[30,9]:=by simpa using Array.mem_of_getElem? ht
    exact (show Tryz.prog.wantsStandIn t=false by simpa using List.all_eq_true.1 positionValid_stand t hm)⟩)
  positionValid_goes
#print axioms positionValid_card
end Go.Proofs.YtkaakbpeegpnkaaGreatDoor
