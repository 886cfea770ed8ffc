/- PositionExact: the card; no condition. -/
import Derived.Test.YtkaakbpeegpnkaaGreatDoorPositionExactQ5
set_option maxRecDepth 100000
set_option maxHeartbeats 4000000
namespace Go.Proofs.YtkaakbpeegpnkaaGreatDoor
open Go Go.RowKit Go.SX
open ChangeShapes WideShapes
theorem positionExact_wf:Rows.positionExactRow.wfByText (OpenSpec.ofChange Rows.positionExactSpec)=true:=by kernel_rfl
theorem positionExact_main:Tryz.checked.prog.mainIs=some ((true,"50441acfdc37b087390412179478dd3f101bd979b2d127afa52ca7f525d0394c").1,(true,"50441acfdc37b087390412179478dd3f101bd979b2d127afa52ca7f525d0394c").2.toList):=by kernel_rfl
theorem positionExact_stand:([22,23,3,3].all fun u=>!Tryz.prog.wantsStandIn u)=true:=by kernel_rfl
theorem positionExact_goes:false=Rows.positionExactRow.goesBy Tryz.checked.prog:=by kernel_rfl
theorem positionExact_card:Rows.PositionExactCardSaid :=
 Claim7.holds_tied_plain_at .later [] [.data,.pinned] true (true,"50441acfdc37b087390412179478dd3f101bd979b2d127afa52ca7f525d0394c") false positionExact_holds (fun _ h=>by cases h) positionExact_wf (fun _ h=>by cases h) positionExact_row_tie rfl ⟨rfl,rfl⟩ positionExact_main rfl
  (fun f fn hf hfn=>by
   obtain rfl:f=3:=Option.some.inj (positionExact_named.symm.trans hf) |>.symm
   obtain rfl:fn=Tryz.f3:=(Option.some.inj (Tryz.func3.symm.trans hfn)).symm
   exact ⟨jfo,fun j t ht=>by
    rw [Tryz.params3] at ht
    have hm:t∈[22,23,3,3]:=by simpa using Array.mem_of_getElem? ht
    exact (show Tryz.prog.wantsStandIn t=false by simpa using List.all_eq_true.1 positionExact_stand t hm)⟩)
  positionExact_goes
#print axioms positionExact_card
end Go.Proofs.YtkaakbpeegpnkaaGreatDoor
