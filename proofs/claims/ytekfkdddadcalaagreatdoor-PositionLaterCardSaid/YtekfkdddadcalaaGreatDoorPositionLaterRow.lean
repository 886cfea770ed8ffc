/- PositionLater: the card; no condition. -/
import Derived.Test.YtekfkdddadcalaaGreatDoorPositionLaterQ33
set_option maxRecDepth 100000
set_option maxHeartbeats 4000000
namespace Go.Proofs.YtekfkdddadcalaaGreatDoor
open Go Go.RowKit Go.SX
open ChangeShapes WideShapes
theorem positionLater_wf:Rows.positionLaterRow.wfByText (OpenSpec.ofChange Rows.positionLaterSpec)=true:=by kernel_rfl
theorem positionLater_main:Tryz.checked.prog.mainIs=some ((true,"aa5000ee0d7c1d901af995a79e019268efdca6199fc5768e4c4b152e43e19c9a").1,(true,"aa5000ee0d7c1d901af995a79e019268efdca6199fc5768e4c4b152e43e19c9a").2.toList):=by kernel_rfl
theorem positionLater_stand:([22].all fun u=>!Tryz.prog.wantsStandIn u)=true:=by kernel_rfl
theorem positionLater_goes:false=Rows.positionLaterRow.goesBy Tryz.checked.prog:=by kernel_rfl
theorem positionLater_card:Rows.PositionLaterCardSaid :=
 Claim7.holds_tied_plain_at .later [] [.data,.pinned] true (true,"aa5000ee0d7c1d901af995a79e019268efdca6199fc5768e4c4b152e43e19c9a") false positionLater_holds (fun _ h=>by cases h) positionLater_wf (fun _ h=>by cases h) positionLater_row_tie rfl ⟨rfl,rfl⟩ positionLater_main rfl
  (fun f fn hf hfn=>by
   obtain rfl:f=5:=Option.some.inj (positionLater_named.symm.trans hf) |>.symm
   obtain rfl:fn=Tryz.f5:=(Option.some.inj (Tryz.func5.symm.trans hfn)).symm
   exact ⟨jfo,fun j t ht=>by
    rw [Tryz.params5] at ht
    have hm:t∈[22]:=by simpa using Array.mem_of_getElem? ht
    exact (show Tryz.prog.wantsStandIn t=false by simpa using List.all_eq_true.1 positionLater_stand t hm)⟩)
  positionLater_goes
#print axioms positionLater_card
end Go.Proofs.YtekfkdddadcalaaGreatDoor
