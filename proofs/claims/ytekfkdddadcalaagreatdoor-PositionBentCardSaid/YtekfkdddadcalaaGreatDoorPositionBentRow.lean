/- PositionBent: the card; no condition. -/
import Derived.Test.YtekfkdddadcalaaGreatDoorPositionBentQ33
set_option maxRecDepth 100000
set_option maxHeartbeats 4000000
namespace Go.Proofs.YtekfkdddadcalaaGreatDoor
open Go Go.RowKit Go.SX
open ChangeShapes WideShapes
theorem positionBent_wf:Rows.positionBentRow.wfByText (OpenSpec.ofChange Rows.positionBentSpec)=true:=by kernel_rfl
theorem positionBent_main:Tryz.checked.prog.mainIs=some ((true,"aa5000ee0d7c1d901af995a79e019268efdca6199fc5768e4c4b152e43e19c9a").1,(true,"aa5000ee0d7c1d901af995a79e019268efdca6199fc5768e4c4b152e43e19c9a").2.toList):=by kernel_rfl
theorem positionBent_stand:([22,3].all fun u=>!Tryz.prog.wantsStandIn u)=true:=by kernel_rfl
theorem positionBent_goes:false=Rows.positionBentRow.goesBy Tryz.checked.prog:=by kernel_rfl
theorem positionBent_card:Rows.PositionBentCardSaid :=
 Claim7.holds_tied_plain_at .later [] [.data,.pinned] true (true,"aa5000ee0d7c1d901af995a79e019268efdca6199fc5768e4c4b152e43e19c9a") false positionBent_holds (fun _ h=>by cases h) positionBent_wf (fun _ h=>by cases h) positionBent_row_tie rfl ⟨rfl,rfl⟩ positionBent_main rfl
  (fun f fn hf hfn=>by
   obtain rfl:f=10:=Option.some.inj (positionBent_named.symm.trans hf) |>.symm
   obtain rfl:fn=Tryz.f10:=(Option.some.inj (Tryz.func10.symm.trans hfn)).symm
   exact ⟨jfo,fun j t ht=>by
    rw [Tryz.params10] at ht
    have hm:t∈[22,3]:=by simpa using Array.mem_of_getElem? ht
    exact (show Tryz.prog.wantsStandIn t=false by simpa using List.all_eq_true.1 positionBent_stand t hm)⟩)
  positionBent_goes
#print axioms positionBent_card
end Go.Proofs.YtekfkdddadcalaaGreatDoor
