/- PositionSpoilt: the card; no condition. -/
import Derived.Test.YtekfkdddadcalaaGreatDoorPositionSpoiltQ35
set_option maxRecDepth 100000
set_option maxHeartbeats 4000000
namespace Go.Proofs.YtekfkdddadcalaaGreatDoor
open Go Go.RowKit Go.SX
open ChangeShapes WideShapes
theorem lI:Rows.positionSpoiltRow.wfByText (OpenSpec.ofChange Rows.positionSpoiltSpec)=true:=by kernel_rfl
theorem jW:Tryz.checked.prog.mainIs=some ((true,"aa5000ee0d7c1d901af995a79e019268efdca6199fc5768e4c4b152e43e19c9a").1,(true,"aa5000ee0d7c1d901af995a79e019268efdca6199fc5768e4c4b152e43e19c9a").2.toList):=by kernel_rfl
theorem jm:([22,3].all fun u=>!Tryz.prog.wantsStandIn u)=true:=by kernel_rfl
theorem jY:false=Rows.positionSpoiltRow.goesBy Tryz.checked.prog:=by kernel_rfl
theorem positionSpoilt_card:Rows.PositionSpoiltCardSaid :=
 Claim7.holds_tied_plain_at .later [] [.data,.pinned] true (true,"aa5000ee0d7c1d901af995a79e019268efdca6199fc5768e4c4b152e43e19c9a") false jn (fun _ h=>by cases h) lI (fun _ h=>by cases h) positionSpoilt_row_tie rfl ⟨rfl,rfl⟩ jW rfl
  (fun f fn hf hfn=>by
   obtain rfl:f=3:=Option.some.inj (fk.symm.trans hf) |>.symm
   obtain rfl:fn=Tryz.f3:=(Option.some.inj (Tryz.func3.symm.trans hfn)).symm
   exact ⟨jfo,fun j t ht=>by
    rw [Tryz.params3] at ht
    have hm:t∈[22,3]:=by simpa using Array.mem_of_getElem? ht
    exact (show Tryz.prog.wantsStandIn t=false by simpa using List.all_eq_true.1 jm t hm)⟩)
  jY
#print axioms positionSpoilt_card
end Go.Proofs.YtekfkdddadcalaaGreatDoor
