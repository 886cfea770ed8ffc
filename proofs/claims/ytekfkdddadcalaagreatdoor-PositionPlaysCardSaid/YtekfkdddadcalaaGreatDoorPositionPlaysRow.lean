/- PositionPlays: the card; no condition. -/
import Derived.Test.YtekfkdddadcalaaGreatDoorPositionPlaysQ37
set_option maxRecDepth 100000
set_option maxHeartbeats 4000000
namespace Go.Proofs.YtekfkdddadcalaaGreatDoor
open Go Go.RowKit Go.SX
open ChangeShapes WideShapes
theorem nn:Rows.positionPlaysRow.wfByText (OpenSpec.ofChange Rows.positionPlaysSpec)=true:=by kernel_rfl
theorem kN:Tryz.checked.prog.mainIs=some ((true,"aa5000ee0d7c1d901af995a79e019268efdca6199fc5768e4c4b152e43e19c9a").1,(true,"aa5000ee0d7c1d901af995a79e019268efdca6199fc5768e4c4b152e43e19c9a").2.toList):=by kernel_rfl
theorem kg:([22].all fun u=>!Tryz.prog.wantsStandIn u)=true:=by kernel_rfl
theorem kP:false=Rows.positionPlaysRow.goesBy Tryz.checked.prog:=by kernel_rfl
theorem positionPlays_card:Rows.PositionPlaysCardSaid :=
 Claim7.holds_tied_plain_at .later [] [.data,.pinned] true (true,"aa5000ee0d7c1d901af995a79e019268efdca6199fc5768e4c4b152e43e19c9a") false ki (fun _ h=>by cases h) nn (fun _ h=>by cases h) positionPlays_row_tie rfl ⟨rfl,rfl⟩ kN rfl
  (fun f fn hf hfn=>by
   obtain rfl:f=9:=Option.some.inj (fS.symm.trans hf) |>.symm
   obtain rfl:fn=Tryz.f9:=(Option.some.inj (Tryz.func9.symm.trans hfn)).symm
   exact ⟨jfo,fun j t ht=>by
    rw [Tryz.params9] at ht
    have hm:t∈[22]:=by simpa using Array.mem_of_getElem? ht
    exact (show Tryz.prog.wantsStandIn t=false by simpa using List.all_eq_true.1 kg t hm)⟩)
  kP
#print axioms positionPlays_card
end Go.Proofs.YtekfkdddadcalaaGreatDoor
