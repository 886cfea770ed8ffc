/- PositionCorrects: the card; no condition. -/
import Derived.Test.YtekfkdddadcalaaGreatDoorPositionCorrectsQ4
set_option maxRecDepth 100000
set_option maxHeartbeats 4000000
namespace Go.Proofs.YtekfkdddadcalaaGreatDoor
open Go Go.RowKit Go.SX
open ChangeShapes WideShapes
theorem positionCorrects_wf:Rows.positionCorrectsRow.wfByText (OpenSpec.ofChange Rows.positionCorrectsSpec)=true:=by kernel_rfl
theorem positionCorrects_main:Tryz.checked.prog.mainIs=some ((true,"aa5000ee0d7c1d901af995a79e019268efdca6199fc5768e4c4b152e43e19c9a").1,(true,"aa5000ee0d7c1d901af995a79e019268efdca6199fc5768e4c4b152e43e19c9a").2.toList):=by kernel_rfl
theorem positionCorrects_stand:([22].all fun u=>!Tryz.prog.wantsStandIn u)=true:=by kernel_rfl
theorem positionCorrects_goes:false=Rows.positionCorrectsRow.goesBy Tryz.checked.prog:=by kernel_rfl
theorem positionCorrects_card:Rows.PositionCorrectsCardSaid :=
 Claim7.holds_tied_plain_at .later [] [.data,.pinned] true (true,"aa5000ee0d7c1d901af995a79e019268efdca6199fc5768e4c4b152e43e19c9a") false positionCorrects_holds (fun _ h=>by cases h) positionCorrects_wf (fun _ h=>by cases h) positionCorrects_row_tie rfl ⟨rfl,rfl⟩ positionCorrects_main rfl
  (fun f fn hf hfn=>by
   obtain rfl:f=8:=Option.some.inj (positionCorrects_named.symm.trans hf) |>.symm
   obtain rfl:fn=Tryz.f8:=(Option.some.inj (Tryz.func8.symm.trans hfn)).symm
   exact ⟨jfo,fun j t ht=>by
    rw [Tryz.params8] at ht
    have hm:t∈[22]:=by simpa using Array.mem_of_getElem? ht
    exact (show Tryz.prog.wantsStandIn t=false by simpa using List.all_eq_true.1 positionCorrects_stand t hm)⟩)
  positionCorrects_goes
#print axioms positionCorrects_card
end Go.Proofs.YtekfkdddadcalaaGreatDoor
