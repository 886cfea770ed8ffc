/- ActionPlays: the card; no condition. -/
import Derived.Test.YtnfmpddhcjkjbaaGreatDoorActionPlaysQ2
set_option maxRecDepth 100000
set_option maxHeartbeats 4000000
namespace Go.Proofs.YtnfmpddhcjkjbaaGreatDoor
open Go Go.RowKit Go.SX
open ChangeShapes WideShapes
theorem actionPlays_wf:Rows.actionPlaysRow.wfByText (OpenSpec.ofChange Rows.actionPlaysSpec)=true:=by kernel_rfl
theorem actionPlays_main:Tryz.checked.prog.mainIs=some ((true,"cc9d86643e8ee8caee89dbb895cc8d904febe9707500b1f1ff3f4f989e6866ab").1,(true,"cc9d86643e8ee8caee89dbb895cc8d904febe9707500b1f1ff3f4f989e6866ab").2.toList):=by kernel_rfl
theorem actionPlays_stand:([39].all fun u=>!Tryz.prog.wantsStandIn u)=true:=by kernel_rfl
theorem actionPlays_goes:false=Rows.actionPlaysRow.goesBy Tryz.checked.prog:=by kernel_rfl
theorem actionPlays_card:Rows.ActionPlaysCardSaid :=
 Claim7.holds_tied_plain_at .later [] [.data,.pinned] true (true,"cc9d86643e8ee8caee89dbb895cc8d904febe9707500b1f1ff3f4f989e6866ab") false actionPlays_holds (fun _ h=>by cases h) actionPlays_wf (fun _ h=>by cases h) actionPlays_row_tie rfl ⟨rfl,rfl⟩ actionPlays_main rfl
  (fun f fn hf hfn=>by
   obtain rfl:f=4:=Option.some.inj (actionPlays_named.symm.trans hf) |>.symm
   obtain rfl:fn=Tryz.f4:=(Option.some.inj (Tryz.func4.symm.trans hfn)).symm
   exact ⟨jfo,fun j t ht=>by
    rw [Tryz.params4] at ht
    have hm:t∈[39]:=by simpa using Array.mem_of_getElem? ht
    exact (show Tryz.prog.wantsStandIn t=false by simpa using List.all_eq_true.1 actionPlays_stand t hm)⟩)
  actionPlays_goes
#print axioms actionPlays_card
end Go.Proofs.YtnfmpddhcjkjbaaGreatDoor
