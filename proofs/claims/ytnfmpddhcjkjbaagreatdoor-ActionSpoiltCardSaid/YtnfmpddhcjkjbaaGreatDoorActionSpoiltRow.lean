/- ActionSpoilt: the card; no condition. -/
import Derived.Test.YtnfmpddhcjkjbaaGreatDoorActionSpoiltQ3
set_option maxRecDepth 100000
set_option maxHeartbeats 4000000
namespace Go.Proofs.YtnfmpddhcjkjbaaGreatDoor
open Go Go.RowKit Go.SX
open ChangeShapes WideShapes
theorem actionSpoilt_wf:Rows.actionSpoiltRow.wfByText (OpenSpec.ofChange Rows.actionSpoiltSpec)=true:=by kernel_rfl
theorem actionSpoilt_main:Tryz.checked.prog.mainIs=some ((true,"cc9d86643e8ee8caee89dbb895cc8d904febe9707500b1f1ff3f4f989e6866ab").1,(true,"cc9d86643e8ee8caee89dbb895cc8d904febe9707500b1f1ff3f4f989e6866ab").2.toList):=by kernel_rfl
theorem actionSpoilt_stand:([39,3,27].all fun u=>!Tryz.prog.wantsStandIn u)=true:=by kernel_rfl
theorem actionSpoilt_goes:false=Rows.actionSpoiltRow.goesBy Tryz.checked.prog:=by kernel_rfl
theorem actionSpoilt_card:Rows.ActionSpoiltCardSaid :=
 Claim7.holds_tied_plain_at .later [] [.data,.pinned] true (true,"cc9d86643e8ee8caee89dbb895cc8d904febe9707500b1f1ff3f4f989e6866ab") false actionSpoilt_holds (fun _ h=>by cases h) actionSpoilt_wf (fun _ h=>by cases h) actionSpoilt_row_tie rfl ⟨rfl,rfl⟩ actionSpoilt_main rfl
  (fun f fn hf hfn=>by
   obtain rfl:f=10:=Option.some.inj (actionSpoilt_named.symm.trans hf) |>.symm
   obtain rfl:fn=Tryz.f10:=(Option.some.inj (Tryz.func10.symm.trans hfn)).symm
   exact ⟨jfo,fun j t ht=>by
    rw [Tryz.params10] at ht
    have hm:t∈[39,3,27]:=by simpa using Array.mem_of_getElem? ht
    exact (show Tryz.prog.wantsStandIn t=false by simpa using List.all_eq_true.1 actionSpoilt_stand t hm)⟩)
  actionSpoilt_goes
#print axioms actionSpoilt_card
end Go.Proofs.YtnfmpddhcjkjbaaGreatDoor
