/- ActionInverse: the card; no condition. -/
import Derived.Test.YtnfmpddhcjkjbaaGreatDoorActionInverseQ2
set_option maxRecDepth 100000
set_option maxHeartbeats 4000000
namespace Go.Proofs.YtnfmpddhcjkjbaaGreatDoor
open Go Go.RowKit Go.SX
open ChangeShapes WideShapes
theorem actionInverse_wf:Rows.actionInverseRow.wfByText (OpenSpec.ofChange Rows.actionInverseSpec)=true:=by kernel_rfl
theorem actionInverse_main:Tryz.checked.prog.mainIs=some ((true,"cc9d86643e8ee8caee89dbb895cc8d904febe9707500b1f1ff3f4f989e6866ab").1,(true,"cc9d86643e8ee8caee89dbb895cc8d904febe9707500b1f1ff3f4f989e6866ab").2.toList):=by kernel_rfl
theorem actionInverse_stand:([39].all fun u=>!Tryz.prog.wantsStandIn u)=true:=by kernel_rfl
theorem actionInverse_goes:false=Rows.actionInverseRow.goesBy Tryz.checked.prog:=by kernel_rfl
theorem actionInverse_card:Rows.ActionInverseCardSaid :=
 Claim7.holds_tied_plain_at .later [] [.data,.pinned] true (true,"cc9d86643e8ee8caee89dbb895cc8d904febe9707500b1f1ff3f4f989e6866ab") false actionInverse_holds (fun _ h=>by cases h) actionInverse_wf (fun _ h=>by cases h) actionInverse_row_tie rfl ⟨rfl,rfl⟩ actionInverse_main rfl
  (fun f fn hf hfn=>by
   obtain rfl:f=8:=Option.some.inj (actionInverse_named.symm.trans hf) |>.symm
   obtain rfl:fn=Tryz.f8:=(Option.some.inj (Tryz.func8.symm.trans hfn)).symm
   exact ⟨jfo,fun j t ht=>by
    rw [Tryz.params8] at ht
    have hm:t∈[39]:=by simpa using Array.mem_of_getElem? ht
    exact (show Tryz.prog.wantsStandIn t=false by simpa using List.all_eq_true.1 actionInverse_stand t hm)⟩)
  actionInverse_goes
#print axioms actionInverse_card
end Go.Proofs.YtnfmpddhcjkjbaaGreatDoor
