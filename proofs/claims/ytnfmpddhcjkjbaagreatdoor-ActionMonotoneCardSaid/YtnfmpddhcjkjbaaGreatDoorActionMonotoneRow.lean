/- ActionMonotone: the card; no condition. -/
import Derived.Test.YtnfmpddhcjkjbaaGreatDoorActionMonotoneQ2
set_option maxRecDepth 100000
set_option maxHeartbeats 4000000
namespace Go.Proofs.YtnfmpddhcjkjbaaGreatDoor
open Go Go.RowKit Go.SX
open ChangeShapes WideShapes
theorem actionMonotone_wf:Rows.actionMonotoneRow.wfByText (OpenSpec.ofChange Rows.actionMonotoneSpec)=true:=by kernel_rfl
theorem actionMonotone_main:Tryz.checked.prog.mainIs=some ((true,"cc9d86643e8ee8caee89dbb895cc8d904febe9707500b1f1ff3f4f989e6866ab").1,(true,"cc9d86643e8ee8caee89dbb895cc8d904febe9707500b1f1ff3f4f989e6866ab").2.toList):=by kernel_rfl
theorem actionMonotone_stand:([39].all fun u=>!Tryz.prog.wantsStandIn u)=true:=by kernel_rfl
theorem actionMonotone_goes:false=Rows.actionMonotoneRow.goesBy Tryz.checked.prog:=by kernel_rfl
theorem actionMonotone_card:Rows.ActionMonotoneCardSaid :=
 Claim7.holds_tied_plain_at .later [] [.data,.pinned] true (true,"cc9d86643e8ee8caee89dbb895cc8d904febe9707500b1f1ff3f4f989e6866ab") false actionMonotone_holds (fun _ h=>by cases h) actionMonotone_wf (fun _ h=>by cases h) actionMonotone_row_tie rfl ⟨rfl,rfl⟩ actionMonotone_main rfl
  (fun f fn hf hfn=>by
   obtain rfl:f=7:=Option.some.inj (actionMonotone_named.symm.trans hf) |>.symm
   obtain rfl:fn=Tryz.f7:=(Option.some.inj (Tryz.func7.symm.trans hfn)).symm
   exact ⟨jfo,fun j t ht=>by
    rw [Tryz.params7] at ht
    have hm:t∈[39]:=by simpa using Array.mem_of_getElem? ht
    exact (show Tryz.prog.wantsStandIn t=false by simpa using List.all_eq_true.1 actionMonotone_stand t hm)⟩)
  actionMonotone_goes
#print axioms actionMonotone_card
end Go.Proofs.YtnfmpddhcjkjbaaGreatDoor
