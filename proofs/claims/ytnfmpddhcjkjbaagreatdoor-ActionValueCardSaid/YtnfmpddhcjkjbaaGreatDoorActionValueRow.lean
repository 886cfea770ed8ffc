/- ActionValue: the card; no condition. -/
import Derived.Test.YtnfmpddhcjkjbaaGreatDoorActionValueQ2
set_option maxRecDepth 100000
set_option maxHeartbeats 4000000
namespace Go.Proofs.YtnfmpddhcjkjbaaGreatDoor
open Go Go.RowKit Go.SX
open ChangeShapes WideShapes
theorem actionValue_wf:Rows.actionValueRow.wfByText (OpenSpec.ofChange Rows.actionValueSpec)=true:=by kernel_rfl
theorem actionValue_main:Tryz.checked.prog.mainIs=some ((true,"cc9d86643e8ee8caee89dbb895cc8d904febe9707500b1f1ff3f4f989e6866ab").1,(true,"cc9d86643e8ee8caee89dbb895cc8d904febe9707500b1f1ff3f4f989e6866ab").2.toList):=by kernel_rfl
theorem actionValue_stand:([39].all fun u=>!Tryz.prog.wantsStandIn u)=true:=by kernel_rfl
theorem actionValue_goes:false=Rows.actionValueRow.goesBy Tryz.checked.prog:=by kernel_rfl
theorem actionValue_card:Rows.ActionValueCardSaid :=
 Claim7.holds_tied_plain_at .later [] [.data,.pinned] true (true,"cc9d86643e8ee8caee89dbb895cc8d904febe9707500b1f1ff3f4f989e6866ab") false actionValue_holds (fun _ h=>by cases h) actionValue_wf (fun _ h=>by cases h) actionValue_row_tie rfl ⟨rfl,rfl⟩ actionValue_main rfl
  (fun f fn hf hfn=>by
   obtain rfl:f=5:=Option.some.inj (actionValue_named.symm.trans hf) |>.symm
   obtain rfl:fn=Tryz.f5:=(Option.some.inj (Tryz.func5.symm.trans hfn)).symm
   exact ⟨jfo,fun j t ht=>by
    rw [Tryz.params5] at ht
    have hm:t∈[39]:=by simpa using Array.mem_of_getElem? ht
    exact (show Tryz.prog.wantsStandIn t=false by simpa using List.all_eq_true.1 actionValue_stand t hm)⟩)
  actionValue_goes
#print axioms actionValue_card
end Go.Proofs.YtnfmpddhcjkjbaaGreatDoor
