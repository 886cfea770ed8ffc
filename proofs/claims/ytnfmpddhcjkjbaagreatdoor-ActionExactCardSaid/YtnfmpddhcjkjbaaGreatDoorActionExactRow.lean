/- ActionExact: the card; no condition. -/
import Derived.Test.YtnfmpddhcjkjbaaGreatDoorActionExactQ2
set_option maxRecDepth 100000
set_option maxHeartbeats 4000000
namespace Go.Proofs.YtnfmpddhcjkjbaaGreatDoor
open Go Go.RowKit Go.SX
open ChangeShapes WideShapes
theorem actionExact_wf:Rows.actionExactRow.wfByText (OpenSpec.ofChange Rows.actionExactSpec)=true:=by kernel_rfl
theorem actionExact_main:Tryz.checked.prog.mainIs=some ((true,"cc9d86643e8ee8caee89dbb895cc8d904febe9707500b1f1ff3f4f989e6866ab").1,(true,"cc9d86643e8ee8caee89dbb895cc8d904febe9707500b1f1ff3f4f989e6866ab").2.toList):=by kernel_rfl
theorem actionExact_stand:([29,3,27].all fun u=>!Tryz.prog.wantsStandIn u)=true:=by kernel_rfl
theorem actionExact_goes:false=Rows.actionExactRow.goesBy Tryz.checked.prog:=by kernel_rfl
theorem actionExact_card:Rows.ActionExactCardSaid :=
 Claim7.holds_tied_plain_at .later [] [.data,.pinned] true (true,"cc9d86643e8ee8caee89dbb895cc8d904febe9707500b1f1ff3f4f989e6866ab") false actionExact_holds (fun _ h=>by cases h) actionExact_wf (fun _ h=>by cases h) actionExact_row_tie rfl ⟨rfl,rfl⟩ actionExact_main rfl
  (fun f fn hf hfn=>by
   obtain rfl:f=3:=Option.some.inj (actionExact_named.symm.trans hf) |>.symm
   obtain rfl:fn=Tryz.f3:=(Option.some.inj (Tryz.func3.symm.trans hfn)).symm
   exact ⟨jfo,fun j t ht=>by
    rw [Tryz.params3] at ht
    have hm:t∈[29,3,27]:=by simpa using Array.mem_of_getElem? ht
    exact (show Tryz.prog.wantsStandIn t=false by simpa using List.all_eq_true.1 actionExact_stand t hm)⟩)
  actionExact_goes
#print axioms actionExact_card
end Go.Proofs.YtnfmpddhcjkjbaaGreatDoor
