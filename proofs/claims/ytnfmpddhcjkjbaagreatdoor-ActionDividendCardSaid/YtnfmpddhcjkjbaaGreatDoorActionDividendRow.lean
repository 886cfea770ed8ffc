/- ActionDividend: the card; no condition. -/
import Derived.Test.YtnfmpddhcjkjbaaGreatDoorActionDividendQ2
set_option maxRecDepth 100000
set_option maxHeartbeats 4000000
namespace Go.Proofs.YtnfmpddhcjkjbaaGreatDoor
open Go Go.RowKit Go.SX
open ChangeShapes WideShapes
theorem actionDividend_wf:Rows.actionDividendRow.wfByText (OpenSpec.ofChange Rows.actionDividendSpec)=true:=by kernel_rfl
theorem actionDividend_main:Tryz.checked.prog.mainIs=some ((true,"cc9d86643e8ee8caee89dbb895cc8d904febe9707500b1f1ff3f4f989e6866ab").1,(true,"cc9d86643e8ee8caee89dbb895cc8d904febe9707500b1f1ff3f4f989e6866ab").2.toList):=by kernel_rfl
theorem actionDividend_stand:([39].all fun u=>!Tryz.prog.wantsStandIn u)=true:=by kernel_rfl
theorem actionDividend_goes:false=Rows.actionDividendRow.goesBy Tryz.checked.prog:=by kernel_rfl
theorem actionDividend_card:Rows.ActionDividendCardSaid :=
 Claim7.holds_tied_plain_at .later [] [.data,.pinned] true (true,"cc9d86643e8ee8caee89dbb895cc8d904febe9707500b1f1ff3f4f989e6866ab") false actionDividend_holds (fun _ h=>by cases h) actionDividend_wf (fun _ h=>by cases h) actionDividend_row_tie rfl ⟨rfl,rfl⟩ actionDividend_main rfl
  (fun f fn hf hfn=>by
   obtain rfl:f=6:=Option.some.inj (actionDividend_named.symm.trans hf) |>.symm
   obtain rfl:fn=Tryz.f6:=(Option.some.inj (Tryz.func6.symm.trans hfn)).symm
   exact ⟨jfo,fun j t ht=>by
    rw [Tryz.params6] at ht
    have hm:t∈[39]:=by simpa using Array.mem_of_getElem? ht
    exact (show Tryz.prog.wantsStandIn t=false by simpa using List.all_eq_true.1 actionDividend_stand t hm)⟩)
  actionDividend_goes
#print axioms actionDividend_card
end Go.Proofs.YtnfmpddhcjkjbaaGreatDoor
