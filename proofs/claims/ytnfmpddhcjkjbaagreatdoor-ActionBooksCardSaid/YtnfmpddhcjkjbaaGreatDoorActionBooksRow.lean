/- ActionBooks: the card; no condition. -/
import Derived.Test.YtnfmpddhcjkjbaaGreatDoorActionBooksQ3
set_option maxRecDepth 100000
set_option maxHeartbeats 4000000
namespace Go.Proofs.YtnfmpddhcjkjbaaGreatDoor
open Go Go.RowKit Go.SX
open ChangeShapes WideShapes
theorem actionBooks_wf:Rows.actionBooksRow.wfByText (OpenSpec.ofChange Rows.actionBooksSpec)=true:=by kernel_rfl
theorem actionBooks_main:Tryz.checked.prog.mainIs=some ((true,"cc9d86643e8ee8caee89dbb895cc8d904febe9707500b1f1ff3f4f989e6866ab").1,(true,"cc9d86643e8ee8caee89dbb895cc8d904febe9707500b1f1ff3f4f989e6866ab").2.toList):=by kernel_rfl
theorem actionBooks_stand:([66,3].all fun u=>!Tryz.prog.wantsStandIn u)=true:=by kernel_rfl
theorem actionBooks_goes:false=Rows.actionBooksRow.goesBy Tryz.checked.prog:=by kernel_rfl
theorem actionBooks_card:Rows.ActionBooksCardSaid :=
 Claim7.holds_tied_plain_at .later [] [.data,.pinned] true (true,"cc9d86643e8ee8caee89dbb895cc8d904febe9707500b1f1ff3f4f989e6866ab") false actionBooks_holds (fun _ h=>by cases h) actionBooks_wf (fun _ h=>by cases h) actionBooks_row_tie rfl ⟨rfl,rfl⟩ actionBooks_main rfl
  (fun f fn hf hfn=>by
   obtain rfl:f=9:=Option.some.inj (actionBooks_named.symm.trans hf) |>.symm
   obtain rfl:fn=Tryz.f9:=(Option.some.inj (Tryz.func9.symm.trans hfn)).symm
   exact ⟨jfo,fun j t ht=>by
    rw [Tryz.params9] at ht
    have hm:t∈[66,3]:=by simpa using Array.mem_of_getElem? ht
    exact (show Tryz.prog.wantsStandIn t=false by simpa using List.all_eq_true.1 actionBooks_stand t hm)⟩)
  actionBooks_goes
#print axioms actionBooks_card
end Go.Proofs.YtnfmpddhcjkjbaaGreatDoor
