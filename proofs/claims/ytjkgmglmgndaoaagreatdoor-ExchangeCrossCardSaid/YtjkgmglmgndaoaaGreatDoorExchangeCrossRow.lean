/- ExchangeCross: the card; no condition. -/
import Derived.Test.YtjkgmglmgndaoaaGreatDoorExchangeCrossQ2
set_option maxRecDepth 100000
set_option maxHeartbeats 4000000
namespace Go.Proofs.YtjkgmglmgndaoaaGreatDoor
open Go Go.RowKit Go.SX
open ChangeShapes WideShapes
theorem exchangeCross_wf:Rows.exchangeCrossRow.wfByText (OpenSpec.ofChange Rows.exchangeCrossSpec)=true:=by kernel_rfl
theorem exchangeCross_main:Tryz.checked.prog.mainIs=some ((true,"2675bc8ad21f2b6f2dc0c66dd76b2ca995abe9c71cc3abc8eadb650e8a64967a").1,(true,"2675bc8ad21f2b6f2dc0c66dd76b2ca995abe9c71cc3abc8eadb650e8a64967a").2.toList):=by kernel_rfl
theorem exchangeCross_stand:([39].all fun u=>!Tryz.prog.wantsStandIn u)=true:=by kernel_rfl
theorem exchangeCross_goes:false=Rows.exchangeCrossRow.goesBy Tryz.checked.prog:=by kernel_rfl
theorem exchangeCross_card:Rows.ExchangeCrossCardSaid :=
 Claim7.holds_tied_plain_at .later [] [.data,.pinned] true (true,"2675bc8ad21f2b6f2dc0c66dd76b2ca995abe9c71cc3abc8eadb650e8a64967a") false exchangeCross_holds (fun _ h=>by cases h) exchangeCross_wf (fun _ h=>by cases h) exchangeCross_row_tie rfl ⟨rfl,rfl⟩ exchangeCross_main rfl
  (fun f fn hf hfn=>by
   obtain rfl:f=6:=Option.some.inj (exchangeCross_named.symm.trans hf) |>.symm
   obtain rfl:fn=Tryz.f6:=(Option.some.inj (Tryz.func6.symm.trans hfn)).symm
   exact ⟨jfo,fun j t ht=>by
    rw [Tryz.params6] at ht
    have hm:t∈[39]:=by simpa using Array.mem_of_getElem? ht
    exact (show Tryz.prog.wantsStandIn t=false by simpa using List.all_eq_true.1 exchangeCross_stand t hm)⟩)
  exchangeCross_goes
#print axioms exchangeCross_card
end Go.Proofs.YtjkgmglmgndaoaaGreatDoor
