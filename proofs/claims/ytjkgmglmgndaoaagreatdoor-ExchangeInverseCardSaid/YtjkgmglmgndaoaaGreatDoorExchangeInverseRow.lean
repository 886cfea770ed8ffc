/- ExchangeInverse: the card; no condition. -/
import Derived.Test.YtjkgmglmgndaoaaGreatDoorExchangeInverseQ3
set_option maxRecDepth 100000
set_option maxHeartbeats 4000000
namespace Go.Proofs.YtjkgmglmgndaoaaGreatDoor
open Go Go.RowKit Go.SX
open ChangeShapes WideShapes
theorem exchangeInverse_wf:Rows.exchangeInverseRow.wfByText (OpenSpec.ofChange Rows.exchangeInverseSpec)=true:=by kernel_rfl
theorem exchangeInverse_main:Tryz.checked.prog.mainIs=some ((true,"2675bc8ad21f2b6f2dc0c66dd76b2ca995abe9c71cc3abc8eadb650e8a64967a").1,(true,"2675bc8ad21f2b6f2dc0c66dd76b2ca995abe9c71cc3abc8eadb650e8a64967a").2.toList):=by kernel_rfl
theorem exchangeInverse_stand:([39].all fun u=>!Tryz.prog.wantsStandIn u)=true:=by kernel_rfl
theorem exchangeInverse_goes:false=Rows.exchangeInverseRow.goesBy Tryz.checked.prog:=by kernel_rfl
theorem exchangeInverse_card:Rows.ExchangeInverseCardSaid :=
 Claim7.holds_tied_plain_at .later [] [.data,.pinned] true (true,"2675bc8ad21f2b6f2dc0c66dd76b2ca995abe9c71cc3abc8eadb650e8a64967a") false exchangeInverse_holds (fun _ h=>by cases h) exchangeInverse_wf (fun _ h=>by cases h) exchangeInverse_row_tie rfl ⟨rfl,rfl⟩ exchangeInverse_main rfl
  (fun f fn hf hfn=>by
   obtain rfl:f=5:=Option.some.inj (exchangeInverse_named.symm.trans hf) |>.symm
   obtain rfl:fn=Tryz.f5:=(Option.some.inj (Tryz.func5.symm.trans hfn)).symm
   exact ⟨jfo,fun j t ht=>by
    rw [Tryz.params5] at ht
    have hm:t∈[39]:=by simpa using Array.mem_of_getElem? ht
    exact (show Tryz.prog.wantsStandIn t=false by simpa using List.all_eq_true.1 exchangeInverse_stand t hm)⟩)
  exchangeInverse_goes
#print axioms exchangeInverse_card
end Go.Proofs.YtjkgmglmgndaoaaGreatDoor
