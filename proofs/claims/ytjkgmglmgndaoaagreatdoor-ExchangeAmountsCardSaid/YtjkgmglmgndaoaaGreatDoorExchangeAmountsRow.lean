/- ExchangeAmounts: the card; no condition. -/
import Derived.Test.YtjkgmglmgndaoaaGreatDoorExchangeAmountsQ3
set_option maxRecDepth 100000
set_option maxHeartbeats 4000000
namespace Go.Proofs.YtjkgmglmgndaoaaGreatDoor
open Go Go.RowKit Go.SX
open ChangeShapes WideShapes
theorem exchangeAmounts_wf:Rows.exchangeAmountsRow.wfByText (OpenSpec.ofChange Rows.exchangeAmountsSpec)=true:=by kernel_rfl
theorem exchangeAmounts_main:Tryz.checked.prog.mainIs=some ((true,"2675bc8ad21f2b6f2dc0c66dd76b2ca995abe9c71cc3abc8eadb650e8a64967a").1,(true,"2675bc8ad21f2b6f2dc0c66dd76b2ca995abe9c71cc3abc8eadb650e8a64967a").2.toList):=by kernel_rfl
theorem exchangeAmounts_stand:([39].all fun u=>!Tryz.prog.wantsStandIn u)=true:=by kernel_rfl
theorem exchangeAmounts_goes:false=Rows.exchangeAmountsRow.goesBy Tryz.checked.prog:=by kernel_rfl
theorem exchangeAmounts_card:Rows.ExchangeAmountsCardSaid :=
 Claim7.holds_tied_plain_at .later [] [.data,.pinned] true (true,"2675bc8ad21f2b6f2dc0c66dd76b2ca995abe9c71cc3abc8eadb650e8a64967a") false exchangeAmounts_holds (fun _ h=>by cases h) exchangeAmounts_wf (fun _ h=>by cases h) exchangeAmounts_row_tie rfl ⟨rfl,rfl⟩ exchangeAmounts_main rfl
  (fun f fn hf hfn=>by
   obtain rfl:f=10:=Option.some.inj (exchangeAmounts_named.symm.trans hf) |>.symm
   obtain rfl:fn=Tryz.f10:=(Option.some.inj (Tryz.func10.symm.trans hfn)).symm
   exact ⟨jfo,fun j t ht=>by
    rw [Tryz.params10] at ht
    have hm:t∈[39]:=by simpa using Array.mem_of_getElem? ht
    exact (show Tryz.prog.wantsStandIn t=false by simpa using List.all_eq_true.1 exchangeAmounts_stand t hm)⟩)
  exchangeAmounts_goes
#print axioms exchangeAmounts_card
end Go.Proofs.YtjkgmglmgndaoaaGreatDoor
