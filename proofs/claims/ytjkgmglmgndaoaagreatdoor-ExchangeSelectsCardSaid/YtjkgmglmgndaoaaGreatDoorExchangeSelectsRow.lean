/- ExchangeSelects: the card; no condition. -/
import Derived.Test.YtjkgmglmgndaoaaGreatDoorExchangeSelectsQ4
set_option maxRecDepth 100000
set_option maxHeartbeats 4000000
namespace Go.Proofs.YtjkgmglmgndaoaaGreatDoor
open Go Go.RowKit Go.SX
open ChangeShapes WideShapes
theorem exchangeSelects_wf:Rows.exchangeSelectsRow.wfByText (OpenSpec.ofChange Rows.exchangeSelectsSpec)=true:=by kernel_rfl
theorem exchangeSelects_main:Tryz.checked.prog.mainIs=some ((true,"2675bc8ad21f2b6f2dc0c66dd76b2ca995abe9c71cc3abc8eadb650e8a64967a").1,(true,"2675bc8ad21f2b6f2dc0c66dd76b2ca995abe9c71cc3abc8eadb650e8a64967a").2.toList):=by kernel_rfl
theorem exchangeSelects_stand:([39].all fun u=>!Tryz.prog.wantsStandIn u)=true:=by kernel_rfl
theorem exchangeSelects_goes:false=Rows.exchangeSelectsRow.goesBy Tryz.checked.prog:=by kernel_rfl
theorem exchangeSelects_card:Rows.ExchangeSelectsCardSaid :=
 Claim7.holds_tied_plain_at .later [] [.data,.pinned] true (true,"2675bc8ad21f2b6f2dc0c66dd76b2ca995abe9c71cc3abc8eadb650e8a64967a") false exchangeSelects_holds (fun _ h=>by cases h) exchangeSelects_wf (fun _ h=>by cases h) exchangeSelects_row_tie rfl ⟨rfl,rfl⟩ exchangeSelects_main rfl
  (fun f fn hf hfn=>by
   obtain rfl:f=8:=Option.some.inj (exchangeSelects_named.symm.trans hf) |>.symm
   obtain rfl:fn=Tryz.f8:=(Option.some.inj (Tryz.func8.symm.trans hfn)).symm
   exact ⟨jfo,fun j t ht=>by
    rw [Tryz.params8] at ht
    have hm:t∈[39]:=by simpa using Array.mem_of_getElem? ht
    exact (show Tryz.prog.wantsStandIn t=false by simpa using List.all_eq_true.1 exchangeSelects_stand t hm)⟩)
  exchangeSelects_goes
#print axioms exchangeSelects_card
end Go.Proofs.YtjkgmglmgndaoaaGreatDoor
