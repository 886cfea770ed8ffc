/- ExchangeExact: the card; no condition. -/
import Derived.Test.YtjkgmglmgndaoaaGreatDoorExchangeExactQ4
set_option maxRecDepth 100000
set_option maxHeartbeats 4000000
namespace Go.Proofs.YtjkgmglmgndaoaaGreatDoor
open Go Go.RowKit Go.SX
open ChangeShapes WideShapes
theorem exchangeExact_wf:Rows.exchangeExactRow.wfByText (OpenSpec.ofChange Rows.exchangeExactSpec)=true:=by kernel_rfl
theorem exchangeExact_main:Tryz.checked.prog.mainIs=some ((true,"2675bc8ad21f2b6f2dc0c66dd76b2ca995abe9c71cc3abc8eadb650e8a64967a").1,(true,"2675bc8ad21f2b6f2dc0c66dd76b2ca995abe9c71cc3abc8eadb650e8a64967a").2.toList):=by kernel_rfl
theorem exchangeExact_stand:([22,31,3,9,9,9,3].all fun u=>!Tryz.prog.wantsStandIn u)=true:=by kernel_rfl
theorem exchangeExact_goes:false=Rows.exchangeExactRow.goesBy Tryz.checked.prog:=by kernel_rfl
theorem exchangeExact_card:Rows.ExchangeExactCardSaid :=
 Claim7.holds_tied_plain_at .later [] [.data,.pinned] true (true,"2675bc8ad21f2b6f2dc0c66dd76b2ca995abe9c71cc3abc8eadb650e8a64967a") false exchangeExact_holds (fun _ h=>by cases h) exchangeExact_wf (fun _ h=>by cases h) exchangeExact_row_tie rfl ⟨rfl,rfl⟩ exchangeExact_main rfl
  (fun f fn hf hfn=>by
   obtain rfl:f=3:=Option.some.inj (exchangeExact_named.symm.trans hf) |>.symm
   obtain rfl:fn=Tryz.f3:=(Option.some.inj (Tryz.func3.symm.trans hfn)).symm
   exact ⟨jfo,fun j t ht=>by
    rw [Tryz.params3] at ht
    have hm:t∈[22,31,3,9,9,9,3]:=by simpa using Array.mem_of_getElem? ht
    exact (show Tryz.prog.wantsStandIn t=false by simpa using List.all_eq_true.1 exchangeExact_stand t hm)⟩)
  exchangeExact_goes
#print axioms exchangeExact_card
end Go.Proofs.YtjkgmglmgndaoaaGreatDoor
