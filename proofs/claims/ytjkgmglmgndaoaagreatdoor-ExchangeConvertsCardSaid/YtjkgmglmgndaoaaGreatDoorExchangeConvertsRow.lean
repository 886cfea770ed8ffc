/- ExchangeConverts: the card; no condition. -/
import Derived.Test.YtjkgmglmgndaoaaGreatDoorExchangeConvertsQ2
set_option maxRecDepth 100000
set_option maxHeartbeats 4000000
namespace Go.Proofs.YtjkgmglmgndaoaaGreatDoor
open Go Go.RowKit Go.SX
open ChangeShapes WideShapes
theorem exchangeConverts_wf:Rows.exchangeConvertsRow.wfByText (OpenSpec.ofChange Rows.exchangeConvertsSpec)=true:=by kernel_rfl
theorem exchangeConverts_main:Tryz.checked.prog.mainIs=some ((true,"2675bc8ad21f2b6f2dc0c66dd76b2ca995abe9c71cc3abc8eadb650e8a64967a").1,(true,"2675bc8ad21f2b6f2dc0c66dd76b2ca995abe9c71cc3abc8eadb650e8a64967a").2.toList):=by kernel_rfl
theorem exchangeConverts_stand:([3,29,3].all fun u=>!Tryz.prog.wantsStandIn u)=true:=by kernel_rfl
theorem exchangeConverts_goes:false=Rows.exchangeConvertsRow.goesBy Tryz.checked.prog:=by kernel_rfl
theorem exchangeConverts_card:Rows.ExchangeConvertsCardSaid :=
 Claim7.holds_tied_plain_at .later [] [.data,.pinned] true (true,"2675bc8ad21f2b6f2dc0c66dd76b2ca995abe9c71cc3abc8eadb650e8a64967a") false exchangeConverts_holds (fun _ h=>by cases h) exchangeConverts_wf (fun _ h=>by cases h) exchangeConverts_row_tie rfl ⟨rfl,rfl⟩ exchangeConverts_main rfl
  (fun f fn hf hfn=>by
   obtain rfl:f=9:=Option.some.inj (exchangeConverts_named.symm.trans hf) |>.symm
   obtain rfl:fn=Tryz.f9:=(Option.some.inj (Tryz.func9.symm.trans hfn)).symm
   exact ⟨jfo,fun j t ht=>by
    rw [Tryz.params9] at ht
    have hm:t∈[3,29,3]:=by simpa using Array.mem_of_getElem? ht
    exact (show Tryz.prog.wantsStandIn t=false by simpa using List.all_eq_true.1 exchangeConverts_stand t hm)⟩)
  exchangeConverts_goes
#print axioms exchangeConverts_card
end Go.Proofs.YtjkgmglmgndaoaaGreatDoor
