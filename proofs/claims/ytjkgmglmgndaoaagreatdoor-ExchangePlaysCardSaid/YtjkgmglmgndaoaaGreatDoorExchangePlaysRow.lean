/- ExchangePlays: the card; no condition. -/
import Derived.Test.YtjkgmglmgndaoaaGreatDoorExchangePlaysQ2
set_option maxRecDepth 100000
set_option maxHeartbeats 4000000
namespace Go.Proofs.YtjkgmglmgndaoaaGreatDoor
open Go Go.RowKit Go.SX
open ChangeShapes WideShapes
theorem exchangePlays_wf:Rows.exchangePlaysRow.wfByText (OpenSpec.ofChange Rows.exchangePlaysSpec)=true:=by kernel_rfl
theorem exchangePlays_main:Tryz.checked.prog.mainIs=some ((true,"2675bc8ad21f2b6f2dc0c66dd76b2ca995abe9c71cc3abc8eadb650e8a64967a").1,(true,"2675bc8ad21f2b6f2dc0c66dd76b2ca995abe9c71cc3abc8eadb650e8a64967a").2.toList):=by kernel_rfl
theorem exchangePlays_stand:([39].all fun u=>!Tryz.prog.wantsStandIn u)=true:=by kernel_rfl
theorem exchangePlays_goes:false=Rows.exchangePlaysRow.goesBy Tryz.checked.prog:=by kernel_rfl
theorem exchangePlays_card:Rows.ExchangePlaysCardSaid :=
 Claim7.holds_tied_plain_at .later [] [.data,.pinned] true (true,"2675bc8ad21f2b6f2dc0c66dd76b2ca995abe9c71cc3abc8eadb650e8a64967a") false exchangePlays_holds (fun _ h=>by cases h) exchangePlays_wf (fun _ h=>by cases h) exchangePlays_row_tie rfl ⟨rfl,rfl⟩ exchangePlays_main rfl
  (fun f fn hf hfn=>by
   obtain rfl:f=4:=Option.some.inj (exchangePlays_named.symm.trans hf) |>.symm
   obtain rfl:fn=Tryz.f4:=(Option.some.inj (Tryz.func4.symm.trans hfn)).symm
   exact ⟨jfo,fun j t ht=>by
    rw [Tryz.params4] at ht
    have hm:t∈[39]:=by simpa using Array.mem_of_getElem? ht
    exact (show Tryz.prog.wantsStandIn t=false by simpa using List.all_eq_true.1 exchangePlays_stand t hm)⟩)
  exchangePlays_goes
#print axioms exchangePlays_card
end Go.Proofs.YtjkgmglmgndaoaaGreatDoor
