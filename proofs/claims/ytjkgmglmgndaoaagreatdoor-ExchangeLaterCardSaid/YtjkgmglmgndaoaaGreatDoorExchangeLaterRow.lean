/- ExchangeLater: the card; no condition. -/
import Derived.Test.YtjkgmglmgndaoaaGreatDoorExchangeLaterQ4
set_option maxRecDepth 100000
set_option maxHeartbeats 4000000
namespace Go.Proofs.YtjkgmglmgndaoaaGreatDoor
open Go Go.RowKit Go.SX
open ChangeShapes WideShapes
theorem exchangeLater_wf:Rows.exchangeLaterRow.wfByText (OpenSpec.ofChange Rows.exchangeLaterSpec)=true:=by kernel_rfl
theorem exchangeLater_main:Tryz.checked.prog.mainIs=some ((true,"2675bc8ad21f2b6f2dc0c66dd76b2ca995abe9c71cc3abc8eadb650e8a64967a").1,(true,"2675bc8ad21f2b6f2dc0c66dd76b2ca995abe9c71cc3abc8eadb650e8a64967a").2.toList):=by kernel_rfl
theorem exchangeLater_stand:([39].all fun u=>!Tryz.prog.wantsStandIn u)=true:=by kernel_rfl
theorem exchangeLater_goes:false=Rows.exchangeLaterRow.goesBy Tryz.checked.prog:=by kernel_rfl
theorem exchangeLater_card:Rows.ExchangeLaterCardSaid :=
 Claim7.holds_tied_plain_at .later [] [.data,.pinned] true (true,"2675bc8ad21f2b6f2dc0c66dd76b2ca995abe9c71cc3abc8eadb650e8a64967a") false exchangeLater_holds (fun _ h=>by cases h) exchangeLater_wf (fun _ h=>by cases h) exchangeLater_row_tie rfl ⟨rfl,rfl⟩ exchangeLater_main rfl
  (fun f fn hf hfn=>by
   obtain rfl:f=7:=Option.some.inj (exchangeLater_named.symm.trans hf) |>.symm
   obtain rfl:fn=Tryz.f7:=(Option.some.inj (Tryz.func7.symm.trans hfn)).symm
   exact ⟨jfo,fun j t ht=>by
    rw [Tryz.params7] at ht
    have hm:t∈[39]:=by simpa using Array.mem_of_getElem? ht
    exact (show Tryz.prog.wantsStandIn t=false by simpa using List.all_eq_true.1 exchangeLater_stand t hm)⟩)
  exchangeLater_goes
#print axioms exchangeLater_card
end Go.Proofs.YtjkgmglmgndaoaaGreatDoor
