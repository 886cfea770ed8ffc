/- SelectorLater: the card; no condition. -/
import Derived.Test.YtinojijgeabfnaaGreatDoorSelectorLaterQ3
set_option maxRecDepth 100000
set_option maxHeartbeats 4000000
namespace Go.Proofs.YtinojijgeabfnaaGreatDoor
open Go Go.RowKit Go.SX
open ChangeShapes WideShapes
theorem selectorLater_wf:Rows.selectorLaterRow.wfByText (OpenSpec.ofChange Rows.selectorLaterSpec)=true:=by kernel_rfl
theorem selectorLater_main:Tryz.checked.prog.mainIs=some ((true,"bf43d9e4814d3b796474a5b1a90df8abce083bbfa2d6a714e20a65e339192414").1,(true,"bf43d9e4814d3b796474a5b1a90df8abce083bbfa2d6a714e20a65e339192414").2.toList):=by kernel_rfl
theorem selectorLater_stand:([45].all fun u=>!Tryz.prog.wantsStandIn u)=true:=by kernel_rfl
theorem selectorLater_goes:false=Rows.selectorLaterRow.goesBy Tryz.checked.prog:=by kernel_rfl
theorem selectorLater_card:Rows.SelectorLaterCardSaid :=
 Claim7.holds_tied_plain_at .later [] [.data,.pinned] true (true,"bf43d9e4814d3b796474a5b1a90df8abce083bbfa2d6a714e20a65e339192414") false selectorLater_holds (fun _ h=>by cases h) selectorLater_wf (fun _ h=>by cases h) selectorLater_row_tie rfl ⟨rfl,rfl⟩ selectorLater_main rfl
  (fun f fn hf hfn=>by
   obtain rfl:f=7:=Option.some.inj (selectorLater_named.symm.trans hf) |>.symm
   obtain rfl:fn=Tryz.f7:=(Option.some.inj (Tryz.func7.symm.trans hfn)).symm
   exact ⟨jfo,fun j t ht=>by
    rw [Tryz.params7] at ht
    have hm:t∈[45]:=by simpa using Array.mem_of_getElem? ht
    exact (show Tryz.prog.wantsStandIn t=false by simpa using List.all_eq_true.1 selectorLater_stand t hm)⟩)
  selectorLater_goes
#print axioms selectorLater_card
end Go.Proofs.YtinojijgeabfnaaGreatDoor
