/- SelectorMiddle: the card; no condition. -/
import Derived.Test.YtinojijgeabfnaaGreatDoorSelectorMiddleQ3
set_option maxRecDepth 100000
set_option maxHeartbeats 4000000
namespace Go.Proofs.YtinojijgeabfnaaGreatDoor
open Go Go.RowKit Go.SX
open ChangeShapes WideShapes
theorem selectorMiddle_wf:Rows.selectorMiddleRow.wfByText (OpenSpec.ofChange Rows.selectorMiddleSpec)=true:=by kernel_rfl
theorem selectorMiddle_main:Tryz.checked.prog.mainIs=some ((true,"bf43d9e4814d3b796474a5b1a90df8abce083bbfa2d6a714e20a65e339192414").1,(true,"bf43d9e4814d3b796474a5b1a90df8abce083bbfa2d6a714e20a65e339192414").2.toList):=by kernel_rfl
theorem selectorMiddle_stand:([45].all fun u=>!Tryz.prog.wantsStandIn u)=true:=by kernel_rfl
theorem selectorMiddle_goes:false=Rows.selectorMiddleRow.goesBy Tryz.checked.prog:=by kernel_rfl
theorem selectorMiddle_card:Rows.SelectorMiddleCardSaid :=
 Claim7.holds_tied_plain_at .later [] [.data,.pinned] true (true,"bf43d9e4814d3b796474a5b1a90df8abce083bbfa2d6a714e20a65e339192414") false selectorMiddle_holds (fun _ h=>by cases h) selectorMiddle_wf (fun _ h=>by cases h) selectorMiddle_row_tie rfl ⟨rfl,rfl⟩ selectorMiddle_main rfl
  (fun f fn hf hfn=>by
   obtain rfl:f=6:=Option.some.inj (selectorMiddle_named.symm.trans hf) |>.symm
   obtain rfl:fn=Tryz.f6:=(Option.some.inj (Tryz.func6.symm.trans hfn)).symm
   exact ⟨jfo,fun j t ht=>by
    rw [Tryz.params6] at ht
    have hm:t∈[45]:=by simpa using Array.mem_of_getElem? ht
    exact (show Tryz.prog.wantsStandIn t=false by simpa using List.all_eq_true.1 selectorMiddle_stand t hm)⟩)
  selectorMiddle_goes
#print axioms selectorMiddle_card
end Go.Proofs.YtinojijgeabfnaaGreatDoor
