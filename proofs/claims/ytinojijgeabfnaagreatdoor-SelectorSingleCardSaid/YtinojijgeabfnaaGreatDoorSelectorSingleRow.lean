/- SelectorSingle: the card; no condition. -/
import Derived.Test.YtinojijgeabfnaaGreatDoorSelectorSingleQ2
set_option maxRecDepth 100000
set_option maxHeartbeats 4000000
namespace Go.Proofs.YtinojijgeabfnaaGreatDoor
open Go Go.RowKit Go.SX
open ChangeShapes WideShapes
theorem selectorSingle_wf:Rows.selectorSingleRow.wfByText (OpenSpec.ofChange Rows.selectorSingleSpec)=true:=by kernel_rfl
theorem selectorSingle_main:Tryz.checked.prog.mainIs=some ((true,"bf43d9e4814d3b796474a5b1a90df8abce083bbfa2d6a714e20a65e339192414").1,(true,"bf43d9e4814d3b796474a5b1a90df8abce083bbfa2d6a714e20a65e339192414").2.toList):=by kernel_rfl
theorem selectorSingle_stand:([45].all fun u=>!Tryz.prog.wantsStandIn u)=true:=by kernel_rfl
theorem selectorSingle_goes:false=Rows.selectorSingleRow.goesBy Tryz.checked.prog:=by kernel_rfl
theorem selectorSingle_card:Rows.SelectorSingleCardSaid :=
 Claim7.holds_tied_plain_at .later [] [.data,.pinned] true (true,"bf43d9e4814d3b796474a5b1a90df8abce083bbfa2d6a714e20a65e339192414") false selectorSingle_holds (fun _ h=>by cases h) selectorSingle_wf (fun _ h=>by cases h) selectorSingle_row_tie rfl ⟨rfl,rfl⟩ selectorSingle_main rfl
  (fun f fn hf hfn=>by
   obtain rfl:f=9:=Option.some.inj (selectorSingle_named.symm.trans hf) |>.symm
   obtain rfl:fn=Tryz.f9:=(Option.some.inj (Tryz.func9.symm.trans hfn)).symm
   exact ⟨jfo,fun j t ht=>by
    rw [Tryz.params9] at ht
    have hm:t∈[45]:=by simpa using Array.mem_of_getElem? ht
    exact (show Tryz.prog.wantsStandIn t=false by simpa using List.all_eq_true.1 selectorSingle_stand t hm)⟩)
  selectorSingle_goes
#print axioms selectorSingle_card
end Go.Proofs.YtinojijgeabfnaaGreatDoor
