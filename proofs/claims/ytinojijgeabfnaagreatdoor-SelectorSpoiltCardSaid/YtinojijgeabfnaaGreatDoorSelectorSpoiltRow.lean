/- SelectorSpoilt: the card; no condition. -/
import Derived.Test.YtinojijgeabfnaaGreatDoorSelectorSpoiltQ2
set_option maxRecDepth 100000
set_option maxHeartbeats 4000000
namespace Go.Proofs.YtinojijgeabfnaaGreatDoor
open Go Go.RowKit Go.SX
open ChangeShapes WideShapes
theorem selectorSpoilt_wf:Rows.selectorSpoiltRow.wfByText (OpenSpec.ofChange Rows.selectorSpoiltSpec)=true:=by kernel_rfl
theorem selectorSpoilt_main:Tryz.checked.prog.mainIs=some ((true,"bf43d9e4814d3b796474a5b1a90df8abce083bbfa2d6a714e20a65e339192414").1,(true,"bf43d9e4814d3b796474a5b1a90df8abce083bbfa2d6a714e20a65e339192414").2.toList):=by kernel_rfl
theorem selectorSpoilt_stand:([45,3,29].all fun u=>!Tryz.prog.wantsStandIn u)=true:=by kernel_rfl
theorem selectorSpoilt_goes:false=Rows.selectorSpoiltRow.goesBy Tryz.checked.prog:=by kernel_rfl
theorem selectorSpoilt_card:Rows.SelectorSpoiltCardSaid :=
 Claim7.holds_tied_plain_at .later [] [.data,.pinned] true (true,"bf43d9e4814d3b796474a5b1a90df8abce083bbfa2d6a714e20a65e339192414") false selectorSpoilt_holds (fun _ h=>by cases h) selectorSpoilt_wf (fun _ h=>by cases h) selectorSpoilt_row_tie rfl ⟨rfl,rfl⟩ selectorSpoilt_main rfl
  (fun f fn hf hfn=>by
   obtain rfl:f=5:=Option.some.inj (selectorSpoilt_named.symm.trans hf) |>.symm
   obtain rfl:fn=Tryz.f5:=(Option.some.inj (Tryz.func5.symm.trans hfn)).symm
   exact ⟨jfo,fun j t ht=>by
    rw [Tryz.params5] at ht
    have hm:t∈[45,3,29]:=by simpa using Array.mem_of_getElem? ht
    exact (show Tryz.prog.wantsStandIn t=false by simpa using List.all_eq_true.1 selectorSpoilt_stand t hm)⟩)
  selectorSpoilt_goes
#print axioms selectorSpoilt_card
end Go.Proofs.YtinojijgeabfnaaGreatDoor
