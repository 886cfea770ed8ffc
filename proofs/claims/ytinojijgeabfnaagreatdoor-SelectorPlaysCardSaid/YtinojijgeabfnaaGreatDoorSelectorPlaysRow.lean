/- SelectorPlays: the card; no condition. -/
import Derived.Test.YtinojijgeabfnaaGreatDoorSelectorPlaysQ2
set_option maxRecDepth 100000
set_option maxHeartbeats 4000000
namespace Go.Proofs.YtinojijgeabfnaaGreatDoor
open Go Go.RowKit Go.SX
open ChangeShapes WideShapes
theorem selectorPlays_wf:Rows.selectorPlaysRow.wfByText (OpenSpec.ofChange Rows.selectorPlaysSpec)=true:=by kernel_rfl
theorem selectorPlays_main:Tryz.checked.prog.mainIs=some ((true,"bf43d9e4814d3b796474a5b1a90df8abce083bbfa2d6a714e20a65e339192414").1,(true,"bf43d9e4814d3b796474a5b1a90df8abce083bbfa2d6a714e20a65e339192414").2.toList):=by kernel_rfl
theorem selectorPlays_stand:([45].all fun u=>!Tryz.prog.wantsStandIn u)=true:=by kernel_rfl
theorem selectorPlays_goes:false=Rows.selectorPlaysRow.goesBy Tryz.checked.prog:=by kernel_rfl
theorem selectorPlays_card:Rows.SelectorPlaysCardSaid :=
 Claim7.holds_tied_plain_at .later [] [.data,.pinned] true (true,"bf43d9e4814d3b796474a5b1a90df8abce083bbfa2d6a714e20a65e339192414") false selectorPlays_holds (fun _ h=>by cases h) selectorPlays_wf (fun _ h=>by cases h) selectorPlays_row_tie rfl ⟨rfl,rfl⟩ selectorPlays_main rfl
  (fun f fn hf hfn=>by
   obtain rfl:f=4:=Option.some.inj (selectorPlays_named.symm.trans hf) |>.symm
   obtain rfl:fn=Tryz.f4:=(Option.some.inj (Tryz.func4.symm.trans hfn)).symm
   exact ⟨jfo,fun j t ht=>by
    rw [Tryz.params4] at ht
    have hm:t∈[45]:=by simpa using Array.mem_of_getElem? ht
    exact (show Tryz.prog.wantsStandIn t=false by simpa using List.all_eq_true.1 selectorPlays_stand t hm)⟩)
  selectorPlays_goes
#print axioms selectorPlays_card
end Go.Proofs.YtinojijgeabfnaaGreatDoor
