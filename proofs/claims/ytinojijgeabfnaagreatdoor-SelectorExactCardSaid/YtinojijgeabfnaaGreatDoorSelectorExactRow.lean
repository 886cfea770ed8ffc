/- SelectorExact: the card; no condition. -/
import Derived.Test.YtinojijgeabfnaaGreatDoorSelectorExactQ4
set_option maxRecDepth 100000
set_option maxHeartbeats 4000000
namespace Go.Proofs.YtinojijgeabfnaaGreatDoor
open Go Go.RowKit Go.SX
open ChangeShapes WideShapes
theorem selectorExact_wf:Rows.selectorExactRow.wfByText (OpenSpec.ofChange Rows.selectorExactSpec)=true:=by kernel_rfl
theorem selectorExact_main:Tryz.checked.prog.mainIs=some ((true,"bf43d9e4814d3b796474a5b1a90df8abce083bbfa2d6a714e20a65e339192414").1,(true,"bf43d9e4814d3b796474a5b1a90df8abce083bbfa2d6a714e20a65e339192414").2.toList):=by kernel_rfl
theorem selectorExact_stand:([22,31,3,9,3].all fun u=>!Tryz.prog.wantsStandIn u)=true:=by kernel_rfl
theorem selectorExact_goes:false=Rows.selectorExactRow.goesBy Tryz.checked.prog:=by kernel_rfl
theorem selectorExact_card:Rows.SelectorExactCardSaid :=
 Claim7.holds_tied_plain_at .later [] [.data,.pinned] true (true,"bf43d9e4814d3b796474a5b1a90df8abce083bbfa2d6a714e20a65e339192414") false selectorExact_holds (fun _ h=>by cases h) selectorExact_wf (fun _ h=>by cases h) selectorExact_row_tie rfl ⟨rfl,rfl⟩ selectorExact_main rfl
  (fun f fn hf hfn=>by
   obtain rfl:f=3:=Option.some.inj (selectorExact_named.symm.trans hf) |>.symm
   obtain rfl:fn=Tryz.f3:=(Option.some.inj (Tryz.func3.symm.trans hfn)).symm
   exact ⟨jfo,fun j t ht=>by
    rw [Tryz.params3] at ht
    have hm:t∈[22,31,3,9,3]:=by simpa using Array.mem_of_getElem? ht
    exact (show Tryz.prog.wantsStandIn t=false by simpa using List.all_eq_true.1 selectorExact_stand t hm)⟩)
  selectorExact_goes
#print axioms selectorExact_card
end Go.Proofs.YtinojijgeabfnaaGreatDoor
