/- SelectorMajority: the card; no condition. -/
import Derived.Test.YtinojijgeabfnaaGreatDoorSelectorMajorityQ2
set_option maxRecDepth 100000
set_option maxHeartbeats 4000000
namespace Go.Proofs.YtinojijgeabfnaaGreatDoor
open Go Go.RowKit Go.SX
open ChangeShapes WideShapes
theorem selectorMajority_wf:Rows.selectorMajorityRow.wfByText (OpenSpec.ofChange Rows.selectorMajoritySpec)=true:=by kernel_rfl
theorem selectorMajority_main:Tryz.checked.prog.mainIs=some ((true,"bf43d9e4814d3b796474a5b1a90df8abce083bbfa2d6a714e20a65e339192414").1,(true,"bf43d9e4814d3b796474a5b1a90df8abce083bbfa2d6a714e20a65e339192414").2.toList):=by kernel_rfl
theorem selectorMajority_stand:([45].all fun u=>!Tryz.prog.wantsStandIn u)=true:=by kernel_rfl
theorem selectorMajority_goes:false=Rows.selectorMajorityRow.goesBy Tryz.checked.prog:=by kernel_rfl
theorem selectorMajority_card:Rows.SelectorMajorityCardSaid :=
 Claim7.holds_tied_plain_at .later [] [.data,.pinned] true (true,"bf43d9e4814d3b796474a5b1a90df8abce083bbfa2d6a714e20a65e339192414") false selectorMajority_holds (fun _ h=>by cases h) selectorMajority_wf (fun _ h=>by cases h) selectorMajority_row_tie rfl ⟨rfl,rfl⟩ selectorMajority_main rfl
  (fun f fn hf hfn=>by
   obtain rfl:f=8:=Option.some.inj (selectorMajority_named.symm.trans hf) |>.symm
   obtain rfl:fn=Tryz.f8:=(Option.some.inj (Tryz.func8.symm.trans hfn)).symm
   exact ⟨jfo,fun j t ht=>by
    rw [Tryz.params8] at ht
    have hm:t∈[45]:=by simpa using Array.mem_of_getElem? ht
    exact (show Tryz.prog.wantsStandIn t=false by simpa using List.all_eq_true.1 selectorMajority_stand t hm)⟩)
  selectorMajority_goes
#print axioms selectorMajority_card
end Go.Proofs.YtinojijgeabfnaaGreatDoor
