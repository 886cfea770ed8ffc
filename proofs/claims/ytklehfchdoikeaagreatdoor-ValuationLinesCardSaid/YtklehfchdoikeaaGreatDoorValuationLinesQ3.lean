/- ValuationLines: the row; no condition. -/
import Derived.Test.YtklehfchdoikeaaGreatDoorValuationLinesQ2
import Derived.Test.YtklehfchdoikeaaGreatDoorP3
set_option maxRecDepth 100000
set_option maxHeartbeats 4000000
namespace Go.Proofs.YtklehfchdoikeaaGreatDoor
open Go Go.RowKit Go.SX
open ChangeShapes WideShapes
theorem oV:Rows.valuationLinesRow.wf (OpenSpec.ofChange Rows.valuationLinesSpec)=true:=by kernel_rfl
theorem oU:Tryz.f6.params.all (Tryz.checked.prog.readableRec ·)=true:=by kernel_rfl
theorem oT:namedTie Tryz.checked.prog Rows.valuationLinesRow.named Rows.valuationLinesSpec.vars=true:=by kernel_rfl
theorem oS:(Rows.valuationLinesRow.stops == [])=true:=by kernel_rfl
theorem oR:(Rows.valuationLinesRow.knobs == [])=true:=by kernel_rfl
theorem oQ:(Rows.valuationLinesRow.inPlace == Tryz.checked.prog.inPlace 6)=true:=by kernel_rfl
theorem nD:(Rows.valuationLinesRow.unfollowed == Tryz.checked.prog.unfollowed 6)=true:=by kernel_rfl
theorem nC:(Rows.valuationLinesRow.recurses == Tryz.checked.prog.recurses 6)=true:=by kernel_rfl
theorem nB:(Rows.valuationLinesRow.named == Tryz.checked.prog.varsNamed 6)=true:=by kernel_rfl
theorem nA:(Rows.valuationLinesRow.maps == (Tryz.f6.params.toList++Rows.valuationLinesSpec.plain.varTypes Tryz.checked.prog).any (Tryz.checked.prog.mapsRec ·))=true:=by kernel_rfl
theorem nz:(Rows.valuationLinesRow.ifaces == (Tryz.f6.params.toList++Rows.valuationLinesSpec.plain.varTypes Tryz.checked.prog).any (Tryz.checked.prog.ifacesRec ·))=true:=by kernel_rfl
theorem ny:(Rows.valuationLinesRow.mapsOut == Tryz.checked.prog.mapsAmong Tryz.f6.resultTypes.toList)=true:=by kernel_rfl
theorem nw:(Rows.valuationLinesRow.loops == (Tryz.f6.params.toList++Rows.valuationLinesSpec.plain.varTypes Tryz.checked.prog).any (Tryz.checked.prog.loopsFrom ·))=true:=by kernel_rfl
theorem ns:(Rows.valuationLinesRow.wideKeys == (Tryz.f6.params.toList++Rows.valuationLinesSpec.plain.varTypes Tryz.checked.prog++Tryz.f6.resultTypes.toList).any (Tryz.checked.prog.wideKeysFrom ·))=true:=by kernel_rfl
theorem nr:Rows.valuationLinesSpec.vars.all (Tryz.checked.prog.varReadable ·)=true:=by kernel_rfl
theorem nk:Tryz.f6.resultTypes.all (fun t=>Tryz.checked.prog.readableRec t && decide (t < Tryz.checked.prog.types.size))=true:=by kernel_rfl
theorem nj:(Rows.valuationLinesRow.ifacesOut == Tryz.f6.resultTypes.toList.any (Tryz.checked.prog.ifacesRec ·))=true:=by kernel_rfl
theorem ni:(Rows.valuationLinesRow.loopsOut == Tryz.f6.resultTypes.toList.any (Tryz.checked.prog.loopsFrom ·))=true:=by kernel_rfl
theorem nd:(Rows.valuationLinesRow.plainKeys == Tryz.checked.prog.plainKeys)=true:=by kernel_rfl
theorem m9:Rows.valuationLinesRow.shortTexts.isNone=true:=by kernel_rfl
theorem m8:(Rows.valuationLinesRow.lifted == Tryz.checked.prog.liftsFinal)=true:=jfl
theorem m7:(Tryz.checked.prog.make == some Rows.valuationLinesRow.make)=true:=by kernel_rfl
theorem m6:(Rows.valuationLinesRow.kinds == (if Rows.valuationLinesRow.domain.isEmpty then [] else Tryz.f6.params.toList.map fun t=>match Tryz.checked.prog.underlying t with | some (.int k)=>some k | _=>none))=true:=by kernel_rfl
theorem mZ:(Rows.valuationLinesRow.pinned == Rows.valuationLinesRow.pinnedBy)=true:=by kernel_rfl
theorem mY:(Rows.valuationLinesRow.veiled == (Tryz.f6.params.toList++Rows.valuationLinesSpec.plain.varTypes Tryz.checked.prog++Tryz.f6.resultTypes.toList).any (Tryz.checked.prog.veiledRec ·))=true:=by kernel_rfl
theorem mX:Rows.valuationLinesRow.veiledFits Tryz.checked.prog Tryz.f6.params.toList (Tryz.f6.params.toList++Rows.valuationLinesSpec.plain.varTypes Tryz.checked.prog++Tryz.f6.resultTypes.toList)=true:=by kernel_rfl
theorem fH:Tryz.checked.prog.funcNamed Rows.valuationLinesRow.func=some 6:=by kernel_rfl
theorem l9:Tryz.f6.isInstance Tryz.checked.prog Rows.valuationLinesRow.origin Rows.valuationLinesRow.targs:=af (by kernel_rfl)
theorem l7:Tryz.f6.isWrapper Tryz.checked.prog Rows.valuationLinesRow.wrapper Rows.valuationLinesRow.mainSum:=by unfold Func.isWrapper;first | (rw [if_pos (by decide +kernel)];kernel_rfl) | (rw [if_neg (by decide +kernel)];exact ⟨rfl,rfl⟩)
theorem kH:Rows.ValuationLinesSaid :=
 OpenClaim.holds_of_wide 6 Tryz.f6 rfl rfl rfl rfl rfl rfl rfl ⟨rfl,rfl,rfl,rfl,rfl⟩ rfl rfl rfl rfl rfl fH Tryz.func6 (fc oV jf1 jf2 oU oT oS jf6 oR jf8 oQ nD nC nB nA nz ny nw ns nr nk nj ni nd m9 Ke Kd m8 m7 m6 mZ mY mX) l9 l7
  (fun os started H enc _=>j5 os started H enc)
end Go.Proofs.YtklehfchdoikeaaGreatDoor
