/- ValuationLater: the row; no condition. -/
import Derived.Test.YtklehfchdoikeaaGreatDoorValuationLaterQ2
import Derived.Test.YtklehfchdoikeaaGreatDoorP3
set_option maxRecDepth 100000
set_option maxHeartbeats 4000000
namespace Go.Proofs.YtklehfchdoikeaaGreatDoor
open Go Go.RowKit Go.SX
open ChangeShapes WideShapes
theorem o6:Rows.valuationLaterRow.wf (OpenSpec.ofChange Rows.valuationLaterSpec)=true:=by kernel_rfl
theorem o5:Tryz.f9.params.all (Tryz.checked.prog.readableRec ·)=true:=by kernel_rfl
theorem o4:namedTie Tryz.checked.prog Rows.valuationLaterRow.named Rows.valuationLaterSpec.vars=true:=by kernel_rfl
theorem oZ:(Rows.valuationLaterRow.stops == [])=true:=by kernel_rfl
theorem oY:(Rows.valuationLaterRow.knobs == [])=true:=by kernel_rfl
theorem oX:(Rows.valuationLaterRow.inPlace == Tryz.checked.prog.inPlace 9)=true:=by kernel_rfl
theorem nX:(Rows.valuationLaterRow.unfollowed == Tryz.checked.prog.unfollowed 9)=true:=by kernel_rfl
theorem nW:(Rows.valuationLaterRow.recurses == Tryz.checked.prog.recurses 9)=true:=by kernel_rfl
theorem nV:(Rows.valuationLaterRow.named == Tryz.checked.prog.varsNamed 9)=true:=by kernel_rfl
theorem nU:(Rows.valuationLaterRow.maps == (Tryz.f9.params.toList++Rows.valuationLaterSpec.plain.varTypes Tryz.checked.prog).any (Tryz.checked.prog.mapsRec ·))=true:=by kernel_rfl
theorem nT:(Rows.valuationLaterRow.ifaces == (Tryz.f9.params.toList++Rows.valuationLaterSpec.plain.varTypes Tryz.checked.prog).any (Tryz.checked.prog.ifacesRec ·))=true:=by kernel_rfl
theorem nS:(Rows.valuationLaterRow.mapsOut == Tryz.checked.prog.mapsAmong Tryz.f9.resultTypes.toList)=true:=by kernel_rfl
theorem nR:(Rows.valuationLaterRow.loops == (Tryz.f9.params.toList++Rows.valuationLaterSpec.plain.varTypes Tryz.checked.prog).any (Tryz.checked.prog.loopsFrom ·))=true:=by kernel_rfl
theorem nQ:(Rows.valuationLaterRow.wideKeys == (Tryz.f9.params.toList++Rows.valuationLaterSpec.plain.varTypes Tryz.checked.prog++Tryz.f9.resultTypes.toList).any (Tryz.checked.prog.wideKeysFrom ·))=true:=by kernel_rfl
theorem nP:Rows.valuationLaterSpec.vars.all (Tryz.checked.prog.varReadable ·)=true:=by kernel_rfl
theorem nO:Tryz.f9.resultTypes.all (fun t=>Tryz.checked.prog.readableRec t && decide (t < Tryz.checked.prog.types.size))=true:=by kernel_rfl
theorem nN:(Rows.valuationLaterRow.ifacesOut == Tryz.f9.resultTypes.toList.any (Tryz.checked.prog.ifacesRec ·))=true:=by kernel_rfl
theorem nM:(Rows.valuationLaterRow.loopsOut == Tryz.f9.resultTypes.toList.any (Tryz.checked.prog.loopsFrom ·))=true:=by kernel_rfl
theorem nL:(Rows.valuationLaterRow.plainKeys == Tryz.checked.prog.plainKeys)=true:=by kernel_rfl
theorem nK:Rows.valuationLaterRow.shortTexts.isNone=true:=by kernel_rfl
theorem nJ:(Rows.valuationLaterRow.lifted == Tryz.checked.prog.liftsFinal)=true:=jfl
theorem nI:(Tryz.checked.prog.make == some Rows.valuationLaterRow.make)=true:=by kernel_rfl
theorem nH:(Rows.valuationLaterRow.kinds == (if Rows.valuationLaterRow.domain.isEmpty then [] else Tryz.f9.params.toList.map fun t=>match Tryz.checked.prog.underlying t with | some (.int k)=>some k | _=>none))=true:=by kernel_rfl
theorem nG:(Rows.valuationLaterRow.pinned == Rows.valuationLaterRow.pinnedBy)=true:=by kernel_rfl
theorem nF:(Rows.valuationLaterRow.veiled == (Tryz.f9.params.toList++Rows.valuationLaterSpec.plain.varTypes Tryz.checked.prog++Tryz.f9.resultTypes.toList).any (Tryz.checked.prog.veiledRec ·))=true:=by kernel_rfl
theorem nE:Rows.valuationLaterRow.veiledFits Tryz.checked.prog Tryz.f9.params.toList (Tryz.f9.params.toList++Rows.valuationLaterSpec.plain.varTypes Tryz.checked.prog++Tryz.f9.resultTypes.toList)=true:=by kernel_rfl
theorem fI:Tryz.checked.prog.funcNamed Rows.valuationLaterRow.func=some 9:=by kernel_rfl
theorem mf:Tryz.f9.isInstance Tryz.checked.prog Rows.valuationLaterRow.origin Rows.valuationLaterRow.targs:=af (by kernel_rfl)
theorem mc:Tryz.f9.isWrapper Tryz.checked.prog Rows.valuationLaterRow.wrapper Rows.valuationLaterRow.mainSum:=by unfold Func.isWrapper;first | (rw [if_pos (by decide +kernel)];kernel_rfl) | (rw [if_neg (by decide +kernel)];exact ⟨rfl,rfl⟩)
theorem kJ:Rows.ValuationLaterSaid :=
 OpenClaim.holds_of_wide 9 Tryz.f9 rfl rfl rfl rfl rfl rfl rfl ⟨rfl,rfl,rfl,rfl,rfl⟩ rfl rfl rfl rfl rfl fI Tryz.func9 (fc o6 jf1 jf2 o5 o4 oZ jf6 oY jf8 oX nX nW nV nU nT nS nR nQ nP nO nN nM nL nK Ke Kd nJ nI nH nG nF nE) mf mc
  (fun os started H enc _=>j6 os started H enc)
end Go.Proofs.YtklehfchdoikeaaGreatDoor
