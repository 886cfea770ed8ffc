/- ValuationTampers: the row; no condition. -/
import Derived.Test.YtklehfchdoikeaaGreatDoorValuationTampersQ3
import Derived.Test.YtklehfchdoikeaaGreatDoorP3
set_option maxRecDepth 100000
set_option maxHeartbeats 4000000
namespace Go.Proofs.YtklehfchdoikeaaGreatDoor
open Go Go.RowKit Go.SX
open ChangeShapes WideShapes
theorem lW:Rows.valuationTampersRow.wf (OpenSpec.ofChange Rows.valuationTampersSpec)=true:=by kernel_rfl
theorem lV:Tryz.f7.params.all (Tryz.checked.prog.readableRec ·)=true:=by kernel_rfl
theorem lU:namedTie Tryz.checked.prog Rows.valuationTampersRow.named Rows.valuationTampersSpec.vars=true:=by kernel_rfl
theorem lT:(Rows.valuationTampersRow.stops == [])=true:=by kernel_rfl
theorem lS:(Rows.valuationTampersRow.knobs == [])=true:=by kernel_rfl
theorem lR:(Rows.valuationTampersRow.inPlace == Tryz.checked.prog.inPlace 7)=true:=by kernel_rfl
theorem kD:(Rows.valuationTampersRow.unfollowed == Tryz.checked.prog.unfollowed 7)=true:=by kernel_rfl
theorem kC:(Rows.valuationTampersRow.recurses == Tryz.checked.prog.recurses 7)=true:=by kernel_rfl
theorem kB:(Rows.valuationTampersRow.named == Tryz.checked.prog.varsNamed 7)=true:=by kernel_rfl
theorem kA:(Rows.valuationTampersRow.maps == (Tryz.f7.params.toList++Rows.valuationTampersSpec.plain.varTypes Tryz.checked.prog).any (Tryz.checked.prog.mapsRec ·))=true:=by kernel_rfl
theorem kz:(Rows.valuationTampersRow.ifaces == (Tryz.f7.params.toList++Rows.valuationTampersSpec.plain.varTypes Tryz.checked.prog).any (Tryz.checked.prog.ifacesRec ·))=true:=by kernel_rfl
theorem ky:(Rows.valuationTampersRow.mapsOut == Tryz.checked.prog.mapsAmong Tryz.f7.resultTypes.toList)=true:=by kernel_rfl
theorem kx:(Rows.valuationTampersRow.loops == (Tryz.f7.params.toList++Rows.valuationTampersSpec.plain.varTypes Tryz.checked.prog).any (Tryz.checked.prog.loopsFrom ·))=true:=by kernel_rfl
theorem kw:(Rows.valuationTampersRow.wideKeys == (Tryz.f7.params.toList++Rows.valuationTampersSpec.plain.varTypes Tryz.checked.prog++Tryz.f7.resultTypes.toList).any (Tryz.checked.prog.wideKeysFrom ·))=true:=by kernel_rfl
theorem kv:Rows.valuationTampersSpec.vars.all (Tryz.checked.prog.varReadable ·)=true:=by kernel_rfl
theorem ku:Tryz.f7.resultTypes.all (fun t=>Tryz.checked.prog.readableRec t && decide (t < Tryz.checked.prog.types.size))=true:=by kernel_rfl
theorem kt:(Rows.valuationTampersRow.ifacesOut == Tryz.f7.resultTypes.toList.any (Tryz.checked.prog.ifacesRec ·))=true:=by kernel_rfl
theorem kr:(Rows.valuationTampersRow.loopsOut == Tryz.f7.resultTypes.toList.any (Tryz.checked.prog.loopsFrom ·))=true:=by kernel_rfl
theorem kp:(Rows.valuationTampersRow.plainKeys == Tryz.checked.prog.plainKeys)=true:=by kernel_rfl
theorem ko:Rows.valuationTampersRow.shortTexts.isNone=true:=by kernel_rfl
theorem km:(Rows.valuationTampersRow.lifted == Tryz.checked.prog.liftsFinal)=true:=jfl
theorem kj:(Tryz.checked.prog.make == some Rows.valuationTampersRow.make)=true:=by kernel_rfl
theorem ki:(Rows.valuationTampersRow.kinds == (if Rows.valuationTampersRow.domain.isEmpty then [] else Tryz.f7.params.toList.map fun t=>match Tryz.checked.prog.underlying t with | some (.int k)=>some k | _=>none))=true:=by kernel_rfl
theorem kh:(Rows.valuationTampersRow.pinned == Rows.valuationTampersRow.pinnedBy)=true:=by kernel_rfl
theorem kg:(Rows.valuationTampersRow.veiled == (Tryz.f7.params.toList++Rows.valuationTampersSpec.plain.varTypes Tryz.checked.prog++Tryz.f7.resultTypes.toList).any (Tryz.checked.prog.veiledRec ·))=true:=by kernel_rfl
theorem kf:Rows.valuationTampersRow.veiledFits Tryz.checked.prog Tryz.f7.params.toList (Tryz.f7.params.toList++Rows.valuationTampersSpec.plain.varTypes Tryz.checked.prog++Tryz.f7.resultTypes.toList)=true:=by kernel_rfl
theorem eR:Tryz.checked.prog.funcNamed Rows.valuationTampersRow.func=some 7:=by kernel_rfl
theorem jY:Tryz.f7.isInstance Tryz.checked.prog Rows.valuationTampersRow.origin Rows.valuationTampersRow.targs:=af (by kernel_rfl)
theorem jW:Tryz.f7.isWrapper Tryz.checked.prog Rows.valuationTampersRow.wrapper Rows.valuationTampersRow.mainSum:=by unfold Func.isWrapper;first | (rw [if_pos (by decide +kernel)];kernel_rfl) | (rw [if_neg (by decide +kernel)];exact ⟨rfl,rfl⟩)
theorem jr:Rows.ValuationTampersSaid :=
 OpenClaim.holds_of_wide 7 Tryz.f7 rfl rfl rfl rfl rfl rfl rfl ⟨rfl,rfl,rfl,rfl,rfl⟩ rfl rfl rfl rfl rfl eR Tryz.func7 (fc lW jf1 jf2 lV lU lT jf6 lS jf8 lR kD kC kB kA kz ky kx kw kv ku kt kr kp ko Ke Kd km kj ki kh kg kf) jY jW
  (fun os started H enc _=>iU os started H enc)
end Go.Proofs.YtklehfchdoikeaaGreatDoor
