/- PositionSpoilt: the row; no condition. -/
import Derived.Test.YtekfkdddadcalaaGreatDoorPositionSpoiltQ34
import Derived.Test.YtekfkdddadcalaaGreatDoorPositionSpoiltQ3
set_option maxRecDepth 100000
set_option maxHeartbeats 4000000
namespace Go.Proofs.YtekfkdddadcalaaGreatDoor
open Go Go.RowKit Go.SX
open ChangeShapes WideShapes
theorem lO:Rows.positionSpoiltRow.wf (OpenSpec.ofChange Rows.positionSpoiltSpec)=true:=by kernel_rfl
theorem lN:Tryz.f3.params.all (Tryz.checked.prog.readableRec ·)=true:=by kernel_rfl
theorem lM:namedTie Tryz.checked.prog Rows.positionSpoiltRow.named Rows.positionSpoiltSpec.vars=true:=by kernel_rfl
theorem lL:(Rows.positionSpoiltRow.stops == [])=true:=by kernel_rfl
theorem lK:(Rows.positionSpoiltRow.knobs == [])=true:=by kernel_rfl
theorem lJ:(Rows.positionSpoiltRow.inPlace == Tryz.checked.prog.inPlace 3)=true:=by kernel_rfl
theorem kO:(Rows.positionSpoiltRow.unfollowed == Tryz.checked.prog.unfollowed 3)=true:=by kernel_rfl
theorem kN:(Rows.positionSpoiltRow.recurses == Tryz.checked.prog.recurses 3)=true:=by kernel_rfl
theorem kM:(Rows.positionSpoiltRow.named == Tryz.checked.prog.varsNamed 3)=true:=by kernel_rfl
theorem kL:(Rows.positionSpoiltRow.maps == (Tryz.f3.params.toList++Rows.positionSpoiltSpec.plain.varTypes Tryz.checked.prog).any (Tryz.checked.prog.mapsRec ·))=true:=by kernel_rfl
theorem kK:(Rows.positionSpoiltRow.ifaces == (Tryz.f3.params.toList++Rows.positionSpoiltSpec.plain.varTypes Tryz.checked.prog).any (Tryz.checked.prog.ifacesRec ·))=true:=by kernel_rfl
theorem kJ:(Rows.positionSpoiltRow.mapsOut == Tryz.checked.prog.mapsAmong Tryz.f3.resultTypes.toList)=true:=by kernel_rfl
theorem kI:(Rows.positionSpoiltRow.loops == (Tryz.f3.params.toList++Rows.positionSpoiltSpec.plain.varTypes Tryz.checked.prog).any (Tryz.checked.prog.loopsFrom ·))=true:=by kernel_rfl
theorem kH:(Rows.positionSpoiltRow.wideKeys == (Tryz.f3.params.toList++Rows.positionSpoiltSpec.plain.varTypes Tryz.checked.prog++Tryz.f3.resultTypes.toList).any (Tryz.checked.prog.wideKeysFrom ·))=true:=by kernel_rfl
theorem kG:Rows.positionSpoiltSpec.vars.all (Tryz.checked.prog.varReadable ·)=true:=by kernel_rfl
theorem kF:Tryz.f3.resultTypes.all (fun t=>Tryz.checked.prog.readableRec t && decide (t < Tryz.checked.prog.types.size))=true:=by kernel_rfl
theorem kE:(Rows.positionSpoiltRow.ifacesOut == Tryz.f3.resultTypes.toList.any (Tryz.checked.prog.ifacesRec ·))=true:=by kernel_rfl
theorem kD:(Rows.positionSpoiltRow.loopsOut == Tryz.f3.resultTypes.toList.any (Tryz.checked.prog.loopsFrom ·))=true:=by kernel_rfl
theorem kC:(Rows.positionSpoiltRow.plainKeys == Tryz.checked.prog.plainKeys)=true:=by kernel_rfl
theorem kB:Rows.positionSpoiltRow.shortTexts.isNone=true:=by kernel_rfl
theorem kA:(Rows.positionSpoiltRow.lifted == Tryz.checked.prog.liftsFinal)=true:=jfl
theorem kz:(Tryz.checked.prog.make == some Rows.positionSpoiltRow.make)=true:=by kernel_rfl
theorem ky:(Rows.positionSpoiltRow.kinds == (if Rows.positionSpoiltRow.domain.isEmpty then [] else Tryz.f3.params.toList.map fun t=>match Tryz.checked.prog.underlying t with | some (.int k)=>some k | _=>none))=true:=by kernel_rfl
theorem kx:(Rows.positionSpoiltRow.pinned == Rows.positionSpoiltRow.pinnedBy)=true:=by kernel_rfl
theorem kw:(Rows.positionSpoiltRow.veiled == (Tryz.f3.params.toList++Rows.positionSpoiltSpec.plain.varTypes Tryz.checked.prog++Tryz.f3.resultTypes.toList).any (Tryz.checked.prog.veiledRec ·))=true:=by kernel_rfl
theorem kv:Rows.positionSpoiltRow.veiledFits Tryz.checked.prog Tryz.f3.params.toList (Tryz.f3.params.toList++Rows.positionSpoiltSpec.plain.varTypes Tryz.checked.prog++Tryz.f3.resultTypes.toList)=true:=by kernel_rfl
theorem fk:Tryz.checked.prog.funcNamed Rows.positionSpoiltRow.func=some 3:=by kernel_rfl
theorem jX:Tryz.f3.isInstance Tryz.checked.prog Rows.positionSpoiltRow.origin Rows.positionSpoiltRow.targs:=ab (by kernel_rfl)
theorem jV:Tryz.f3.isWrapper Tryz.checked.prog Rows.positionSpoiltRow.wrapper Rows.positionSpoiltRow.mainSum:=by unfold Func.isWrapper;first | (rw [if_pos (by decide +kernel)];kernel_rfl) | (rw [if_neg (by decide +kernel)];exact ⟨rfl,rfl⟩)
theorem jn:Rows.PositionSpoiltSaid :=
 OpenClaim.holds_of_wide 3 Tryz.f3 rfl rfl rfl rfl rfl rfl rfl ⟨rfl,rfl,rfl,rfl,rfl⟩ rfl rfl rfl rfl rfl fk Tryz.func3 (pC lO jf1 jf2 lN lM lL jf6 lK jf8 lJ kO kN kM kL kK kJ kI kH kG kF kE kD kC kB Mt Ms kA kz ky kx kw kv) jX jV
  (fun os started H enc _=>je os started H enc)
end Go.Proofs.YtekfkdddadcalaaGreatDoor
