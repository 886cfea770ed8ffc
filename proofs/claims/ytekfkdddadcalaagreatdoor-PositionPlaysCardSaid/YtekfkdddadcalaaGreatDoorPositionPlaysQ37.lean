/- PositionPlays: the row; no condition. -/
import Derived.Test.YtekfkdddadcalaaGreatDoorPositionPlaysQ36
import Derived.Test.YtekfkdddadcalaaGreatDoorPositionPlaysQ3
set_option maxRecDepth 100000
set_option maxHeartbeats 4000000
namespace Go.Proofs.YtekfkdddadcalaaGreatDoor
open Go Go.RowKit Go.SX
open ChangeShapes WideShapes
theorem nz:Rows.positionPlaysRow.wf (OpenSpec.ofChange Rows.positionPlaysSpec)=true:=by kernel_rfl
theorem nw:Tryz.f9.params.all (Tryz.checked.prog.readableRec ·)=true:=by kernel_rfl
theorem nu:namedTie Tryz.checked.prog Rows.positionPlaysRow.named Rows.positionPlaysSpec.vars=true:=by kernel_rfl
theorem ns:(Rows.positionPlaysRow.stops == [])=true:=by kernel_rfl
theorem nr:(Rows.positionPlaysRow.knobs == [])=true:=by kernel_rfl
theorem nq:(Rows.positionPlaysRow.inPlace == Tryz.checked.prog.inPlace 9)=true:=by kernel_rfl
theorem me:(Rows.positionPlaysRow.unfollowed == Tryz.checked.prog.unfollowed 9)=true:=by kernel_rfl
theorem mc:(Rows.positionPlaysRow.recurses == Tryz.checked.prog.recurses 9)=true:=by kernel_rfl
theorem mb:(Rows.positionPlaysRow.named == Tryz.checked.prog.varsNamed 9)=true:=by kernel_rfl
theorem l9:(Rows.positionPlaysRow.maps == (Tryz.f9.params.toList++Rows.positionPlaysSpec.plain.varTypes Tryz.checked.prog).any (Tryz.checked.prog.mapsRec ·))=true:=by kernel_rfl
theorem l8:(Rows.positionPlaysRow.ifaces == (Tryz.f9.params.toList++Rows.positionPlaysSpec.plain.varTypes Tryz.checked.prog).any (Tryz.checked.prog.ifacesRec ·))=true:=by kernel_rfl
theorem l7:(Rows.positionPlaysRow.mapsOut == Tryz.checked.prog.mapsAmong Tryz.f9.resultTypes.toList)=true:=by kernel_rfl
theorem l0:(Rows.positionPlaysRow.loops == (Tryz.f9.params.toList++Rows.positionPlaysSpec.plain.varTypes Tryz.checked.prog).any (Tryz.checked.prog.loopsFrom ·))=true:=by kernel_rfl
theorem lZ:(Rows.positionPlaysRow.wideKeys == (Tryz.f9.params.toList++Rows.positionPlaysSpec.plain.varTypes Tryz.checked.prog++Tryz.f9.resultTypes.toList).any (Tryz.checked.prog.wideKeysFrom ·))=true:=by kernel_rfl
theorem lY:Rows.positionPlaysSpec.vars.all (Tryz.checked.prog.varReadable ·)=true:=by kernel_rfl
theorem lW:Tryz.f9.resultTypes.all (fun t=>Tryz.checked.prog.readableRec t && decide (t < Tryz.checked.prog.types.size))=true:=by kernel_rfl
theorem lV:(Rows.positionPlaysRow.ifacesOut == Tryz.f9.resultTypes.toList.any (Tryz.checked.prog.ifacesRec ·))=true:=by kernel_rfl
theorem lU:(Rows.positionPlaysRow.loopsOut == Tryz.f9.resultTypes.toList.any (Tryz.checked.prog.loopsFrom ·))=true:=by kernel_rfl
theorem lT:(Rows.positionPlaysRow.plainKeys == Tryz.checked.prog.plainKeys)=true:=by kernel_rfl
theorem lS:Rows.positionPlaysRow.shortTexts.isNone=true:=by kernel_rfl
theorem lR:(Rows.positionPlaysRow.lifted == Tryz.checked.prog.liftsFinal)=true:=jfl
theorem lQ:(Tryz.checked.prog.make == some Rows.positionPlaysRow.make)=true:=by kernel_rfl
theorem lP:(Rows.positionPlaysRow.kinds == (if Rows.positionPlaysRow.domain.isEmpty then [] else Tryz.f9.params.toList.map fun t=>match Tryz.checked.prog.underlying t with | some (.int k)=>some k | _=>none))=true:=by kernel_rfl
theorem lO:(Rows.positionPlaysRow.pinned == Rows.positionPlaysRow.pinnedBy)=true:=by kernel_rfl
theorem lN:(Rows.positionPlaysRow.veiled == (Tryz.f9.params.toList++Rows.positionPlaysSpec.plain.varTypes Tryz.checked.prog++Tryz.f9.resultTypes.toList).any (Tryz.checked.prog.veiledRec ·))=true:=by kernel_rfl
theorem lM:Rows.positionPlaysRow.veiledFits Tryz.checked.prog Tryz.f9.params.toList (Tryz.f9.params.toList++Rows.positionPlaysSpec.plain.varTypes Tryz.checked.prog++Tryz.f9.resultTypes.toList)=true:=by kernel_rfl
theorem fS:Tryz.checked.prog.funcNamed Rows.positionPlaysRow.func=some 9:=by kernel_rfl
theorem kO:Tryz.f9.isInstance Tryz.checked.prog Rows.positionPlaysRow.origin Rows.positionPlaysRow.targs:=ab (by kernel_rfl)
theorem kM:Tryz.f9.isWrapper Tryz.checked.prog Rows.positionPlaysRow.wrapper Rows.positionPlaysRow.mainSum:=by unfold Func.isWrapper;first | (rw [if_pos (by decide +kernel)];kernel_rfl) | (rw [if_neg (by decide +kernel)];exact ⟨rfl,rfl⟩)
theorem ki:Rows.PositionPlaysSaid :=
 OpenClaim.holds_of_wide 9 Tryz.f9 rfl rfl rfl rfl rfl rfl rfl ⟨rfl,rfl,rfl,rfl,rfl⟩ rfl rfl rfl rfl rfl fS Tryz.func9 (qe nz jf1 jf2 nw nu ns jf6 nr jf8 nq me mc mb l9 l8 l7 l0 lZ lY lW lV lU lT lS Nu Nt lR lQ lP lO lN lM) kO kM
  (fun os started H enc _=>jG os started H enc)
end Go.Proofs.YtekfkdddadcalaaGreatDoor
