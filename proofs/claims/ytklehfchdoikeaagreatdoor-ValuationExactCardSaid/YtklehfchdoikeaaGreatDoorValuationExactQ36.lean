/- ValuationExact: the row; no condition. -/
import Derived.Test.YtklehfchdoikeaaGreatDoorValuationExactQ35
import Derived.Test.YtklehfchdoikeaaGreatDoorValuationExactQ3
set_option maxRecDepth 100000
set_option maxHeartbeats 4000000
namespace Go.Proofs.YtklehfchdoikeaaGreatDoor
open Go Go.RowKit Go.SX
open ChangeShapes WideShapes
theorem mt:Rows.valuationExactRow.wf (OpenSpec.ofChange Rows.valuationExactSpec)=true:=by kernel_rfl
theorem mr:Tryz.f3.params.all (Tryz.checked.prog.readableRec ·)=true:=by kernel_rfl
theorem mq:namedTie Tryz.checked.prog Rows.valuationExactRow.named Rows.valuationExactSpec.vars=true:=by kernel_rfl
theorem mn:(Rows.valuationExactRow.stops == [])=true:=by kernel_rfl
theorem ml:(Rows.valuationExactRow.knobs == [])=true:=by kernel_rfl
theorem mj:(Rows.valuationExactRow.inPlace == Tryz.checked.prog.inPlace 3)=true:=by kernel_rfl
theorem lK:(Rows.valuationExactRow.unfollowed == Tryz.checked.prog.unfollowed 3)=true:=by kernel_rfl
theorem lJ:(Rows.valuationExactRow.recurses == Tryz.checked.prog.recurses 3)=true:=by kernel_rfl
theorem lI:(Rows.valuationExactRow.named == Tryz.checked.prog.varsNamed 3)=true:=by kernel_rfl
theorem lH:(Rows.valuationExactRow.maps == (Tryz.f3.params.toList++Rows.valuationExactSpec.plain.varTypes Tryz.checked.prog).any (Tryz.checked.prog.mapsRec ·))=true:=by kernel_rfl
theorem lG:(Rows.valuationExactRow.ifaces == (Tryz.f3.params.toList++Rows.valuationExactSpec.plain.varTypes Tryz.checked.prog).any (Tryz.checked.prog.ifacesRec ·))=true:=by kernel_rfl
theorem lF:(Rows.valuationExactRow.mapsOut == Tryz.checked.prog.mapsAmong Tryz.f3.resultTypes.toList)=true:=by kernel_rfl
theorem lE:(Rows.valuationExactRow.loops == (Tryz.f3.params.toList++Rows.valuationExactSpec.plain.varTypes Tryz.checked.prog).any (Tryz.checked.prog.loopsFrom ·))=true:=by kernel_rfl
theorem lD:(Rows.valuationExactRow.wideKeys == (Tryz.f3.params.toList++Rows.valuationExactSpec.plain.varTypes Tryz.checked.prog++Tryz.f3.resultTypes.toList).any (Tryz.checked.prog.wideKeysFrom ·))=true:=by kernel_rfl
theorem lC:Rows.valuationExactSpec.vars.all (Tryz.checked.prog.varReadable ·)=true:=by kernel_rfl
theorem lB:Tryz.f3.resultTypes.all (fun t=>Tryz.checked.prog.readableRec t && decide (t < Tryz.checked.prog.types.size))=true:=by kernel_rfl
theorem lz:(Rows.valuationExactRow.ifacesOut == Tryz.f3.resultTypes.toList.any (Tryz.checked.prog.ifacesRec ·))=true:=by kernel_rfl
theorem lw:(Rows.valuationExactRow.loopsOut == Tryz.f3.resultTypes.toList.any (Tryz.checked.prog.loopsFrom ·))=true:=by kernel_rfl
theorem lv:(Rows.valuationExactRow.plainKeys == Tryz.checked.prog.plainKeys)=true:=by kernel_rfl
theorem lu:Rows.valuationExactRow.shortTexts.isNone=true:=by kernel_rfl
theorem lr:(Rows.valuationExactRow.lifted == Tryz.checked.prog.liftsFinal)=true:=jfl
theorem lq:(Tryz.checked.prog.make == some Rows.valuationExactRow.make)=true:=by kernel_rfl
theorem lp:(Rows.valuationExactRow.kinds == (if Rows.valuationExactRow.domain.isEmpty then [] else Tryz.f3.params.toList.map fun t=>match Tryz.checked.prog.underlying t with | some (.int k)=>some k | _=>none))=true:=by kernel_rfl
theorem ln:(Rows.valuationExactRow.pinned == Rows.valuationExactRow.pinnedBy)=true:=by kernel_rfl
theorem lm:(Rows.valuationExactRow.veiled == (Tryz.f3.params.toList++Rows.valuationExactSpec.plain.varTypes Tryz.checked.prog++Tryz.f3.resultTypes.toList).any (Tryz.checked.prog.veiledRec ·))=true:=by kernel_rfl
theorem ll:Rows.valuationExactRow.veiledFits Tryz.checked.prog Tryz.f3.params.toList (Tryz.f3.params.toList++Rows.valuationExactSpec.plain.varTypes Tryz.checked.prog++Tryz.f3.resultTypes.toList)=true:=by kernel_rfl
theorem gd:Tryz.checked.prog.funcNamed Rows.valuationExactRow.func=some 3:=by kernel_rfl
theorem kP:Tryz.f3.isInstance Tryz.checked.prog Rows.valuationExactRow.origin Rows.valuationExactRow.targs:=af (by kernel_rfl)
theorem kN:Tryz.f3.isWrapper Tryz.checked.prog Rows.valuationExactRow.wrapper Rows.valuationExactRow.mainSum:=by unfold Func.isWrapper;first | (rw [if_pos (by decide +kernel)];kernel_rfl) | (rw [if_neg (by decide +kernel)];exact ⟨rfl,rfl⟩)
theorem j4:Rows.ValuationExactSaid :=
 OpenClaim.holds_of_wide 3 Tryz.f3 rfl rfl rfl rfl rfl rfl rfl ⟨rfl,rfl,rfl,rfl,rfl⟩ rfl rfl rfl rfl rfl gd Tryz.func3 (qD mt jf1 jf2 mr mq mn jf6 ml jf8 mj lK lJ lI lH lG lF lE lD lC lB lz lw lv lu Q8 Q7 lr lq lp ln lm ll) kP kN
  (fun os started H enc _=>jX os started H enc)
end Go.Proofs.YtklehfchdoikeaaGreatDoor
