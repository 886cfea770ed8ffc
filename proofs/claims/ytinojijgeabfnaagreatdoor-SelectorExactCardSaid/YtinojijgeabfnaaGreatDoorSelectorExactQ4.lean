/- SelectorExact: the row; no condition. -/
import Derived.Test.YtinojijgeabfnaaGreatDoorSelectorExactQ3
import Derived.Test.YtinojijgeabfnaaGreatDoorP3
set_option maxRecDepth 100000
set_option maxHeartbeats 4000000
namespace Go.Proofs.YtinojijgeabfnaaGreatDoor
open Go Go.RowKit Go.SX
open ChangeShapes WideShapes
theorem selectorExact_j0:Rows.selectorExactRow.wf (OpenSpec.ofChange Rows.selectorExactSpec)=true:=by kernel_rfl
theorem selectorExact_j3:Tryz.f3.params.all (Tryz.checked.prog.readableRec ·)=true:=by kernel_rfl
theorem selectorExact_j4:namedTie Tryz.checked.prog Rows.selectorExactRow.named Rows.selectorExactSpec.vars=true:=by kernel_rfl
theorem selectorExact_j5:(Rows.selectorExactRow.stops == [])=true:=by kernel_rfl
theorem selectorExact_j7:(Rows.selectorExactRow.knobs == [])=true:=by kernel_rfl
theorem selectorExact_j9:(Rows.selectorExactRow.inPlace == Tryz.checked.prog.inPlace 3)=true:=by kernel_rfl
theorem selectorExact_j10:(Rows.selectorExactRow.unfollowed == Tryz.checked.prog.unfollowed 3)=true:=by kernel_rfl
theorem selectorExact_j11:(Rows.selectorExactRow.recurses == Tryz.checked.prog.recurses 3)=true:=by kernel_rfl
theorem selectorExact_j12:(Rows.selectorExactRow.named == Tryz.checked.prog.varsNamed 3)=true:=by kernel_rfl
theorem selectorExact_j13:(Rows.selectorExactRow.maps == (Tryz.f3.params.toList++Rows.selectorExactSpec.plain.varTypes Tryz.checked.prog).any (Tryz.checked.prog.mapsRec ·))=true:=by kernel_rfl
theorem selectorExact_j14:(Rows.selectorExactRow.ifaces == (Tryz.f3.params.toList++Rows.selectorExactSpec.plain.varTypes Tryz.checked.prog).any (Tryz.checked.prog.ifacesRec ·))=true:=by kernel_rfl
theorem selectorExact_j15:(Rows.selectorExactRow.mapsOut == Tryz.checked.prog.mapsAmong Tryz.f3.resultTypes.toList)=true:=by kernel_rfl
theorem selectorExact_j16:(Rows.selectorExactRow.loops == (Tryz.f3.params.toList++Rows.selectorExactSpec.plain.varTypes Tryz.checked.prog).any (Tryz.checked.prog.loopsFrom ·))=true:=by kernel_rfl
theorem selectorExact_j17:(Rows.selectorExactRow.wideKeys == (Tryz.f3.params.toList++Rows.selectorExactSpec.plain.varTypes Tryz.checked.prog++Tryz.f3.resultTypes.toList).any (Tryz.checked.prog.wideKeysFrom ·))=true:=by kernel_rfl
theorem selectorExact_j18:Rows.selectorExactSpec.vars.all (Tryz.checked.prog.varReadable ·)=true:=by kernel_rfl
theorem selectorExact_j19:Tryz.f3.resultTypes.all (fun t=>Tryz.checked.prog.readableRec t && decide (t < Tryz.checked.prog.types.size))=true:=by kernel_rfl
theorem selectorExact_j20:(Rows.selectorExactRow.ifacesOut == Tryz.f3.resultTypes.toList.any (Tryz.checked.prog.ifacesRec ·))=true:=by kernel_rfl
theorem selectorExact_j21:(Rows.selectorExactRow.loopsOut == Tryz.f3.resultTypes.toList.any (Tryz.checked.prog.loopsFrom ·))=true:=by kernel_rfl
theorem selectorExact_j22:(Rows.selectorExactRow.plainKeys == Tryz.checked.prog.plainKeys)=true:=by kernel_rfl
theorem selectorExact_j23:Rows.selectorExactRow.shortTexts.isNone=true:=by kernel_rfl
theorem selectorExact_j26:(Rows.selectorExactRow.lifted == Tryz.checked.prog.liftsFinal)=true:=jfl
theorem selectorExact_j27:(Tryz.checked.prog.make == some Rows.selectorExactRow.make)=true:=by kernel_rfl
theorem selectorExact_j28:(Rows.selectorExactRow.kinds == (if Rows.selectorExactRow.domain.isEmpty then [] else Tryz.f3.params.toList.map fun t=>match Tryz.checked.prog.underlying t with | some (.int k)=>some k | _=>none))=true:=by kernel_rfl
theorem selectorExact_j29:(Rows.selectorExactRow.pinned == Rows.selectorExactRow.pinnedBy)=true:=by kernel_rfl
theorem selectorExact_j30:(Rows.selectorExactRow.veiled == (Tryz.f3.params.toList++Rows.selectorExactSpec.plain.varTypes Tryz.checked.prog++Tryz.f3.resultTypes.toList).any (Tryz.checked.prog.veiledRec ·))=true:=by kernel_rfl
theorem selectorExact_j31:Rows.selectorExactRow.veiledFits Tryz.checked.prog Tryz.f3.params.toList (Tryz.f3.params.toList++Rows.selectorExactSpec.plain.varTypes Tryz.checked.prog++Tryz.f3.resultTypes.toList)=true:=by kernel_rfl
theorem selectorExact_named:Tryz.checked.prog.funcNamed Rows.selectorExactRow.func=some 3:=by kernel_rfl
theorem selectorExact_inst:Tryz.f3.isInstance Tryz.checked.prog Rows.selectorExactRow.origin Rows.selectorExactRow.targs:=of_decide_eq_true (by kernel_rfl)
theorem selectorExact_wrap:Tryz.f3.isWrapper Tryz.checked.prog Rows.selectorExactRow.wrapper Rows.selectorExactRow.mainSum:=by unfold Func.isWrapper;first | (rw [if_pos (by decide +kernel)];kernel_rfl) | (rw [if_neg (by decide +kernel)];exact ⟨rfl,rfl⟩)
theorem selectorExact_holds:Rows.SelectorExactSaid :=
 OpenClaim.holds_of_wide 3 Tryz.f3 rfl rfl rfl rfl rfl rfl rfl ⟨rfl,rfl,rfl,rfl,rfl⟩ rfl rfl rfl rfl rfl selectorExact_named Tryz.func3 (joinedFacts_of selectorExact_j0 jf1 jf2 selectorExact_j3 selectorExact_j4 selectorExact_j5 jf6 selectorExact_j7 jf8 selectorExact_j9 selectorExact_j10 selectorExact_j11 selectorExact_j12 selectorExact_j13 selectorExact_j14 selectorExact_j15 selectorExact_j16 selectorExact_j17 selectorExact_j18 selectorExact_j19 selectorExact_j20 selectorExact_j21 selectorExact_j22 selectorExact_j23 jf24 jf25 selectorExact_j26 selectorExact_j27 selectorExact_j28 selectorExact_j29 selectorExact_j30 selectorExact_j31) selectorExact_inst selectorExact_wrap
  (fun os started H enc _=>selectorExact_lifted os started H enc)
end Go.Proofs.YtinojijgeabfnaaGreatDoor
