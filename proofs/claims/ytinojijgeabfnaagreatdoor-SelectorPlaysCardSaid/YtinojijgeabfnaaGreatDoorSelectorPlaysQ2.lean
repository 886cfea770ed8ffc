/- SelectorPlays: the row; no condition. -/
import Derived.Test.YtinojijgeabfnaaGreatDoorSelectorPlaysQ1
import Derived.Test.YtinojijgeabfnaaGreatDoorP3
set_option maxRecDepth 100000
set_option maxHeartbeats 4000000
namespace Go.Proofs.YtinojijgeabfnaaGreatDoor
open Go Go.RowKit Go.SX
open ChangeShapes WideShapes
theorem selectorPlays_j0:Rows.selectorPlaysRow.wf (OpenSpec.ofChange Rows.selectorPlaysSpec)=true:=by kernel_rfl
theorem selectorPlays_j3:Tryz.f4.params.all (Tryz.checked.prog.readableRec ·)=true:=by kernel_rfl
theorem selectorPlays_j4:namedTie Tryz.checked.prog Rows.selectorPlaysRow.named Rows.selectorPlaysSpec.vars=true:=by kernel_rfl
theorem selectorPlays_j5:(Rows.selectorPlaysRow.stops == [])=true:=by kernel_rfl
theorem selectorPlays_j7:(Rows.selectorPlaysRow.knobs == [])=true:=by kernel_rfl
theorem selectorPlays_j9:(Rows.selectorPlaysRow.inPlace == Tryz.checked.prog.inPlace 4)=true:=by kernel_rfl
theorem selectorPlays_j10:(Rows.selectorPlaysRow.unfollowed == Tryz.checked.prog.unfollowed 4)=true:=by kernel_rfl
theorem selectorPlays_j11:(Rows.selectorPlaysRow.recurses == Tryz.checked.prog.recurses 4)=true:=by kernel_rfl
theorem selectorPlays_j12:(Rows.selectorPlaysRow.named == Tryz.checked.prog.varsNamed 4)=true:=by kernel_rfl
theorem selectorPlays_j13:(Rows.selectorPlaysRow.maps == (Tryz.f4.params.toList++Rows.selectorPlaysSpec.plain.varTypes Tryz.checked.prog).any (Tryz.checked.prog.mapsRec ·))=true:=by kernel_rfl
theorem selectorPlays_j14:(Rows.selectorPlaysRow.ifaces == (Tryz.f4.params.toList++Rows.selectorPlaysSpec.plain.varTypes Tryz.checked.prog).any (Tryz.checked.prog.ifacesRec ·))=true:=by kernel_rfl
theorem selectorPlays_j15:(Rows.selectorPlaysRow.mapsOut == Tryz.checked.prog.mapsAmong Tryz.f4.resultTypes.toList)=true:=by kernel_rfl
theorem selectorPlays_j16:(Rows.selectorPlaysRow.loops == (Tryz.f4.params.toList++Rows.selectorPlaysSpec.plain.varTypes Tryz.checked.prog).any (Tryz.checked.prog.loopsFrom ·))=true:=by kernel_rfl
theorem selectorPlays_j17:(Rows.selectorPlaysRow.wideKeys == (Tryz.f4.params.toList++Rows.selectorPlaysSpec.plain.varTypes Tryz.checked.prog++Tryz.f4.resultTypes.toList).any (Tryz.checked.prog.wideKeysFrom ·))=true:=by kernel_rfl
theorem selectorPlays_j18:Rows.selectorPlaysSpec.vars.all (Tryz.checked.prog.varReadable ·)=true:=by kernel_rfl
theorem selectorPlays_j19:Tryz.f4.resultTypes.all (fun t=>Tryz.checked.prog.readableRec t && decide (t < Tryz.checked.prog.types.size))=true:=by kernel_rfl
theorem selectorPlays_j20:(Rows.selectorPlaysRow.ifacesOut == Tryz.f4.resultTypes.toList.any (Tryz.checked.prog.ifacesRec ·))=true:=by kernel_rfl
theorem selectorPlays_j21:(Rows.selectorPlaysRow.loopsOut == Tryz.f4.resultTypes.toList.any (Tryz.checked.prog.loopsFrom ·))=true:=by kernel_rfl
theorem selectorPlays_j22:(Rows.selectorPlaysRow.plainKeys == Tryz.checked.prog.plainKeys)=true:=by kernel_rfl
theorem selectorPlays_j23:Rows.selectorPlaysRow.shortTexts.isNone=true:=by kernel_rfl
theorem selectorPlays_j26:(Rows.selectorPlaysRow.lifted == Tryz.checked.prog.liftsFinal)=true:=jfl
theorem selectorPlays_j27:(Tryz.checked.prog.make == some Rows.selectorPlaysRow.make)=true:=by kernel_rfl
theorem selectorPlays_j28:(Rows.selectorPlaysRow.kinds == (if Rows.selectorPlaysRow.domain.isEmpty then [] else Tryz.f4.params.toList.map fun t=>match Tryz.checked.prog.underlying t with | some (.int k)=>some k | _=>none))=true:=by kernel_rfl
theorem selectorPlays_j29:(Rows.selectorPlaysRow.pinned == Rows.selectorPlaysRow.pinnedBy)=true:=by kernel_rfl
theorem selectorPlays_j30:(Rows.selectorPlaysRow.veiled == (Tryz.f4.params.toList++Rows.selectorPlaysSpec.plain.varTypes Tryz.checked.prog++Tryz.f4.resultTypes.toList).any (Tryz.checked.prog.veiledRec ·))=true:=by kernel_rfl
theorem selectorPlays_j31:Rows.selectorPlaysRow.veiledFits Tryz.checked.prog Tryz.f4.params.toList (Tryz.f4.params.toList++Rows.selectorPlaysSpec.plain.varTypes Tryz.checked.prog++Tryz.f4.resultTypes.toList)=true:=by kernel_rfl
theorem selectorPlays_named:Tryz.checked.prog.funcNamed Rows.selectorPlaysRow.func=some 4:=by kernel_rfl
theorem selectorPlays_inst:Tryz.f4.isInstance Tryz.checked.prog Rows.selectorPlaysRow.origin Rows.selectorPlaysRow.targs:=of_decide_eq_true (by kernel_rfl)
theorem selectorPlays_wrap:Tryz.f4.isWrapper Tryz.checked.prog Rows.selectorPlaysRow.wrapper Rows.selectorPlaysRow.mainSum:=by unfold Func.isWrapper;first | (rw [if_pos (by decide +kernel)];kernel_rfl) | (rw [if_neg (by decide +kernel)];exact ⟨rfl,rfl⟩)
theorem selectorPlays_holds:Rows.SelectorPlaysSaid :=
 OpenClaim.holds_of_wide 4 Tryz.f4 rfl rfl rfl rfl rfl rfl rfl ⟨rfl,rfl,rfl,rfl,rfl⟩ rfl rfl rfl rfl rfl selectorPlays_named Tryz.func4 (joinedFacts_of selectorPlays_j0 jf1 jf2 selectorPlays_j3 selectorPlays_j4 selectorPlays_j5 jf6 selectorPlays_j7 jf8 selectorPlays_j9 selectorPlays_j10 selectorPlays_j11 selectorPlays_j12 selectorPlays_j13 selectorPlays_j14 selectorPlays_j15 selectorPlays_j16 selectorPlays_j17 selectorPlays_j18 selectorPlays_j19 selectorPlays_j20 selectorPlays_j21 selectorPlays_j22 selectorPlays_j23 jf24 jf25 selectorPlays_j26 selectorPlays_j27 selectorPlays_j28 selectorPlays_j29 selectorPlays_j30 selectorPlays_j31) selectorPlays_inst selectorPlays_wrap
  (fun os started H enc _=>selectorPlays_lifted os started H enc)
end Go.Proofs.YtinojijgeabfnaaGreatDoor
