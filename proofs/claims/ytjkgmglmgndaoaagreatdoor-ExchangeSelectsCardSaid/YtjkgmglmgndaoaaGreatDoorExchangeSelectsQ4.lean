/- ExchangeSelects: the row; no condition. -/
import Derived.Test.YtjkgmglmgndaoaaGreatDoorExchangeSelectsQ3
import Derived.Test.YtjkgmglmgndaoaaGreatDoorP3
set_option maxRecDepth 100000
set_option maxHeartbeats 4000000
namespace Go.Proofs.YtjkgmglmgndaoaaGreatDoor
open Go Go.RowKit Go.SX
open ChangeShapes WideShapes
theorem exchangeSelects_j0:Rows.exchangeSelectsRow.wf (OpenSpec.ofChange Rows.exchangeSelectsSpec)=true:=by kernel_rfl
theorem exchangeSelects_j3:Tryz.f8.params.all (Tryz.checked.prog.readableRec ·)=true:=by kernel_rfl
theorem exchangeSelects_j4:namedTie Tryz.checked.prog Rows.exchangeSelectsRow.named Rows.exchangeSelectsSpec.vars=true:=by kernel_rfl
theorem exchangeSelects_j5:(Rows.exchangeSelectsRow.stops == [])=true:=by kernel_rfl
theorem exchangeSelects_j7:(Rows.exchangeSelectsRow.knobs == [])=true:=by kernel_rfl
theorem exchangeSelects_j9:(Rows.exchangeSelectsRow.inPlace == Tryz.checked.prog.inPlace 8)=true:=by kernel_rfl
theorem exchangeSelects_j10:(Rows.exchangeSelectsRow.unfollowed == Tryz.checked.prog.unfollowed 8)=true:=by kernel_rfl
theorem exchangeSelects_j11:(Rows.exchangeSelectsRow.recurses == Tryz.checked.prog.recurses 8)=true:=by kernel_rfl
theorem exchangeSelects_j12:(Rows.exchangeSelectsRow.named == Tryz.checked.prog.varsNamed 8)=true:=by kernel_rfl
theorem exchangeSelects_j13:(Rows.exchangeSelectsRow.maps == (Tryz.f8.params.toList++Rows.exchangeSelectsSpec.plain.varTypes Tryz.checked.prog).any (Tryz.checked.prog.mapsRec ·))=true:=by kernel_rfl
theorem exchangeSelects_j14:(Rows.exchangeSelectsRow.ifaces == (Tryz.f8.params.toList++Rows.exchangeSelectsSpec.plain.varTypes Tryz.checked.prog).any (Tryz.checked.prog.ifacesRec ·))=true:=by kernel_rfl
theorem exchangeSelects_j15:(Rows.exchangeSelectsRow.mapsOut == Tryz.checked.prog.mapsAmong Tryz.f8.resultTypes.toList)=true:=by kernel_rfl
theorem exchangeSelects_j16:(Rows.exchangeSelectsRow.loops == (Tryz.f8.params.toList++Rows.exchangeSelectsSpec.plain.varTypes Tryz.checked.prog).any (Tryz.checked.prog.loopsFrom ·))=true:=by kernel_rfl
theorem exchangeSelects_j17:(Rows.exchangeSelectsRow.wideKeys == (Tryz.f8.params.toList++Rows.exchangeSelectsSpec.plain.varTypes Tryz.checked.prog++Tryz.f8.resultTypes.toList).any (Tryz.checked.prog.wideKeysFrom ·))=true:=by kernel_rfl
theorem exchangeSelects_j18:Rows.exchangeSelectsSpec.vars.all (Tryz.checked.prog.varReadable ·)=true:=by kernel_rfl
theorem exchangeSelects_j19:Tryz.f8.resultTypes.all (fun t=>Tryz.checked.prog.readableRec t && decide (t < Tryz.checked.prog.types.size))=true:=by kernel_rfl
theorem exchangeSelects_j20:(Rows.exchangeSelectsRow.ifacesOut == Tryz.f8.resultTypes.toList.any (Tryz.checked.prog.ifacesRec ·))=true:=by kernel_rfl
theorem exchangeSelects_j21:(Rows.exchangeSelectsRow.loopsOut == Tryz.f8.resultTypes.toList.any (Tryz.checked.prog.loopsFrom ·))=true:=by kernel_rfl
theorem exchangeSelects_j22:(Rows.exchangeSelectsRow.plainKeys == Tryz.checked.prog.plainKeys)=true:=by kernel_rfl
theorem exchangeSelects_j23:Rows.exchangeSelectsRow.shortTexts.isNone=true:=by kernel_rfl
theorem exchangeSelects_j26:(Rows.exchangeSelectsRow.lifted == Tryz.checked.prog.liftsFinal)=true:=jfl
theorem exchangeSelects_j27:(Tryz.checked.prog.make == some Rows.exchangeSelectsRow.make)=true:=by kernel_rfl
theorem exchangeSelects_j28:(Rows.exchangeSelectsRow.kinds == (if Rows.exchangeSelectsRow.domain.isEmpty then [] else Tryz.f8.params.toList.map fun t=>match Tryz.checked.prog.underlying t with | some (.int k)=>some k | _=>none))=true:=by kernel_rfl
theorem exchangeSelects_j29:(Rows.exchangeSelectsRow.pinned == Rows.exchangeSelectsRow.pinnedBy)=true:=by kernel_rfl
theorem exchangeSelects_j30:(Rows.exchangeSelectsRow.veiled == (Tryz.f8.params.toList++Rows.exchangeSelectsSpec.plain.varTypes Tryz.checked.prog++Tryz.f8.resultTypes.toList).any (Tryz.checked.prog.veiledRec ·))=true:=by kernel_rfl
theorem exchangeSelects_j31:Rows.exchangeSelectsRow.veiledFits Tryz.checked.prog Tryz.f8.params.toList (Tryz.f8.params.toList++Rows.exchangeSelectsSpec.plain.varTypes Tryz.checked.prog++Tryz.f8.resultTypes.toList)=true:=by kernel_rfl
theorem exchangeSelects_named:Tryz.checked.prog.funcNamed Rows.exchangeSelectsRow.func=some 8:=by kernel_rfl
theorem exchangeSelects_inst:Tryz.f8.isInstance Tryz.checked.prog Rows.exchangeSelectsRow.origin Rows.exchangeSelectsRow.targs:=of_decide_eq_true (by kernel_rfl)
theorem exchangeSelects_wrap:Tryz.f8.isWrapper Tryz.checked.prog Rows.exchangeSelectsRow.wrapper Rows.exchangeSelectsRow.mainSum:=by unfold Func.isWrapper;first | (rw [if_pos (by decide +kernel)];kernel_rfl) | (rw [if_neg (by decide +kernel)];exact ⟨rfl,rfl⟩)
theorem exchangeSelects_holds:Rows.ExchangeSelectsSaid :=
 OpenClaim.holds_of_wide 8 Tryz.f8 rfl rfl rfl rfl rfl rfl rfl ⟨rfl,rfl,rfl,rfl,rfl⟩ rfl rfl rfl rfl rfl exchangeSelects_named Tryz.func8 (joinedFacts_of exchangeSelects_j0 jf1 jf2 exchangeSelects_j3 exchangeSelects_j4 exchangeSelects_j5 jf6 exchangeSelects_j7 jf8 exchangeSelects_j9 exchangeSelects_j10 exchangeSelects_j11 exchangeSelects_j12 exchangeSelects_j13 exchangeSelects_j14 exchangeSelects_j15 exchangeSelects_j16 exchangeSelects_j17 exchangeSelects_j18 exchangeSelects_j19 exchangeSelects_j20 exchangeSelects_j21 exchangeSelects_j22 exchangeSelects_j23 jf24 jf25 exchangeSelects_j26 exchangeSelects_j27 exchangeSelects_j28 exchangeSelects_j29 exchangeSelects_j30 exchangeSelects_j31) exchangeSelects_inst exchangeSelects_wrap
  (fun os started H enc _=>exchangeSelects_lifted os started H enc)
end Go.Proofs.YtjkgmglmgndaoaaGreatDoor
