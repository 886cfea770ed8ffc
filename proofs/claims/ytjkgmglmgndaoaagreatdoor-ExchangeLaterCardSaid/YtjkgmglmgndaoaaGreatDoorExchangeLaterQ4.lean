/- ExchangeLater: the row; no condition. -/
import Derived.Test.YtjkgmglmgndaoaaGreatDoorExchangeLaterQ3
import Derived.Test.YtjkgmglmgndaoaaGreatDoorP3
set_option maxRecDepth 100000
set_option maxHeartbeats 4000000
namespace Go.Proofs.YtjkgmglmgndaoaaGreatDoor
open Go Go.RowKit Go.SX
open ChangeShapes WideShapes
theorem exchangeLater_j0:Rows.exchangeLaterRow.wf (OpenSpec.ofChange Rows.exchangeLaterSpec)=true:=by kernel_rfl
theorem exchangeLater_j3:Tryz.f7.params.all (Tryz.checked.prog.readableRec ·)=true:=by kernel_rfl
theorem exchangeLater_j4:namedTie Tryz.checked.prog Rows.exchangeLaterRow.named Rows.exchangeLaterSpec.vars=true:=by kernel_rfl
theorem exchangeLater_j5:(Rows.exchangeLaterRow.stops == [])=true:=by kernel_rfl
theorem exchangeLater_j7:(Rows.exchangeLaterRow.knobs == [])=true:=by kernel_rfl
theorem exchangeLater_j9:(Rows.exchangeLaterRow.inPlace == Tryz.checked.prog.inPlace 7)=true:=by kernel_rfl
theorem exchangeLater_j10:(Rows.exchangeLaterRow.unfollowed == Tryz.checked.prog.unfollowed 7)=true:=by kernel_rfl
theorem exchangeLater_j11:(Rows.exchangeLaterRow.recurses == Tryz.checked.prog.recurses 7)=true:=by kernel_rfl
theorem exchangeLater_j12:(Rows.exchangeLaterRow.named == Tryz.checked.prog.varsNamed 7)=true:=by kernel_rfl
theorem exchangeLater_j13:(Rows.exchangeLaterRow.maps == (Tryz.f7.params.toList++Rows.exchangeLaterSpec.plain.varTypes Tryz.checked.prog).any (Tryz.checked.prog.mapsRec ·))=true:=by kernel_rfl
theorem exchangeLater_j14:(Rows.exchangeLaterRow.ifaces == (Tryz.f7.params.toList++Rows.exchangeLaterSpec.plain.varTypes Tryz.checked.prog).any (Tryz.checked.prog.ifacesRec ·))=true:=by kernel_rfl
theorem exchangeLater_j15:(Rows.exchangeLaterRow.mapsOut == Tryz.checked.prog.mapsAmong Tryz.f7.resultTypes.toList)=true:=by kernel_rfl
theorem exchangeLater_j16:(Rows.exchangeLaterRow.loops == (Tryz.f7.params.toList++Rows.exchangeLaterSpec.plain.varTypes Tryz.checked.prog).any (Tryz.checked.prog.loopsFrom ·))=true:=by kernel_rfl
theorem exchangeLater_j17:(Rows.exchangeLaterRow.wideKeys == (Tryz.f7.params.toList++Rows.exchangeLaterSpec.plain.varTypes Tryz.checked.prog++Tryz.f7.resultTypes.toList).any (Tryz.checked.prog.wideKeysFrom ·))=true:=by kernel_rfl
theorem exchangeLater_j18:Rows.exchangeLaterSpec.vars.all (Tryz.checked.prog.varReadable ·)=true:=by kernel_rfl
theorem exchangeLater_j19:Tryz.f7.resultTypes.all (fun t=>Tryz.checked.prog.readableRec t && decide (t < Tryz.checked.prog.types.size))=true:=by kernel_rfl
theorem exchangeLater_j20:(Rows.exchangeLaterRow.ifacesOut == Tryz.f7.resultTypes.toList.any (Tryz.checked.prog.ifacesRec ·))=true:=by kernel_rfl
theorem exchangeLater_j21:(Rows.exchangeLaterRow.loopsOut == Tryz.f7.resultTypes.toList.any (Tryz.checked.prog.loopsFrom ·))=true:=by kernel_rfl
theorem exchangeLater_j22:(Rows.exchangeLaterRow.plainKeys == Tryz.checked.prog.plainKeys)=true:=by kernel_rfl
theorem exchangeLater_j23:Rows.exchangeLaterRow.shortTexts.isNone=true:=by kernel_rfl
theorem exchangeLater_j26:(Rows.exchangeLaterRow.lifted == Tryz.checked.prog.liftsFinal)=true:=jfl
theorem exchangeLater_j27:(Tryz.checked.prog.make == some Rows.exchangeLaterRow.make)=true:=by kernel_rfl
theorem exchangeLater_j28:(Rows.exchangeLaterRow.kinds == (if Rows.exchangeLaterRow.domain.isEmpty then [] else Tryz.f7.params.toList.map fun t=>match Tryz.checked.prog.underlying t with | some (.int k)=>some k | _=>none))=true:=by kernel_rfl
theorem exchangeLater_j29:(Rows.exchangeLaterRow.pinned == Rows.exchangeLaterRow.pinnedBy)=true:=by kernel_rfl
theorem exchangeLater_j30:(Rows.exchangeLaterRow.veiled == (Tryz.f7.params.toList++Rows.exchangeLaterSpec.plain.varTypes Tryz.checked.prog++Tryz.f7.resultTypes.toList).any (Tryz.checked.prog.veiledRec ·))=true:=by kernel_rfl
theorem exchangeLater_j31:Rows.exchangeLaterRow.veiledFits Tryz.checked.prog Tryz.f7.params.toList (Tryz.f7.params.toList++Rows.exchangeLaterSpec.plain.varTypes Tryz.checked.prog++Tryz.f7.resultTypes.toList)=true:=by kernel_rfl
theorem exchangeLater_named:Tryz.checked.prog.funcNamed Rows.exchangeLaterRow.func=some 7:=by kernel_rfl
theorem exchangeLater_inst:Tryz.f7.isInstance Tryz.checked.prog Rows.exchangeLaterRow.origin Rows.exchangeLaterRow.targs:=of_decide_eq_true (by kernel_rfl)
theorem exchangeLater_wrap:Tryz.f7.isWrapper Tryz.checked.prog Rows.exchangeLaterRow.wrapper Rows.exchangeLaterRow.mainSum:=by unfold Func.isWrapper;first | (rw [if_pos (by decide +kernel)];kernel_rfl) | (rw [if_neg (by decide +kernel)];exact ⟨rfl,rfl⟩)
theorem exchangeLater_holds:Rows.ExchangeLaterSaid :=
 OpenClaim.holds_of_wide 7 Tryz.f7 rfl rfl rfl rfl rfl rfl rfl ⟨rfl,rfl,rfl,rfl,rfl⟩ rfl rfl rfl rfl rfl exchangeLater_named Tryz.func7 (joinedFacts_of exchangeLater_j0 jf1 jf2 exchangeLater_j3 exchangeLater_j4 exchangeLater_j5 jf6 exchangeLater_j7 jf8 exchangeLater_j9 exchangeLater_j10 exchangeLater_j11 exchangeLater_j12 exchangeLater_j13 exchangeLater_j14 exchangeLater_j15 exchangeLater_j16 exchangeLater_j17 exchangeLater_j18 exchangeLater_j19 exchangeLater_j20 exchangeLater_j21 exchangeLater_j22 exchangeLater_j23 jf24 jf25 exchangeLater_j26 exchangeLater_j27 exchangeLater_j28 exchangeLater_j29 exchangeLater_j30 exchangeLater_j31) exchangeLater_inst exchangeLater_wrap
  (fun os started H enc _=>exchangeLater_lifted os started H enc)
end Go.Proofs.YtjkgmglmgndaoaaGreatDoor
