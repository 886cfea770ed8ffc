/- ExchangeCross: the row; no condition. -/
import Derived.Test.YtjkgmglmgndaoaaGreatDoorExchangeCrossQ1
import Derived.Test.YtjkgmglmgndaoaaGreatDoorP3
set_option maxRecDepth 100000
set_option maxHeartbeats 4000000
namespace Go.Proofs.YtjkgmglmgndaoaaGreatDoor
open Go Go.RowKit Go.SX
open ChangeShapes WideShapes
theorem exchangeCross_j0:Rows.exchangeCrossRow.wf (OpenSpec.ofChange Rows.exchangeCrossSpec)=true:=by kernel_rfl
theorem exchangeCross_j3:Tryz.f6.params.all (Tryz.checked.prog.readableRec ·)=true:=by kernel_rfl
theorem exchangeCross_j4:namedTie Tryz.checked.prog Rows.exchangeCrossRow.named Rows.exchangeCrossSpec.vars=true:=by kernel_rfl
theorem exchangeCross_j5:(Rows.exchangeCrossRow.stops == [])=true:=by kernel_rfl
theorem exchangeCross_j7:(Rows.exchangeCrossRow.knobs == [])=true:=by kernel_rfl
theorem exchangeCross_j9:(Rows.exchangeCrossRow.inPlace == Tryz.checked.prog.inPlace 6)=true:=by kernel_rfl
theorem exchangeCross_j10:(Rows.exchangeCrossRow.unfollowed == Tryz.checked.prog.unfollowed 6)=true:=by kernel_rfl
theorem exchangeCross_j11:(Rows.exchangeCrossRow.recurses == Tryz.checked.prog.recurses 6)=true:=by kernel_rfl
theorem exchangeCross_j12:(Rows.exchangeCrossRow.named == Tryz.checked.prog.varsNamed 6)=true:=by kernel_rfl
theorem exchangeCross_j13:(Rows.exchangeCrossRow.maps == (Tryz.f6.params.toList++Rows.exchangeCrossSpec.plain.varTypes Tryz.checked.prog).any (Tryz.checked.prog.mapsRec ·))=true:=by kernel_rfl
theorem exchangeCross_j14:(Rows.exchangeCrossRow.ifaces == (Tryz.f6.params.toList++Rows.exchangeCrossSpec.plain.varTypes Tryz.checked.prog).any (Tryz.checked.prog.ifacesRec ·))=true:=by kernel_rfl
theorem exchangeCross_j15:(Rows.exchangeCrossRow.mapsOut == Tryz.checked.prog.mapsAmong Tryz.f6.resultTypes.toList)=true:=by kernel_rfl
theorem exchangeCross_j16:(Rows.exchangeCrossRow.loops == (Tryz.f6.params.toList++Rows.exchangeCrossSpec.plain.varTypes Tryz.checked.prog).any (Tryz.checked.prog.loopsFrom ·))=true:=by kernel_rfl
theorem exchangeCross_j17:(Rows.exchangeCrossRow.wideKeys == (Tryz.f6.params.toList++Rows.exchangeCrossSpec.plain.varTypes Tryz.checked.prog++Tryz.f6.resultTypes.toList).any (Tryz.checked.prog.wideKeysFrom ·))=true:=by kernel_rfl
theorem exchangeCross_j18:Rows.exchangeCrossSpec.vars.all (Tryz.checked.prog.varReadable ·)=true:=by kernel_rfl
theorem exchangeCross_j19:Tryz.f6.resultTypes.all (fun t=>Tryz.checked.prog.readableRec t && decide (t < Tryz.checked.prog.types.size))=true:=by kernel_rfl
theorem exchangeCross_j20:(Rows.exchangeCrossRow.ifacesOut == Tryz.f6.resultTypes.toList.any (Tryz.checked.prog.ifacesRec ·))=true:=by kernel_rfl
theorem exchangeCross_j21:(Rows.exchangeCrossRow.loopsOut == Tryz.f6.resultTypes.toList.any (Tryz.checked.prog.loopsFrom ·))=true:=by kernel_rfl
theorem exchangeCross_j22:(Rows.exchangeCrossRow.plainKeys == Tryz.checked.prog.plainKeys)=true:=by kernel_rfl
theorem exchangeCross_j23:Rows.exchangeCrossRow.shortTexts.isNone=true:=by kernel_rfl
theorem exchangeCross_j26:(Rows.exchangeCrossRow.lifted == Tryz.checked.prog.liftsFinal)=true:=jfl
theorem exchangeCross_j27:(Tryz.checked.prog.make == some Rows.exchangeCrossRow.make)=true:=by kernel_rfl
theorem exchangeCross_j28:(Rows.exchangeCrossRow.kinds == (if Rows.exchangeCrossRow.domain.isEmpty then [] else Tryz.f6.params.toList.map fun t=>match Tryz.checked.prog.underlying t with | some (.int k)=>some k | _=>none))=true:=by kernel_rfl
theorem exchangeCross_j29:(Rows.exchangeCrossRow.pinned == Rows.exchangeCrossRow.pinnedBy)=true:=by kernel_rfl
theorem exchangeCross_j30:(Rows.exchangeCrossRow.veiled == (Tryz.f6.params.toList++Rows.exchangeCrossSpec.plain.varTypes Tryz.checked.prog++Tryz.f6.resultTypes.toList).any (Tryz.checked.prog.veiledRec ·))=true:=by kernel_rfl
theorem exchangeCross_j31:Rows.exchangeCrossRow.veiledFits Tryz.checked.prog Tryz.f6.params.toList (Tryz.f6.params.toList++Rows.exchangeCrossSpec.plain.varTypes Tryz.checked.prog++Tryz.f6.resultTypes.toList)=true:=by kernel_rfl
theorem exchangeCross_named:Tryz.checked.prog.funcNamed Rows.exchangeCrossRow.func=some 6:=by kernel_rfl
theorem exchangeCross_inst:Tryz.f6.isInstance Tryz.checked.prog Rows.exchangeCrossRow.origin Rows.exchangeCrossRow.targs:=of_decide_eq_true (by kernel_rfl)
theorem exchangeCross_wrap:Tryz.f6.isWrapper Tryz.checked.prog Rows.exchangeCrossRow.wrapper Rows.exchangeCrossRow.mainSum:=by unfold Func.isWrapper;first | (rw [if_pos (by decide +kernel)];kernel_rfl) | (rw [if_neg (by decide +kernel)];exact ⟨rfl,rfl⟩)
theorem exchangeCross_holds:Rows.ExchangeCrossSaid :=
 OpenClaim.holds_of_wide 6 Tryz.f6 rfl rfl rfl rfl rfl rfl rfl ⟨rfl,rfl,rfl,rfl,rfl⟩ rfl rfl rfl rfl rfl exchangeCross_named Tryz.func6 (joinedFacts_of exchangeCross_j0 jf1 jf2 exchangeCross_j3 exchangeCross_j4 exchangeCross_j5 jf6 exchangeCross_j7 jf8 exchangeCross_j9 exchangeCross_j10 exchangeCross_j11 exchangeCross_j12 exchangeCross_j13 exchangeCross_j14 exchangeCross_j15 exchangeCross_j16 exchangeCross_j17 exchangeCross_j18 exchangeCross_j19 exchangeCross_j20 exchangeCross_j21 exchangeCross_j22 exchangeCross_j23 jf24 jf25 exchangeCross_j26 exchangeCross_j27 exchangeCross_j28 exchangeCross_j29 exchangeCross_j30 exchangeCross_j31) exchangeCross_inst exchangeCross_wrap
  (fun os started H enc _=>exchangeCross_lifted os started H enc)
end Go.Proofs.YtjkgmglmgndaoaaGreatDoor
