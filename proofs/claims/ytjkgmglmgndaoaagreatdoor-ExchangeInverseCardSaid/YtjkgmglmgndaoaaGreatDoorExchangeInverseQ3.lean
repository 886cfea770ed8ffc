/- ExchangeInverse: the row; no condition. -/
import Derived.Test.YtjkgmglmgndaoaaGreatDoorExchangeInverseQ2
import Derived.Test.YtjkgmglmgndaoaaGreatDoorP3
set_option maxRecDepth 100000
set_option maxHeartbeats 4000000
namespace Go.Proofs.YtjkgmglmgndaoaaGreatDoor
open Go Go.RowKit Go.SX
open ChangeShapes WideShapes
theorem exchangeInverse_j0:Rows.exchangeInverseRow.wf (OpenSpec.ofChange Rows.exchangeInverseSpec)=true:=by kernel_rfl
theorem exchangeInverse_j3:Tryz.f5.params.all (Tryz.checked.prog.readableRec ·)=true:=by kernel_rfl
theorem exchangeInverse_j4:namedTie Tryz.checked.prog Rows.exchangeInverseRow.named Rows.exchangeInverseSpec.vars=true:=by kernel_rfl
theorem exchangeInverse_j5:(Rows.exchangeInverseRow.stops == [])=true:=by kernel_rfl
theorem exchangeInverse_j7:(Rows.exchangeInverseRow.knobs == [])=true:=by kernel_rfl
theorem exchangeInverse_j9:(Rows.exchangeInverseRow.inPlace == Tryz.checked.prog.inPlace 5)=true:=by kernel_rfl
theorem exchangeInverse_j10:(Rows.exchangeInverseRow.unfollowed == Tryz.checked.prog.unfollowed 5)=true:=by kernel_rfl
theorem exchangeInverse_j11:(Rows.exchangeInverseRow.recurses == Tryz.checked.prog.recurses 5)=true:=by kernel_rfl
theorem exchangeInverse_j12:(Rows.exchangeInverseRow.named == Tryz.checked.prog.varsNamed 5)=true:=by kernel_rfl
theorem exchangeInverse_j13:(Rows.exchangeInverseRow.maps == (Tryz.f5.params.toList++Rows.exchangeInverseSpec.plain.varTypes Tryz.checked.prog).any (Tryz.checked.prog.mapsRec ·))=true:=by kernel_rfl
theorem exchangeInverse_j14:(Rows.exchangeInverseRow.ifaces == (Tryz.f5.params.toList++Rows.exchangeInverseSpec.plain.varTypes Tryz.checked.prog).any (Tryz.checked.prog.ifacesRec ·))=true:=by kernel_rfl
theorem exchangeInverse_j15:(Rows.exchangeInverseRow.mapsOut == Tryz.checked.prog.mapsAmong Tryz.f5.resultTypes.toList)=true:=by kernel_rfl
theorem exchangeInverse_j16:(Rows.exchangeInverseRow.loops == (Tryz.f5.params.toList++Rows.exchangeInverseSpec.plain.varTypes Tryz.checked.prog).any (Tryz.checked.prog.loopsFrom ·))=true:=by kernel_rfl
theorem exchangeInverse_j17:(Rows.exchangeInverseRow.wideKeys == (Tryz.f5.params.toList++Rows.exchangeInverseSpec.plain.varTypes Tryz.checked.prog++Tryz.f5.resultTypes.toList).any (Tryz.checked.prog.wideKeysFrom ·))=true:=by kernel_rfl
theorem exchangeInverse_j18:Rows.exchangeInverseSpec.vars.all (Tryz.checked.prog.varReadable ·)=true:=by kernel_rfl
theorem exchangeInverse_j19:Tryz.f5.resultTypes.all (fun t=>Tryz.checked.prog.readableRec t && decide (t < Tryz.checked.prog.types.size))=true:=by kernel_rfl
theorem exchangeInverse_j20:(Rows.exchangeInverseRow.ifacesOut == Tryz.f5.resultTypes.toList.any (Tryz.checked.prog.ifacesRec ·))=true:=by kernel_rfl
theorem exchangeInverse_j21:(Rows.exchangeInverseRow.loopsOut == Tryz.f5.resultTypes.toList.any (Tryz.checked.prog.loopsFrom ·))=true:=by kernel_rfl
theorem exchangeInverse_j22:(Rows.exchangeInverseRow.plainKeys == Tryz.checked.prog.plainKeys)=true:=by kernel_rfl
theorem exchangeInverse_j23:Rows.exchangeInverseRow.shortTexts.isNone=true:=by kernel_rfl
theorem exchangeInverse_j26:(Rows.exchangeInverseRow.lifted == Tryz.checked.prog.liftsFinal)=true:=jfl
theorem exchangeInverse_j27:(Tryz.checked.prog.make == some Rows.exchangeInverseRow.make)=true:=by kernel_rfl
theorem exchangeInverse_j28:(Rows.exchangeInverseRow.kinds == (if Rows.exchangeInverseRow.domain.isEmpty then [] else Tryz.f5.params.toList.map fun t=>match Tryz.checked.prog.underlying t with | some (.int k)=>some k | _=>none))=true:=by kernel_rfl
theorem exchangeInverse_j29:(Rows.exchangeInverseRow.pinned == Rows.exchangeInverseRow.pinnedBy)=true:=by kernel_rfl
theorem exchangeInverse_j30:(Rows.exchangeInverseRow.veiled == (Tryz.f5.params.toList++Rows.exchangeInverseSpec.plain.varTypes Tryz.checked.prog++Tryz.f5.resultTypes.toList).any (Tryz.checked.prog.veiledRec ·))=true:=by kernel_rfl
theorem exchangeInverse_j31:Rows.exchangeInverseRow.veiledFits Tryz.checked.prog Tryz.f5.params.toList (Tryz.f5.params.toList++Rows.exchangeInverseSpec.plain.varTypes Tryz.checked.prog++Tryz.f5.resultTypes.toList)=true:=by kernel_rfl
theorem exchangeInverse_named:Tryz.checked.prog.funcNamed Rows.exchangeInverseRow.func=some 5:=by kernel_rfl
theorem exchangeInverse_inst:Tryz.f5.isInstance Tryz.checked.prog Rows.exchangeInverseRow.origin Rows.exchangeInverseRow.targs:=of_decide_eq_true (by kernel_rfl)
theorem exchangeInverse_wrap:Tryz.f5.isWrapper Tryz.checked.prog Rows.exchangeInverseRow.wrapper Rows.exchangeInverseRow.mainSum:=by unfold Func.isWrapper;first | (rw [if_pos (by decide +kernel)];kernel_rfl) | (rw [if_neg (by decide +kernel)];exact ⟨rfl,rfl⟩)
theorem exchangeInverse_holds:Rows.ExchangeInverseSaid :=
 OpenClaim.holds_of_wide 5 Tryz.f5 rfl rfl rfl rfl rfl rfl rfl ⟨rfl,rfl,rfl,rfl,rfl⟩ rfl rfl rfl rfl rfl exchangeInverse_named Tryz.func5 (joinedFacts_of exchangeInverse_j0 jf1 jf2 exchangeInverse_j3 exchangeInverse_j4 exchangeInverse_j5 jf6 exchangeInverse_j7 jf8 exchangeInverse_j9 exchangeInverse_j10 exchangeInverse_j11 exchangeInverse_j12 exchangeInverse_j13 exchangeInverse_j14 exchangeInverse_j15 exchangeInverse_j16 exchangeInverse_j17 exchangeInverse_j18 exchangeInverse_j19 exchangeInverse_j20 exchangeInverse_j21 exchangeInverse_j22 exchangeInverse_j23 jf24 jf25 exchangeInverse_j26 exchangeInverse_j27 exchangeInverse_j28 exchangeInverse_j29 exchangeInverse_j30 exchangeInverse_j31) exchangeInverse_inst exchangeInverse_wrap
  (fun os started H enc _=>exchangeInverse_lifted os started H enc)
end Go.Proofs.YtjkgmglmgndaoaaGreatDoor
