/- ExchangeAmounts: the row; no condition. -/
import Derived.Test.YtjkgmglmgndaoaaGreatDoorExchangeAmountsQ2
import Derived.Test.YtjkgmglmgndaoaaGreatDoorP3
set_option maxRecDepth 100000
set_option maxHeartbeats 4000000
namespace Go.Proofs.YtjkgmglmgndaoaaGreatDoor
open Go Go.RowKit Go.SX
open ChangeShapes WideShapes
theorem exchangeAmounts_j0:Rows.exchangeAmountsRow.wf (OpenSpec.ofChange Rows.exchangeAmountsSpec)=true:=by kernel_rfl
theorem exchangeAmounts_j3:Tryz.f10.params.all (Tryz.checked.prog.readableRec ·)=true:=by kernel_rfl
theorem exchangeAmounts_j4:namedTie Tryz.checked.prog Rows.exchangeAmountsRow.named Rows.exchangeAmountsSpec.vars=true:=by kernel_rfl
theorem exchangeAmounts_j5:(Rows.exchangeAmountsRow.stops == [])=true:=by kernel_rfl
theorem exchangeAmounts_j7:(Rows.exchangeAmountsRow.knobs == [])=true:=by kernel_rfl
theorem exchangeAmounts_j9:(Rows.exchangeAmountsRow.inPlace == Tryz.checked.prog.inPlace 10)=true:=by kernel_rfl
theorem exchangeAmounts_j10:(Rows.exchangeAmountsRow.unfollowed == Tryz.checked.prog.unfollowed 10)=true:=by kernel_rfl
theorem exchangeAmounts_j11:(Rows.exchangeAmountsRow.recurses == Tryz.checked.prog.recurses 10)=true:=by kernel_rfl
theorem exchangeAmounts_j12:(Rows.exchangeAmountsRow.named == Tryz.checked.prog.varsNamed 10)=true:=by kernel_rfl
theorem exchangeAmounts_j13:(Rows.exchangeAmountsRow.maps == (Tryz.f10.params.toList++Rows.exchangeAmountsSpec.plain.varTypes Tryz.checked.prog).any (Tryz.checked.prog.mapsRec ·))=true:=by kernel_rfl
theorem exchangeAmounts_j14:(Rows.exchangeAmountsRow.ifaces == (Tryz.f10.params.toList++Rows.exchangeAmountsSpec.plain.varTypes Tryz.checked.prog).any (Tryz.checked.prog.ifacesRec ·))=true:=by kernel_rfl
theorem exchangeAmounts_j15:(Rows.exchangeAmountsRow.mapsOut == Tryz.checked.prog.mapsAmong Tryz.f10.resultTypes.toList)=true:=by kernel_rfl
theorem exchangeAmounts_j16:(Rows.exchangeAmountsRow.loops == (Tryz.f10.params.toList++Rows.exchangeAmountsSpec.plain.varTypes Tryz.checked.prog).any (Tryz.checked.prog.loopsFrom ·))=true:=by kernel_rfl
theorem exchangeAmounts_j17:(Rows.exchangeAmountsRow.wideKeys == (Tryz.f10.params.toList++Rows.exchangeAmountsSpec.plain.varTypes Tryz.checked.prog++Tryz.f10.resultTypes.toList).any (Tryz.checked.prog.wideKeysFrom ·))=true:=by kernel_rfl
theorem exchangeAmounts_j18:Rows.exchangeAmountsSpec.vars.all (Tryz.checked.prog.varReadable ·)=true:=by kernel_rfl
theorem exchangeAmounts_j19:Tryz.f10.resultTypes.all (fun t=>Tryz.checked.prog.readableRec t && decide (t < Tryz.checked.prog.types.size))=true:=by kernel_rfl
theorem exchangeAmounts_j20:(Rows.exchangeAmountsRow.ifacesOut == Tryz.f10.resultTypes.toList.any (Tryz.checked.prog.ifacesRec ·))=true:=by kernel_rfl
theorem exchangeAmounts_j21:(Rows.exchangeAmountsRow.loopsOut == Tryz.f10.resultTypes.toList.any (Tryz.checked.prog.loopsFrom ·))=true:=by kernel_rfl
theorem exchangeAmounts_j22:(Rows.exchangeAmountsRow.plainKeys == Tryz.checked.prog.plainKeys)=true:=by kernel_rfl
theorem exchangeAmounts_j23:Rows.exchangeAmountsRow.shortTexts.isNone=true:=by kernel_rfl
theorem exchangeAmounts_j26:(Rows.exchangeAmountsRow.lifted == Tryz.checked.prog.liftsFinal)=true:=jfl
theorem exchangeAmounts_j27:(Tryz.checked.prog.make == some Rows.exchangeAmountsRow.make)=true:=by kernel_rfl
theorem exchangeAmounts_j28:(Rows.exchangeAmountsRow.kinds == (if Rows.exchangeAmountsRow.domain.isEmpty then [] else Tryz.f10.params.toList.map fun t=>match Tryz.checked.prog.underlying t with | some (.int k)=>some k | _=>none))=true:=by kernel_rfl
theorem exchangeAmounts_j29:(Rows.exchangeAmountsRow.pinned == Rows.exchangeAmountsRow.pinnedBy)=true:=by kernel_rfl
theorem exchangeAmounts_j30:(Rows.exchangeAmountsRow.veiled == (Tryz.f10.params.toList++Rows.exchangeAmountsSpec.plain.varTypes Tryz.checked.prog++Tryz.f10.resultTypes.toList).any (Tryz.checked.prog.veiledRec ·))=true:=by kernel_rfl
theorem exchangeAmounts_j31:Rows.exchangeAmountsRow.veiledFits Tryz.checked.prog Tryz.f10.params.toList (Tryz.f10.params.toList++Rows.exchangeAmountsSpec.plain.varTypes Tryz.checked.prog++Tryz.f10.resultTypes.toList)=true:=by kernel_rfl
theorem exchangeAmounts_named:Tryz.checked.prog.funcNamed Rows.exchangeAmountsRow.func=some 10:=by kernel_rfl
theorem exchangeAmounts_inst:Tryz.f10.isInstance Tryz.checked.prog Rows.exchangeAmountsRow.origin Rows.exchangeAmountsRow.targs:=of_decide_eq_true (by kernel_rfl)
theorem exchangeAmounts_wrap:Tryz.f10.isWrapper Tryz.checked.prog Rows.exchangeAmountsRow.wrapper Rows.exchangeAmountsRow.mainSum:=by unfold Func.isWrapper;first | (rw [if_pos (by decide +kernel)];kernel_rfl) | (rw [if_neg (by decide +kernel)];exact ⟨rfl,rfl⟩)
theorem exchangeAmounts_holds:Rows.ExchangeAmountsSaid :=
 OpenClaim.holds_of_wide 10 Tryz.f10 rfl rfl rfl rfl rfl rfl rfl ⟨rfl,rfl,rfl,rfl,rfl⟩ rfl rfl rfl rfl rfl exchangeAmounts_named Tryz.func10 (joinedFacts_of exchangeAmounts_j0 jf1 jf2 exchangeAmounts_j3 exchangeAmounts_j4 exchangeAmounts_j5 jf6 exchangeAmounts_j7 jf8 exchangeAmounts_j9 exchangeAmounts_j10 exchangeAmounts_j11 exchangeAmounts_j12 exchangeAmounts_j13 exchangeAmounts_j14 exchangeAmounts_j15 exchangeAmounts_j16 exchangeAmounts_j17 exchangeAmounts_j18 exchangeAmounts_j19 exchangeAmounts_j20 exchangeAmounts_j21 exchangeAmounts_j22 exchangeAmounts_j23 jf24 jf25 exchangeAmounts_j26 exchangeAmounts_j27 exchangeAmounts_j28 exchangeAmounts_j29 exchangeAmounts_j30 exchangeAmounts_j31) exchangeAmounts_inst exchangeAmounts_wrap
  (fun os started H enc _=>exchangeAmounts_lifted os started H enc)
end Go.Proofs.YtjkgmglmgndaoaaGreatDoor
