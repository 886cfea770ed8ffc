/- ExchangeExact: the row; no condition. -/
import Derived.Test.YtjkgmglmgndaoaaGreatDoorExchangeExactQ3
import Derived.Test.YtjkgmglmgndaoaaGreatDoorP3
set_option maxRecDepth 100000
set_option maxHeartbeats 4000000
namespace Go.Proofs.YtjkgmglmgndaoaaGreatDoor
open Go Go.RowKit Go.SX
open ChangeShapes WideShapes
theorem exchangeExact_j0:Rows.exchangeExactRow.wf (OpenSpec.ofChange Rows.exchangeExactSpec)=true:=by kernel_rfl
theorem exchangeExact_j3:Tryz.f3.params.all (Tryz.checked.prog.readableRec ·)=true:=by kernel_rfl
theorem exchangeExact_j4:namedTie Tryz.checked.prog Rows.exchangeExactRow.named Rows.exchangeExactSpec.vars=true:=by kernel_rfl
theorem exchangeExact_j5:(Rows.exchangeExactRow.stops == [])=true:=by kernel_rfl
theorem exchangeExact_j7:(Rows.exchangeExactRow.knobs == [])=true:=by kernel_rfl
theorem exchangeExact_j9:(Rows.exchangeExactRow.inPlace == Tryz.checked.prog.inPlace 3)=true:=by kernel_rfl
theorem exchangeExact_j10:(Rows.exchangeExactRow.unfollowed == Tryz.checked.prog.unfollowed 3)=true:=by kernel_rfl
theorem exchangeExact_j11:(Rows.exchangeExactRow.recurses == Tryz.checked.prog.recurses 3)=true:=by kernel_rfl
theorem exchangeExact_j12:(Rows.exchangeExactRow.named == Tryz.checked.prog.varsNamed 3)=true:=by kernel_rfl
theorem exchangeExact_j13:(Rows.exchangeExactRow.maps == (Tryz.f3.params.toList++Rows.exchangeExactSpec.plain.varTypes Tryz.checked.prog).any (Tryz.checked.prog.mapsRec ·))=true:=by kernel_rfl
theorem exchangeExact_j14:(Rows.exchangeExactRow.ifaces == (Tryz.f3.params.toList++Rows.exchangeExactSpec.plain.varTypes Tryz.checked.prog).any (Tryz.checked.prog.ifacesRec ·))=true:=by kernel_rfl
theorem exchangeExact_j15:(Rows.exchangeExactRow.mapsOut == Tryz.checked.prog.mapsAmong Tryz.f3.resultTypes.toList)=true:=by kernel_rfl
theorem exchangeExact_j16:(Rows.exchangeExactRow.loops == (Tryz.f3.params.toList++Rows.exchangeExactSpec.plain.varTypes Tryz.checked.prog).any (Tryz.checked.prog.loopsFrom ·))=true:=by kernel_rfl
theorem exchangeExact_j17:(Rows.exchangeExactRow.wideKeys == (Tryz.f3.params.toList++Rows.exchangeExactSpec.plain.varTypes Tryz.checked.prog++Tryz.f3.resultTypes.toList).any (Tryz.checked.prog.wideKeysFrom ·))=true:=by kernel_rfl
theorem exchangeExact_j18:Rows.exchangeExactSpec.vars.all (Tryz.checked.prog.varReadable ·)=true:=by kernel_rfl
theorem exchangeExact_j19:Tryz.f3.resultTypes.all (fun t=>Tryz.checked.prog.readableRec t && decide (t < Tryz.checked.prog.types.size))=true:=by kernel_rfl
theorem exchangeExact_j20:(Rows.exchangeExactRow.ifacesOut == Tryz.f3.resultTypes.toList.any (Tryz.checked.prog.ifacesRec ·))=true:=by kernel_rfl
theorem exchangeExact_j21:(Rows.exchangeExactRow.loopsOut == Tryz.f3.resultTypes.toList.any (Tryz.checked.prog.loopsFrom ·))=true:=by kernel_rfl
theorem exchangeExact_j22:(Rows.exchangeExactRow.plainKeys == Tryz.checked.prog.plainKeys)=true:=by kernel_rfl
theorem exchangeExact_j23:Rows.exchangeExactRow.shortTexts.isNone=true:=by kernel_rfl
theorem exchangeExact_j26:(Rows.exchangeExactRow.lifted == Tryz.checked.prog.liftsFinal)=true:=jfl
theorem exchangeExact_j27:(Tryz.checked.prog.make == some Rows.exchangeExactRow.make)=true:=by kernel_rfl
theorem exchangeExact_j28:(Rows.exchangeExactRow.kinds == (if Rows.exchangeExactRow.domain.isEmpty then [] else Tryz.f3.params.toList.map fun t=>match Tryz.checked.prog.underlying t with | some (.int k)=>some k | _=>none))=true:=by kernel_rfl
theorem exchangeExact_j29:(Rows.exchangeExactRow.pinned == Rows.exchangeExactRow.pinnedBy)=true:=by kernel_rfl
theorem exchangeExact_j30:(Rows.exchangeExactRow.veiled == (Tryz.f3.params.toList++Rows.exchangeExactSpec.plain.varTypes Tryz.checked.prog++Tryz.f3.resultTypes.toList).any (Tryz.checked.prog.veiledRec ·))=true:=by kernel_rfl
theorem exchangeExact_j31:Rows.exchangeExactRow.veiledFits Tryz.checked.prog Tryz.f3.params.toList (Tryz.f3.params.toList++Rows.exchangeExactSpec.plain.varTypes Tryz.checked.prog++Tryz.f3.resultTypes.toList)=true:=by kernel_rfl
theorem exchangeExact_named:Tryz.checked.prog.funcNamed Rows.exchangeExactRow.func=some 3:=by kernel_rfl
theorem exchangeExact_inst:Tryz.f3.isInstance Tryz.checked.prog Rows.exchangeExactRow.origin Rows.exchangeExactRow.targs:=of_decide_eq_true (by kernel_rfl)
theorem exchangeExact_wrap:Tryz.f3.isWrapper Tryz.checked.prog Rows.exchangeExactRow.wrapper Rows.exchangeExactRow.mainSum:=by unfold Func.isWrapper;first | (rw [if_pos (by decide +kernel)];kernel_rfl) | (rw [if_neg (by decide +kernel)];exact ⟨rfl,rfl⟩)
theorem exchangeExact_holds:Rows.ExchangeExactSaid :=
 OpenClaim.holds_of_wide 3 Tryz.f3 rfl rfl rfl rfl rfl rfl rfl ⟨rfl,rfl,rfl,rfl,rfl⟩ rfl rfl rfl rfl rfl exchangeExact_named Tryz.func3 (joinedFacts_of exchangeExact_j0 jf1 jf2 exchangeExact_j3 exchangeExact_j4 exchangeExact_j5 jf6 exchangeExact_j7 jf8 exchangeExact_j9 exchangeExact_j10 exchangeExact_j11 exchangeExact_j12 exchangeExact_j13 exchangeExact_j14 exchangeExact_j15 exchangeExact_j16 exchangeExact_j17 exchangeExact_j18 exchangeExact_j19 exchangeExact_j20 exchangeExact_j21 exchangeExact_j22 exchangeExact_j23 jf24 jf25 exchangeExact_j26 exchangeExact_j27 exchangeExact_j28 exchangeExact_j29 exchangeExact_j30 exchangeExact_j31) exchangeExact_inst exchangeExact_wrap
  (fun os started H enc _=>exchangeExact_lifted os started H enc)
end Go.Proofs.YtjkgmglmgndaoaaGreatDoor
