/- ExchangeConverts: the row; no condition. -/
import Derived.Test.YtjkgmglmgndaoaaGreatDoorExchangeConvertsQ1
import Derived.Test.YtjkgmglmgndaoaaGreatDoorP3
set_option maxRecDepth 100000
set_option maxHeartbeats 4000000
namespace Go.Proofs.YtjkgmglmgndaoaaGreatDoor
open Go Go.RowKit Go.SX
open ChangeShapes WideShapes
theorem exchangeConverts_j0:Rows.exchangeConvertsRow.wf (OpenSpec.ofChange Rows.exchangeConvertsSpec)=true:=by kernel_rfl
theorem exchangeConverts_j3:Tryz.f9.params.all (Tryz.checked.prog.readableRec ·)=true:=by kernel_rfl
theorem exchangeConverts_j4:namedTie Tryz.checked.prog Rows.exchangeConvertsRow.named Rows.exchangeConvertsSpec.vars=true:=by kernel_rfl
theorem exchangeConverts_j5:(Rows.exchangeConvertsRow.stops == [])=true:=by kernel_rfl
theorem exchangeConverts_j7:(Rows.exchangeConvertsRow.knobs == [])=true:=by kernel_rfl
theorem exchangeConverts_j9:(Rows.exchangeConvertsRow.inPlace == Tryz.checked.prog.inPlace 9)=true:=by kernel_rfl
theorem exchangeConverts_j10:(Rows.exchangeConvertsRow.unfollowed == Tryz.checked.prog.unfollowed 9)=true:=by kernel_rfl
theorem exchangeConverts_j11:(Rows.exchangeConvertsRow.recurses == Tryz.checked.prog.recurses 9)=true:=by kernel_rfl
theorem exchangeConverts_j12:(Rows.exchangeConvertsRow.named == Tryz.checked.prog.varsNamed 9)=true:=by kernel_rfl
theorem exchangeConverts_j13:(Rows.exchangeConvertsRow.maps == (Tryz.f9.params.toList++Rows.exchangeConvertsSpec.plain.varTypes Tryz.checked.prog).any (Tryz.checked.prog.mapsRec ·))=true:=by kernel_rfl
theorem exchangeConverts_j14:(Rows.exchangeConvertsRow.ifaces == (Tryz.f9.params.toList++Rows.exchangeConvertsSpec.plain.varTypes Tryz.checked.prog).any (Tryz.checked.prog.ifacesRec ·))=true:=by kernel_rfl
theorem exchangeConverts_j15:(Rows.exchangeConvertsRow.mapsOut == Tryz.checked.prog.mapsAmong Tryz.f9.resultTypes.toList)=true:=by kernel_rfl
theorem exchangeConverts_j16:(Rows.exchangeConvertsRow.loops == (Tryz.f9.params.toList++Rows.exchangeConvertsSpec.plain.varTypes Tryz.checked.prog).any (Tryz.checked.prog.loopsFrom ·))=true:=by kernel_rfl
theorem exchangeConverts_j17:(Rows.exchangeConvertsRow.wideKeys == (Tryz.f9.params.toList++Rows.exchangeConvertsSpec.plain.varTypes Tryz.checked.prog++Tryz.f9.resultTypes.toList).any (Tryz.checked.prog.wideKeysFrom ·))=true:=by kernel_rfl
theorem exchangeConverts_j18:Rows.exchangeConvertsSpec.vars.all (Tryz.checked.prog.varReadable ·)=true:=by kernel_rfl
theorem exchangeConverts_j19:Tryz.f9.resultTypes.all (fun t=>Tryz.checked.prog.readableRec t && decide (t < Tryz.checked.prog.types.size))=true:=by kernel_rfl
theorem exchangeConverts_j20:(Rows.exchangeConvertsRow.ifacesOut == Tryz.f9.resultTypes.toList.any (Tryz.checked.prog.ifacesRec ·))=true:=by kernel_rfl
theorem exchangeConverts_j21:(Rows.exchangeConvertsRow.loopsOut == Tryz.f9.resultTypes.toList.any (Tryz.checked.prog.loopsFrom ·))=true:=by kernel_rfl
theorem exchangeConverts_j22:(Rows.exchangeConvertsRow.plainKeys == Tryz.checked.prog.plainKeys)=true:=by kernel_rfl
theorem exchangeConverts_j23:Rows.exchangeConvertsRow.shortTexts.isNone=true:=by kernel_rfl
theorem exchangeConverts_j26:(Rows.exchangeConvertsRow.lifted == Tryz.checked.prog.liftsFinal)=true:=jfl
theorem exchangeConverts_j27:(Tryz.checked.prog.make == some Rows.exchangeConvertsRow.make)=true:=by kernel_rfl
theorem exchangeConverts_j28:(Rows.exchangeConvertsRow.kinds == (if Rows.exchangeConvertsRow.domain.isEmpty then [] else Tryz.f9.params.toList.map fun t=>match Tryz.checked.prog.underlying t with | some (.int k)=>some k | _=>none))=true:=by kernel_rfl
theorem exchangeConverts_j29:(Rows.exchangeConvertsRow.pinned == Rows.exchangeConvertsRow.pinnedBy)=true:=by kernel_rfl
theorem exchangeConverts_j30:(Rows.exchangeConvertsRow.veiled == (Tryz.f9.params.toList++Rows.exchangeConvertsSpec.plain.varTypes Tryz.checked.prog++Tryz.f9.resultTypes.toList).any (Tryz.checked.prog.veiledRec ·))=true:=by kernel_rfl
theorem exchangeConverts_j31:Rows.exchangeConvertsRow.veiledFits Tryz.checked.prog Tryz.f9.params.toList (Tryz.f9.params.toList++Rows.exchangeConvertsSpec.plain.varTypes Tryz.checked.prog++Tryz.f9.resultTypes.toList)=true:=by kernel_rfl
theorem exchangeConverts_named:Tryz.checked.prog.funcNamed Rows.exchangeConvertsRow.func=some 9:=by kernel_rfl
theorem exchangeConverts_inst:Tryz.f9.isInstance Tryz.checked.prog Rows.exchangeConvertsRow.origin Rows.exchangeConvertsRow.targs:=of_decide_eq_true (by kernel_rfl)
theorem exchangeConverts_wrap:Tryz.f9.isWrapper Tryz.checked.prog Rows.exchangeConvertsRow.wrapper Rows.exchangeConvertsRow.mainSum:=by unfold Func.isWrapper;first | (rw [if_pos (by decide +kernel)];kernel_rfl) | (rw [if_neg (by decide +kernel)];exact ⟨rfl,rfl⟩)
theorem exchangeConverts_holds:Rows.ExchangeConvertsSaid :=
 OpenClaim.holds_of_wide 9 Tryz.f9 rfl rfl rfl rfl rfl rfl rfl ⟨rfl,rfl,rfl,rfl,rfl⟩ rfl rfl rfl rfl rfl exchangeConverts_named Tryz.func9 (joinedFacts_of exchangeConverts_j0 jf1 jf2 exchangeConverts_j3 exchangeConverts_j4 exchangeConverts_j5 jf6 exchangeConverts_j7 jf8 exchangeConverts_j9 exchangeConverts_j10 exchangeConverts_j11 exchangeConverts_j12 exchangeConverts_j13 exchangeConverts_j14 exchangeConverts_j15 exchangeConverts_j16 exchangeConverts_j17 exchangeConverts_j18 exchangeConverts_j19 exchangeConverts_j20 exchangeConverts_j21 exchangeConverts_j22 exchangeConverts_j23 jf24 jf25 exchangeConverts_j26 exchangeConverts_j27 exchangeConverts_j28 exchangeConverts_j29 exchangeConverts_j30 exchangeConverts_j31) exchangeConverts_inst exchangeConverts_wrap
  (fun os started H enc _=>exchangeConverts_lifted os started H enc)
end Go.Proofs.YtjkgmglmgndaoaaGreatDoor
