/- ExchangePlays: the row; no condition. -/
import Derived.Test.YtjkgmglmgndaoaaGreatDoorExchangePlaysQ1
import Derived.Test.YtjkgmglmgndaoaaGreatDoorP3
set_option maxRecDepth 100000
set_option maxHeartbeats 4000000
namespace Go.Proofs.YtjkgmglmgndaoaaGreatDoor
open Go Go.RowKit Go.SX
open ChangeShapes WideShapes
theorem exchangePlays_j0:Rows.exchangePlaysRow.wf (OpenSpec.ofChange Rows.exchangePlaysSpec)=true:=by kernel_rfl
theorem exchangePlays_j3:Tryz.f4.params.all (Tryz.checked.prog.readableRec ·)=true:=by kernel_rfl
theorem exchangePlays_j4:namedTie Tryz.checked.prog Rows.exchangePlaysRow.named Rows.exchangePlaysSpec.vars=true:=by kernel_rfl
theorem exchangePlays_j5:(Rows.exchangePlaysRow.stops == [])=true:=by kernel_rfl
theorem exchangePlays_j7:(Rows.exchangePlaysRow.knobs == [])=true:=by kernel_rfl
theorem exchangePlays_j9:(Rows.exchangePlaysRow.inPlace == Tryz.checked.prog.inPlace 4)=true:=by kernel_rfl
theorem exchangePlays_j10:(Rows.exchangePlaysRow.unfollowed == Tryz.checked.prog.unfollowed 4)=true:=by kernel_rfl
theorem exchangePlays_j11:(Rows.exchangePlaysRow.recurses == Tryz.checked.prog.recurses 4)=true:=by kernel_rfl
theorem exchangePlays_j12:(Rows.exchangePlaysRow.named == Tryz.checked.prog.varsNamed 4)=true:=by kernel_rfl
theorem exchangePlays_j13:(Rows.exchangePlaysRow.maps == (Tryz.f4.params.toList++Rows.exchangePlaysSpec.plain.varTypes Tryz.checked.prog).any (Tryz.checked.prog.mapsRec ·))=true:=by kernel_rfl
theorem exchangePlays_j14:(Rows.exchangePlaysRow.ifaces == (Tryz.f4.params.toList++Rows.exchangePlaysSpec.plain.varTypes Tryz.checked.prog).any (Tryz.checked.prog.ifacesRec ·))=true:=by kernel_rfl
theorem exchangePlays_j15:(Rows.exchangePlaysRow.mapsOut == Tryz.checked.prog.mapsAmong Tryz.f4.resultTypes.toList)=true:=by kernel_rfl
theorem exchangePlays_j16:(Rows.exchangePlaysRow.loops == (Tryz.f4.params.toList++Rows.exchangePlaysSpec.plain.varTypes Tryz.checked.prog).any (Tryz.checked.prog.loopsFrom ·))=true:=by kernel_rfl
theorem exchangePlays_j17:(Rows.exchangePlaysRow.wideKeys == (Tryz.f4.params.toList++Rows.exchangePlaysSpec.plain.varTypes Tryz.checked.prog++Tryz.f4.resultTypes.toList).any (Tryz.checked.prog.wideKeysFrom ·))=true:=by kernel_rfl
theorem exchangePlays_j18:Rows.exchangePlaysSpec.vars.all (Tryz.checked.prog.varReadable ·)=true:=by kernel_rfl
theorem exchangePlays_j19:Tryz.f4.resultTypes.all (fun t=>Tryz.checked.prog.readableRec t && decide (t < Tryz.checked.prog.types.size))=true:=by kernel_rfl
theorem exchangePlays_j20:(Rows.exchangePlaysRow.ifacesOut == Tryz.f4.resultTypes.toList.any (Tryz.checked.prog.ifacesRec ·))=true:=by kernel_rfl
theorem exchangePlays_j21:(Rows.exchangePlaysRow.loopsOut == Tryz.f4.resultTypes.toList.any (Tryz.checked.prog.loopsFrom ·))=true:=by kernel_rfl
theorem exchangePlays_j22:(Rows.exchangePlaysRow.plainKeys == Tryz.checked.prog.plainKeys)=true:=by kernel_rfl
theorem exchangePlays_j23:Rows.exchangePlaysRow.shortTexts.isNone=true:=by kernel_rfl
theorem exchangePlays_j26:(Rows.exchangePlaysRow.lifted == Tryz.checked.prog.liftsFinal)=true:=jfl
theorem exchangePlays_j27:(Tryz.checked.prog.make == some Rows.exchangePlaysRow.make)=true:=by kernel_rfl
theorem exchangePlays_j28:(Rows.exchangePlaysRow.kinds == (if Rows.exchangePlaysRow.domain.isEmpty then [] else Tryz.f4.params.toList.map fun t=>match Tryz.checked.prog.underlying t with | some (.int k)=>some k | _=>none))=true:=by kernel_rfl
theorem exchangePlays_j29:(Rows.exchangePlaysRow.pinned == Rows.exchangePlaysRow.pinnedBy)=true:=by kernel_rfl
theorem exchangePlays_j30:(Rows.exchangePlaysRow.veiled == (Tryz.f4.params.toList++Rows.exchangePlaysSpec.plain.varTypes Tryz.checked.prog++Tryz.f4.resultTypes.toList).any (Tryz.checked.prog.veiledRec ·))=true:=by kernel_rfl
theorem exchangePlays_j31:Rows.exchangePlaysRow.veiledFits Tryz.checked.prog Tryz.f4.params.toList (Tryz.f4.params.toList++Rows.exchangePlaysSpec.plain.varTypes Tryz.checked.prog++Tryz.f4.resultTypes.toList)=true:=by kernel_rfl
theorem exchangePlays_named:Tryz.checked.prog.funcNamed Rows.exchangePlaysRow.func=some 4:=by kernel_rfl
theorem exchangePlays_inst:Tryz.f4.isInstance Tryz.checked.prog Rows.exchangePlaysRow.origin Rows.exchangePlaysRow.targs:=of_decide_eq_true (by kernel_rfl)
theorem exchangePlays_wrap:Tryz.f4.isWrapper Tryz.checked.prog Rows.exchangePlaysRow.wrapper Rows.exchangePlaysRow.mainSum:=by unfold Func.isWrapper;first | (rw [if_pos (by decide +kernel)];kernel_rfl) | (rw [if_neg (by decide +kernel)];exact ⟨rfl,rfl⟩)
theorem exchangePlays_holds:Rows.ExchangePlaysSaid :=
 OpenClaim.holds_of_wide 4 Tryz.f4 rfl rfl rfl rfl rfl rfl rfl ⟨rfl,rfl,rfl,rfl,rfl⟩ rfl rfl rfl rfl rfl exchangePlays_named Tryz.func4 (joinedFacts_of exchangePlays_j0 jf1 jf2 exchangePlays_j3 exchangePlays_j4 exchangePlays_j5 jf6 exchangePlays_j7 jf8 exchangePlays_j9 exchangePlays_j10 exchangePlays_j11 exchangePlays_j12 exchangePlays_j13 exchangePlays_j14 exchangePlays_j15 exchangePlays_j16 exchangePlays_j17 exchangePlays_j18 exchangePlays_j19 exchangePlays_j20 exchangePlays_j21 exchangePlays_j22 exchangePlays_j23 jf24 jf25 exchangePlays_j26 exchangePlays_j27 exchangePlays_j28 exchangePlays_j29 exchangePlays_j30 exchangePlays_j31) exchangePlays_inst exchangePlays_wrap
  (fun os started H enc _=>exchangePlays_lifted os started H enc)
end Go.Proofs.YtjkgmglmgndaoaaGreatDoor
