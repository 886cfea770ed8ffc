/- PositionCorrects: the row; no condition. -/
import Derived.Test.YtekfkdddadcalaaGreatDoorPositionCorrectsQ3
import Derived.Test.YtekfkdddadcalaaGreatDoorP3
set_option maxRecDepth 100000
set_option maxHeartbeats 4000000
namespace Go.Proofs.YtekfkdddadcalaaGreatDoor
open Go Go.RowKit Go.SX
open ChangeShapes WideShapes
theorem positionCorrects_j0:Rows.positionCorrectsRow.wf (OpenSpec.ofChange Rows.positionCorrectsSpec)=true:=by kernel_rfl
theorem positionCorrects_j3:Tryz.f8.params.all (Tryz.checked.prog.readableRec ·)=true:=by kernel_rfl
theorem positionCorrects_j4:namedTie Tryz.checked.prog Rows.positionCorrectsRow.named Rows.positionCorrectsSpec.vars=true:=by kernel_rfl
theorem positionCorrects_j5:(Rows.positionCorrectsRow.stops == [])=true:=by kernel_rfl
theorem positionCorrects_j7:(Rows.positionCorrectsRow.knobs == [])=true:=by kernel_rfl
theorem positionCorrects_j9:(Rows.positionCorrectsRow.inPlace == Tryz.checked.prog.inPlace 8)=true:=by kernel_rfl
theorem positionCorrects_j10:(Rows.positionCorrectsRow.unfollowed == Tryz.checked.prog.unfollowed 8)=true:=by kernel_rfl
theorem positionCorrects_j11:(Rows.positionCorrectsRow.recurses == Tryz.checked.prog.recurses 8)=true:=by kernel_rfl
theorem positionCorrects_j12:(Rows.positionCorrectsRow.named == Tryz.checked.prog.varsNamed 8)=true:=by kernel_rfl
theorem positionCorrects_j13:(Rows.positionCorrectsRow.maps == (Tryz.f8.params.toList++Rows.positionCorrectsSpec.plain.varTypes Tryz.checked.prog).any (Tryz.checked.prog.mapsRec ·))=true:=by kernel_rfl
theorem positionCorrects_j14:(Rows.positionCorrectsRow.ifaces == (Tryz.f8.params.toList++Rows.positionCorrectsSpec.plain.varTypes Tryz.checked.prog).any (Tryz.checked.prog.ifacesRec ·))=true:=by kernel_rfl
theorem positionCorrects_j15:(Rows.positionCorrectsRow.mapsOut == Tryz.checked.prog.mapsAmong Tryz.f8.resultTypes.toList)=true:=by kernel_rfl
theorem positionCorrects_j16:(Rows.positionCorrectsRow.loops == (Tryz.f8.params.toList++Rows.positionCorrectsSpec.plain.varTypes Tryz.checked.prog).any (Tryz.checked.prog.loopsFrom ·))=true:=by kernel_rfl
theorem positionCorrects_j17:(Rows.positionCorrectsRow.wideKeys == (Tryz.f8.params.toList++Rows.positionCorrectsSpec.plain.varTypes Tryz.checked.prog++Tryz.f8.resultTypes.toList).any (Tryz.checked.prog.wideKeysFrom ·))=true:=by kernel_rfl
theorem positionCorrects_j18:Rows.positionCorrectsSpec.vars.all (Tryz.checked.prog.varReadable ·)=true:=by kernel_rfl
theorem positionCorrects_j19:Tryz.f8.resultTypes.all (fun t=>Tryz.checked.prog.readableRec t && decide (t < Tryz.checked.prog.types.size))=true:=by kernel_rfl
theorem positionCorrects_j20:(Rows.positionCorrectsRow.ifacesOut == Tryz.f8.resultTypes.toList.any (Tryz.checked.prog.ifacesRec ·))=true:=by kernel_rfl
theorem positionCorrects_j21:(Rows.positionCorrectsRow.loopsOut == Tryz.f8.resultTypes.toList.any (Tryz.checked.prog.loopsFrom ·))=true:=by kernel_rfl
theorem positionCorrects_j22:(Rows.positionCorrectsRow.plainKeys == Tryz.checked.prog.plainKeys)=true:=by kernel_rfl
theorem positionCorrects_j23:Rows.positionCorrectsRow.shortTexts.isNone=true:=by kernel_rfl
theorem positionCorrects_j26:(Rows.positionCorrectsRow.lifted == Tryz.checked.prog.liftsFinal)=true:=jfl
theorem positionCorrects_j27:(Tryz.checked.prog.make == some Rows.positionCorrectsRow.make)=true:=by kernel_rfl
theorem positionCorrects_j28:(Rows.positionCorrectsRow.kinds == (if Rows.positionCorrectsRow.domain.isEmpty then [] else Tryz.f8.params.toList.map fun t=>match Tryz.checked.prog.underlying t with | some (.int k)=>some k | _=>none))=true:=by kernel_rfl
theorem positionCorrects_j29:(Rows.positionCorrectsRow.pinned == Rows.positionCorrectsRow.pinnedBy)=true:=by kernel_rfl
theorem positionCorrects_j30:(Rows.positionCorrectsRow.veiled == (Tryz.f8.params.toList++Rows.positionCorrectsSpec.plain.varTypes Tryz.checked.prog++Tryz.f8.resultTypes.toList).any (Tryz.checked.prog.veiledRec ·))=true:=by kernel_rfl
theorem positionCorrects_j31:Rows.positionCorrectsRow.veiledFits Tryz.checked.prog Tryz.f8.params.toList (Tryz.f8.params.toList++Rows.positionCorrectsSpec.plain.varTypes Tryz.checked.prog++Tryz.f8.resultTypes.toList)=true:=by kernel_rfl
theorem positionCorrects_named:Tryz.checked.prog.funcNamed Rows.positionCorrectsRow.func=some 8:=by kernel_rfl
theorem positionCorrects_inst:Tryz.f8.isInstance Tryz.checked.prog Rows.positionCorrectsRow.origin Rows.positionCorrectsRow.targs:=of_decide_eq_true (by kernel_rfl)
theorem positionCorrects_wrap:Tryz.f8.isWrapper Tryz.checked.prog Rows.positionCorrectsRow.wrapper Rows.positionCorrectsRow.mainSum:=by unfold Func.isWrapper;first | (rw [if_pos (by decide +kernel)];kernel_rfl) | (rw [if_neg (by decide +kernel)];exact ⟨rfl,rfl⟩)
theorem positionCorrects_holds:Rows.PositionCorrectsSaid :=
 OpenClaim.holds_of_wide 8 Tryz.f8 rfl rfl rfl rfl rfl rfl rfl ⟨rfl,rfl,rfl,rfl,rfl⟩ rfl rfl rfl rfl rfl positionCorrects_named Tryz.func8 (joinedFacts_of positionCorrects_j0 jf1 jf2 positionCorrects_j3 positionCorrects_j4 positionCorrects_j5 jf6 positionCorrects_j7 jf8 positionCorrects_j9 positionCorrects_j10 positionCorrects_j11 positionCorrects_j12 positionCorrects_j13 positionCorrects_j14 positionCorrects_j15 positionCorrects_j16 positionCorrects_j17 positionCorrects_j18 positionCorrects_j19 positionCorrects_j20 positionCorrects_j21 positionCorrects_j22 positionCorrects_j23 jf24 jf25 positionCorrects_j26 positionCorrects_j27 positionCorrects_j28 positionCorrects_j29 positionCorrects_j30 positionCorrects_j31) positionCorrects_inst positionCorrects_wrap
  (fun os started H enc _=>positionCorrects_lifted os started H enc)
end Go.Proofs.YtekfkdddadcalaaGreatDoor
