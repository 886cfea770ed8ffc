/- what came in: quotes and policies. made quotes. made books and policies. made books and policies. the law SelectorPlays, walk. the law SelectorSpoilt, walk; no condition. -/
import Derived.Test.YtinojijgeabfnaaGreatDoorP30
import Derived.Test.YtinojijgeabfnaaGreatDoorP21
import Derived.Test.YtinojijgeabfnaaGreatDoorP12
import Derived.Test.YtinojijgeabfnaaGreatDoorP23
import Derived.Test.YtinojijgeabfnaaGreatDoorP7
namespace Go.Proofs.YtinojijgeabfnaaGreatDoor
open Go Go.RowKit Go.SX
open ChangeShapes WideShapes
instance : Inhabited QC := ⟨noQ⟩
end Go.Proofs.YtinojijgeabfnaaGreatDoor
namespace Go.Proofs.YtinojijgeabfnaaGreatDoor
open Go Go.RowKit Go.SX
def papers : List (List UInt8) := [[65, 67, 77, 69], [66, 79, 78, 68], [71, 79, 76, 68], [88, 49], [69, 85, 82, 85, 83, 68], [85, 83, 68, 71, 66, 80]]
def usdgbp : List UInt8 := [85, 83, 68, 71, 66, 80]
def eurusd : List UInt8 := [69, 85, 82, 85, 83, 68]
set_option smartUnfolding false in
set_option maxRecDepth 100000 in
theorem paper_g : Gen 23 [] 1 (RS (· ∈ papers)) := by
  intro zs k hk
  obtain ⟨r1, k1, a1, b1, ⟨l, rfl, c1⟩, O1⟩ := one_g (xs := papers) (by decide) (by decide) zs k (by omega)
  refine ⟨_, k1, by omega, by omega, ⟨l, rfl, c1⟩, fun E v d hE hv => ?_⟩
  refine sx_ownT1 [] tt_ok mixed at23 E hE d (48, 2, tb v k, tb v k1) [SV.ptr 1000 0] _ rfl rfl fun w b hT => ?_
  have hv := hv.of_old hE.symm hT
  exact ⟨by decide, by decide, strs papers, by kernel_rfl, rfl, .inr ⟨_, _, _, O1 _ v 1000 4 (by decide) rfl hv, ⟨rfl, rfl, trivial⟩, rfl, rfl, rfl, trivial⟩⟩
theorem run_max_ct {P : Program} {ats : Array TypeId} {ty : TypeId} {cs : Array Bool} (x y : Int) (w : World) : (builtin .max ats ty cs #[.int .i64 x, .int .i64 y]).run P w = .ok (.value (.int .i64 (max x y))) w := by
  simp [builtin, Go.Lib.run_max_ints]
theorem QC.set2 (a : QC) (l : List UInt8) : a.A.setIfInBounds (0 + 2) (.string (S l)) = ({ a with cur := l } : QC).A := by kernel_rfl
theorem QC.set71 (a : QC) (b : Bool) : a.A.setIfInBounds (0 + 71) (.bool b) = ({ a with void := b } : QC).A := by kernel_rfl
theorem QC.setpri (a : QC) (r : RQ) : splice a.A (0 + 4) r.A.toList = ({ a with price := r } : QC).A := by kernel_rfl
theorem fill_q (src ins : List UInt8) (day known : Int) (r : RQ) {pl : List (Nat × Nat)} (hpl : pl = [(0, 1), (1, 1), (2, 1), (3, 1), (4, 66), (70, 1), (71, 1)]) : Instr.fill (fun k => pl[k]?) ti40.zero [(0, .string (S src)), (1, .string (S ins)), (2, .string (S [85, 83, 68])), (3, .int .i64 day), (4, .agg r.A), (5, .int .i64 known)] = some (QC.A ⟨src, ins, [85, 83, 68], day, r, known, false⟩) := by
  subst hpl
  kernel_rfl
/-- a quote that is made -/
def isQuote (day known : Int) (q : QC) : Prop := q.src ∈ src4 ∧ q.ins ∈ papers ∧ q.cur ∈ ([[85, 83, 68], [69, 85, 82], [71, 66, 80]] : List (List UInt8)) ∧ (0 ≤ q.day ∧ (q.day ≤ day ∨ q.day = 0)) ∧ q.known = known ∧ ((q.void = false ∧ isPrice q.price) ∨ (q.void = true ∧ q.price = zeroQ))
def RQt (P : QC → Prop) (r : Value) : Prop := ∃ q : QC, r = .agg q.A ∧ P q
theorem zeroQ_fits : Fits zeroQ.A 66 := zeroQ.A_fits
set_option smartUnfolding false in
set_option maxRecDepth 100000 in
theorem code_c : Gen 70 [] 1 (RS (· ∈ ([[85, 83, 68], [69, 85, 82], [71, 66, 80]] : List (List UInt8)))) := by
  intro zs k hk
  obtain ⟨r1, k1, a1, b1, ⟨l, rfl, c1⟩, O1⟩ := one_g (xs := [[85, 83, 68], [85, 83, 68], [69, 85, 82], [71, 66, 80]]) (by decide) (by decide) zs k (by omega)
  refine ⟨_, k1, by omega, by omega, ⟨l, rfl, by simp at c1 ⊢; exact c1⟩, fun E v d hE hv => ?_⟩
  refine sx_ownT1 [] tt_ok mixed at70 E hE d (48, 2, tb v k, tb v k1) [SV.ptr 1000 0] _ rfl rfl fun w b hT => ?_
  have hv := hv.of_old hE.symm hT
  exact ⟨by decide, by decide, strs [[85, 83, 68], [85, 83, 68], [69, 85, 82], [71, 66, 80]], by kernel_rfl, rfl, .inr ⟨_, _, _, O1 _ v 1000 4 (by decide) rfl hv, ⟨rfl, rfl, trivial⟩, rfl, rfl, rfl, trivial⟩⟩
set_option smartUnfolding false in
set_option maxRecDepth 100000 in
set_option maxHeartbeats 4000000 in
theorem quote_g {day known : Int} (hd : 0 ≤ day ∧ day ≤ 1000000) : Gen 35 [SV.c (.int .i64 day), SV.c (.int .i64 known)] 20 (RQt (isQuote day known)) := by
  intro zs k hk
  obtain ⟨r1, k1, a1, b1, ⟨i1, rfl, c1⟩, O1⟩ := next_g (n := 4) (by decide) zs k (by omega)
  obtain ⟨r2, k2, a2, b2, ⟨ins, rfl, c2⟩, O2⟩ := paper_g zs k1 (by omega)
  obtain ⟨r3, k3, a3, b3, ⟨i3, rfl, c3⟩, O3⟩ := pick_g (xs := [0, 0, 0, 1, 2, 5]) (by decide) (by decide) zs k2 (by omega)
  obtain ⟨r4, k4, a4, b4, ⟨price, rfl, c4⟩, O4⟩ := price_g zs k3 (by omega)
  have h3 : 0 ≤ i3 ∧ i3 ≤ 5 := by simp at c3; omega
  obtain ⟨j1, rfl⟩ : ∃ j : Nat, i1 = j := ⟨i1.toNat, by omega⟩
  obtain ⟨src, hs⟩ : ∃ s, src4[j1]? = some s := ⟨_, List.getElem?_eq_getElem (show j1 < 4 by omega)⟩
  have hsm : src ∈ src4 := List.mem_of_getElem? hs
  have g1 : (cat strA src4)[offAt 0 ((j1 : Nat) : Int) ti9.size]? = some (.string (S src)) := by
    have := cat_get strA_size src4 j1 src 0 hs (by decide)
    rw [off_one 0 j1]
    simpa [strA] using this
  have e3 : IntKind.i64.wrap (day - i3) = day - i3 := i64_in (by omega)
  have F1 := fill_q src ins (max 0 (day - i3)) known price (pl := [(0, 1), (1, 1), (2, 1), (3, 1), (4, 66), (70, 1), (71, 1)]) rfl
  rw [← e3] at F1
  generalize hz : (⟨src, ins, [85, 83, 68], max 0 (IntKind.i64.wrap (day - i3)), price, known, false⟩ : QC) = z at F1
  have zsrc : z.src = src := by rw [← hz]
  have zins : z.ins = ins := by rw [← hz]
  have zday : 0 ≤ z.day ∧ (z.day ≤ day ∨ z.day = 0) := by
    rw [← hz, e3]
    show 0 ≤ max 0 (day - i3) ∧ (max 0 (day - i3) ≤ day ∨ max 0 (day - i3) = 0)
    omega
  have zkn : z.known = known := by rw [← hz]
  have zvo : z.void = false := by rw [← hz]
  have zpr : z.price = price := by rw [← hz]
  have zcu : z.cur = [85, 83, 68] := by rw [← hz]
  have mem0 : ([85, 83, 68] : List UInt8) ∈ ([[85, 83, 68], [69, 85, 82], [71, 66, 80]] : List (List UInt8)) := by decide
  have mem1 : ([71, 66, 80] : List UInt8) ∈ ([[85, 83, 68], [69, 85, 82], [71, 66, 80]] : List (List UInt8)) := by decide
  clear hz
  have isq : ∀ (cur : List UInt8), cur ∈ ([[85, 83, 68], [69, 85, 82], [71, 66, 80]] : List (List UInt8)) → isQuote day known { z with cur := cur } := fun cur h => ⟨by rw [zsrc]; exact hsm, by rw [zins]; exact c2, h, zday, zkn, .inl ⟨zvo, by rw [zpr]; exact c4⟩⟩
  have isv : ∀ (cur : List UInt8), cur ∈ ([[85, 83, 68], [69, 85, 82], [71, 66, 80]] : List (List UInt8)) → isQuote day known { z with cur := cur, void := true, price := zeroQ } := fun cur h => ⟨by rw [zsrc]; exact hsm, by rw [zins]; exact c2, h, zday, zkn, .inr ⟨rfl, rfl⟩⟩
  have ZF := z.fits
  have Z1 := z.g1
  rw [zins] at Z1
  have nu : ins ≠ usdgbp → ((S ins).toList == (S usdgbp).toList) = false := fun h => by rw [S_beq]; exact decide_eq_false h
  have ne : ins ≠ eurusd → (!((S ins).toList == (S eurusd).toList)) = true := fun h => by rw [S_beq, decide_eq_false h]; rfl
  have ee : ins = eurusd → (!((S ins).toList == (S eurusd).toList)) = false := fun h => by rw [S_beq, decide_eq_true h]; rfl
  have zself : ({ z with cur := [85, 83, 68] } : QC) = z := by rw [← zcu]
  by_cases hg : ins = usdgbp
  · subst hg
    obtain ⟨rv, k5, av, bv, ⟨void, rfl⟩, O5⟩ := chance_g (a := 1) (b := 9) (by decide) zs k4 (by omega)
    cases void
    · refine ⟨_, k5, by omega, by omega, ⟨{ z with cur := [71, 66, 80] }, rfl, isq _ mem1⟩, fun E v d hE hv => ?_⟩
      refine sx_ownT1 [] tt_ok mixed at35 E hE d (48, 2, tb v k, tb v k5) [SV.ptr 1000 0, SV.c (.int .i64 day), SV.c (.int .i64 known)] _ rfl rfl fun w b hT => ?_
      have hv := hv.of_old hE.symm hT
      have S2 := QC.set2 z [71, 66, 80]
      have ZG := ({ z with cur := [71, 66, 80] } : QC).fits
      generalize QC.A { z with cur := [71, 66, 80] } = ZB at *
      generalize z.A = ZA at *
      refine .inr ⟨_, _, _, sources_o _ rfl 7777, trivial, rfl, .inr ⟨_, _, _, O1 _ v 1000 rfl hv, ⟨rfl, trivial⟩, rfl, ?_⟩⟩
      refine ⟨by omega, by omega, _, g1, .inr ⟨_, _, _, O2 _ v 1000 rfl hv, ⟨rfl, trivial⟩, rfl, by decide, by decide, ints [0, 0, 0, 1, 2, 5], by kernel_rfl, rfl, .inr ⟨_, _, _, O3 _ v 1000 17 (by decide) rfl hv, ⟨rfl, rfl, trivial⟩, rfl, _, fun w' _ => run_max_ct _ _ w', .inr ⟨_, _, _, O4 _ v 1000 rfl hv, ⟨rfl, trivial⟩, rfl, _, F1, ZF, ?_⟩⟩⟩⟩
      exact ⟨by kernel_rfl, _, Z1, fun _ => ⟨by decide, rfl, ZB, S2, .inr ⟨_, _, _, O5 _ v 1000 rfl hv, ⟨rfl, trivial⟩, rfl, fun h => absurd h (by decide), fun _ => ⟨ZG, rfl, rfl, trivial⟩⟩⟩, fun h => absurd ((s_self usdgbp).symm.trans h) (by decide)⟩
    · refine ⟨_, k5, by omega, by omega, ⟨{ z with cur := [71, 66, 80], void := true, price := zeroQ }, rfl, isv _ mem1⟩, fun E v d hE hv => ?_⟩
      refine sx_ownT1 [] tt_ok mixed at35 E hE d (48, 2, tb v k, tb v k5) [SV.ptr 1000 0, SV.c (.int .i64 day), SV.c (.int .i64 known)] _ rfl rfl fun w b hT => ?_
      have hv := hv.of_old hE.symm hT
      have S2 := QC.set2 z [71, 66, 80]
      have ZG := ({ z with cur := [71, 66, 80] } : QC).fits
      have S3 := QC.set71 { z with cur := [71, 66, 80] } true
      have S4 := QC.setpri { z with cur := [71, 66, 80], void := true } zeroQ
      have ZH := ({ z with cur := [71, 66, 80], void := true, price := zeroQ } : QC).fits
      generalize QC.A { z with cur := [71, 66, 80], void := true, price := zeroQ } = ZD at *
      generalize QC.A { z with cur := [71, 66, 80], void := true } = ZC at *
      generalize QC.A { z with cur := [71, 66, 80] } = ZB at *
      generalize z.A = ZA at *
      refine .inr ⟨_, _, _, sources_o _ rfl 7777, trivial, rfl, .inr ⟨_, _, _, O1 _ v 1000 rfl hv, ⟨rfl, trivial⟩, rfl, ?_⟩⟩
      refine ⟨by omega, by omega, _, g1, .inr ⟨_, _, _, O2 _ v 1000 rfl hv, ⟨rfl, trivial⟩, rfl, by decide, by decide, ints [0, 0, 0, 1, 2, 5], by kernel_rfl, rfl, .inr ⟨_, _, _, O3 _ v 1000 17 (by decide) rfl hv, ⟨rfl, rfl, trivial⟩, rfl, _, fun w' _ => run_max_ct _ _ w', .inr ⟨_, _, _, O4 _ v 1000 rfl hv, ⟨rfl, trivial⟩, rfl, _, F1, ZF, ?_⟩⟩⟩⟩
      exact ⟨by kernel_rfl, _, Z1, fun _ => ⟨by decide, rfl, ZB, S2, .inr ⟨_, _, _, O5 _ v 1000 rfl hv, ⟨rfl, trivial⟩, rfl, fun _ => ⟨_, rfl, by decide, rfl, ZC, S3, by decide, zeroQ_fits, ZD, S4, ZH, rfl, rfl, trivial⟩, fun h => absurd h (by decide)⟩⟩, fun h => absurd ((s_self usdgbp).symm.trans h) (by decide)⟩
  by_cases he : ins = eurusd
  · obtain ⟨rv, k5, av, bv, ⟨void, rfl⟩, O5⟩ := chance_g (a := 1) (b := 9) (by decide) zs k4 (by omega)
    cases void
    · refine ⟨_, k5, by omega, by omega, ⟨z, rfl, (by have := isq _ mem0; rw [zself] at this; exact this)⟩, fun E v d hE hv => ?_⟩
      refine sx_ownT1 [] tt_ok mixed at35 E hE d (48, 2, tb v k, tb v k5) [SV.ptr 1000 0, SV.c (.int .i64 day), SV.c (.int .i64 known)] _ rfl rfl fun w b hT => ?_
      have hv := hv.of_old hE.symm hT
      have ZG := z.fits
      generalize z.A = ZA at *
      refine .inr ⟨_, _, _, sources_o _ rfl 7777, trivial, rfl, .inr ⟨_, _, _, O1 _ v 1000 rfl hv, ⟨rfl, trivial⟩, rfl, ?_⟩⟩
      refine ⟨by omega, by omega, _, g1, .inr ⟨_, _, _, O2 _ v 1000 rfl hv, ⟨rfl, trivial⟩, rfl, by decide, by decide, ints [0, 0, 0, 1, 2, 5], by kernel_rfl, rfl, .inr ⟨_, _, _, O3 _ v 1000 17 (by decide) rfl hv, ⟨rfl, rfl, trivial⟩, rfl, _, fun w' _ => run_max_ct _ _ w', .inr ⟨_, _, _, O4 _ v 1000 rfl hv, ⟨rfl, trivial⟩, rfl, _, F1, ZF, ?_⟩⟩⟩⟩
      exact ⟨by kernel_rfl, _, Z1, fun h => absurd ((nu hg).symm.trans h) (by decide), fun _ => ⟨_, Z1, fun h => absurd ((ee he).symm.trans h) (by decide), fun _ => ⟨fun h => absurd h (by decide), fun _ => .inr ⟨_, _, _, O5 _ v 1000 rfl hv, ⟨rfl, trivial⟩, rfl, fun h => absurd h (by decide), fun _ => ⟨ZG, rfl, rfl, trivial⟩⟩⟩⟩⟩
    · refine ⟨_, k5, by omega, by omega, ⟨{ z with void := true, price := zeroQ }, rfl, (by have := isv _ mem0; rw [show ({ z with cur := [85, 83, 68], void := true, price := zeroQ } : QC) = { z with void := true, price := zeroQ } by rw [← zcu]] at this; exact this)⟩, fun E v d hE hv => ?_⟩
      refine sx_ownT1 [] tt_ok mixed at35 E hE d (48, 2, tb v k, tb v k5) [SV.ptr 1000 0, SV.c (.int .i64 day), SV.c (.int .i64 known)] _ rfl rfl fun w b hT => ?_
      have hv := hv.of_old hE.symm hT
      have ZG := z.fits
      have S3 := QC.set71 z true
      have S4 := QC.setpri { z with void := true } zeroQ
      have ZH := ({ z with void := true, price := zeroQ } : QC).fits
      generalize QC.A { z with void := true, price := zeroQ } = ZD at *
      generalize QC.A { z with void := true } = ZC at *
      generalize z.A = ZA at *
      refine .inr ⟨_, _, _, sources_o _ rfl 7777, trivial, rfl, .inr ⟨_, _, _, O1 _ v 1000 rfl hv, ⟨rfl, trivial⟩, rfl, ?_⟩⟩
      refine ⟨by omega, by omega, _, g1, .inr ⟨_, _, _, O2 _ v 1000 rfl hv, ⟨rfl, trivial⟩, rfl, by decide, by decide, ints [0, 0, 0, 1, 2, 5], by kernel_rfl, rfl, .inr ⟨_, _, _, O3 _ v 1000 17 (by decide) rfl hv, ⟨rfl, rfl, trivial⟩, rfl, _, fun w' _ => run_max_ct _ _ w', .inr ⟨_, _, _, O4 _ v 1000 rfl hv, ⟨rfl, trivial⟩, rfl, _, F1, ZF, ?_⟩⟩⟩⟩
      exact ⟨by kernel_rfl, _, Z1, fun h => absurd ((nu hg).symm.trans h) (by decide), fun _ => ⟨_, Z1, fun h => absurd ((ee he).symm.trans h) (by decide), fun _ => ⟨fun h => absurd h (by decide), fun _ => .inr ⟨_, _, _, O5 _ v 1000 rfl hv, ⟨rfl, trivial⟩, rfl, fun _ => ⟨_, rfl, by decide, rfl, ZC, S3, by decide, zeroQ_fits, ZD, S4, ZH, rfl, rfl, trivial⟩, fun h => absurd h (by decide)⟩⟩⟩⟩
  obtain ⟨r5, k5, a5, b5, ⟨ch, rfl⟩, O5⟩ := chance_g (a := 1) (b := 4) (by decide) zs k4 (by omega)
  cases ch
  · obtain ⟨rv, k6, av, bv, ⟨void, rfl⟩, O7⟩ := chance_g (a := 1) (b := 9) (by decide) zs k5 (by omega)
    cases void
    · refine ⟨_, k6, by omega, by omega, ⟨z, rfl, (by have := isq _ mem0; rw [zself] at this; exact this)⟩, fun E v d hE hv => ?_⟩
      refine sx_ownT1 [] tt_ok mixed at35 E hE d (48, 2, tb v k, tb v k6) [SV.ptr 1000 0, SV.c (.int .i64 day), SV.c (.int .i64 known)] _ rfl rfl fun w b hT => ?_
      have hv := hv.of_old hE.symm hT
      have ZG := z.fits
      generalize z.A = ZA at *
      refine .inr ⟨_, _, _, sources_o _ rfl 7777, trivial, rfl, .inr ⟨_, _, _, O1 _ v 1000 rfl hv, ⟨rfl, trivial⟩, rfl, ?_⟩⟩
      refine ⟨by omega, by omega, _, g1, .inr ⟨_, _, _, O2 _ v 1000 rfl hv, ⟨rfl, trivial⟩, rfl, by decide, by decide, ints [0, 0, 0, 1, 2, 5], by kernel_rfl, rfl, .inr ⟨_, _, _, O3 _ v 1000 17 (by decide) rfl hv, ⟨rfl, rfl, trivial⟩, rfl, _, fun w' _ => run_max_ct _ _ w', .inr ⟨_, _, _, O4 _ v 1000 rfl hv, ⟨rfl, trivial⟩, rfl, _, F1, ZF, ?_⟩⟩⟩⟩
      exact ⟨by kernel_rfl, _, Z1, fun h => absurd ((nu hg).symm.trans h) (by decide), fun _ => ⟨_, Z1, fun _ => .inr ⟨_, _, _, O5 _ v 1000 rfl hv, ⟨rfl, trivial⟩, rfl, fun h => absurd h (by decide), fun _ => .inr ⟨_, _, _, O7 _ v 1000 rfl hv, ⟨rfl, trivial⟩, rfl, fun h => absurd h (by decide), fun _ => ⟨ZG, rfl, rfl, trivial⟩⟩⟩, fun h => absurd ((ne he).symm.trans h) (by decide)⟩⟩
    · refine ⟨_, k6, by omega, by omega, ⟨{ z with void := true, price := zeroQ }, rfl, (by have := isv _ mem0; rw [show ({ z with cur := [85, 83, 68], void := true, price := zeroQ } : QC) = { z with void := true, price := zeroQ } by rw [← zcu]] at this; exact this)⟩, fun E v d hE hv => ?_⟩
      refine sx_ownT1 [] tt_ok mixed at35 E hE d (48, 2, tb v k, tb v k6) [SV.ptr 1000 0, SV.c (.int .i64 day), SV.c (.int .i64 known)] _ rfl rfl fun w b hT => ?_
      have hv := hv.of_old hE.symm hT
      have ZG := z.fits
      have S3 := QC.set71 z true
      have S4 := QC.setpri { z with void := true } zeroQ
      have ZH := ({ z with void := true, price := zeroQ } : QC).fits
      generalize QC.A { z with void := true, price := zeroQ } = ZD at *
      generalize QC.A { z with void := true } = ZC at *
      generalize z.A = ZA at *
      refine .inr ⟨_, _, _, sources_o _ rfl 7777, trivial, rfl, .inr ⟨_, _, _, O1 _ v 1000 rfl hv, ⟨rfl, trivial⟩, rfl, ?_⟩⟩
      refine ⟨by omega, by omega, _, g1, .inr ⟨_, _, _, O2 _ v 1000 rfl hv, ⟨rfl, trivial⟩, rfl, by decide, by decide, ints [0, 0, 0, 1, 2, 5], by kernel_rfl, rfl, .inr ⟨_, _, _, O3 _ v 1000 17 (by decide) rfl hv, ⟨rfl, rfl, trivial⟩, rfl, _, fun w' _ => run_max_ct _ _ w', .inr ⟨_, _, _, O4 _ v 1000 rfl hv, ⟨rfl, trivial⟩, rfl, _, F1, ZF, ?_⟩⟩⟩⟩
      exact ⟨by kernel_rfl, _, Z1, fun h => absurd ((nu hg).symm.trans h) (by decide), fun _ => ⟨_, Z1, fun _ => .inr ⟨_, _, _, O5 _ v 1000 rfl hv, ⟨rfl, trivial⟩, rfl, fun h => absurd h (by decide), fun _ => .inr ⟨_, _, _, O7 _ v 1000 rfl hv, ⟨rfl, trivial⟩, rfl, fun _ => ⟨_, rfl, by decide, rfl, ZC, S3, by decide, zeroQ_fits, ZD, S4, ZH, rfl, rfl, trivial⟩, fun h => absurd h (by decide)⟩⟩, fun h => absurd ((ne he).symm.trans h) (by decide)⟩⟩
  · obtain ⟨r6, k6, a6, b6, ⟨cur, rfl, c6⟩, O6⟩ := code_c zs k5 (by omega)
    obtain ⟨rv, k7, av, bv, ⟨void, rfl⟩, O7⟩ := chance_g (a := 1) (b := 9) (by decide) zs k6 (by omega)
    cases void
    · refine ⟨_, k7, by omega, by omega, ⟨{ z with cur := cur }, rfl, isq _ c6⟩, fun E v d hE hv => ?_⟩
      refine sx_ownT1 [] tt_ok mixed at35 E hE d (48, 2, tb v k, tb v k7) [SV.ptr 1000 0, SV.c (.int .i64 day), SV.c (.int .i64 known)] _ rfl rfl fun w b hT => ?_
      have hv := hv.of_old hE.symm hT
      have S2 := QC.set2 z cur
      have ZG := ({ z with cur := cur } : QC).fits
      generalize QC.A { z with cur := cur } = ZB at *
      generalize z.A = ZA at *
      refine .inr ⟨_, _, _, sources_o _ rfl 7777, trivial, rfl, .inr ⟨_, _, _, O1 _ v 1000 rfl hv, ⟨rfl, trivial⟩, rfl, ?_⟩⟩
      refine ⟨by omega, by omega, _, g1, .inr ⟨_, _, _, O2 _ v 1000 rfl hv, ⟨rfl, trivial⟩, rfl, by decide, by decide, ints [0, 0, 0, 1, 2, 5], by kernel_rfl, rfl, .inr ⟨_, _, _, O3 _ v 1000 17 (by decide) rfl hv, ⟨rfl, rfl, trivial⟩, rfl, _, fun w' _ => run_max_ct _ _ w', .inr ⟨_, _, _, O4 _ v 1000 rfl hv, ⟨rfl, trivial⟩, rfl, _, F1, ZF, ?_⟩⟩⟩⟩
      exact ⟨by kernel_rfl, _, Z1, fun h => absurd ((nu hg).symm.trans h) (by decide), fun _ => ⟨_, Z1, fun _ => .inr ⟨_, _, _, O5 _ v 1000 rfl hv, ⟨rfl, trivial⟩, rfl, fun _ => .inr ⟨_, _, _, O6 _ v 1000 rfl hv, ⟨rfl, trivial⟩, rfl, by decide, rfl, ZB, S2, .inr ⟨_, _, _, O7 _ v 1000 rfl hv, ⟨rfl, trivial⟩, rfl, fun h => absurd h (by decide), fun _ => ⟨ZG, rfl, rfl, trivial⟩⟩⟩, fun h => absurd h (by decide)⟩, fun h => absurd ((ne he).symm.trans h) (by decide)⟩⟩
    · refine ⟨_, k7, by omega, by omega, ⟨{ z with cur := cur, void := true, price := zeroQ }, rfl, isv _ c6⟩, fun E v d hE hv => ?_⟩
      refine sx_ownT1 [] tt_ok mixed at35 E hE d (48, 2, tb v k, tb v k7) [SV.ptr 1000 0, SV.c (.int .i64 day), SV.c (.int .i64 known)] _ rfl rfl fun w b hT => ?_
      have hv := hv.of_old hE.symm hT
      have S2 := QC.set2 z cur
      have ZG := ({ z with cur := cur } : QC).fits
      have S3 := QC.set71 { z with cur := cur } true
      have S4 := QC.setpri { z with cur := cur, void := true } zeroQ
      have ZH := ({ z with cur := cur, void := true, price := zeroQ } : QC).fits
      generalize QC.A { z with cur := cur, void := true, price := zeroQ } = ZD at *
      generalize QC.A { z with cur := cur, void := true } = ZC at *
      generalize QC.A { z with cur := cur } = ZB at *
      generalize z.A = ZA at *
      refine .inr ⟨_, _, _, sources_o _ rfl 7777, trivial, rfl, .inr ⟨_, _, _, O1 _ v 1000 rfl hv, ⟨rfl, trivial⟩, rfl, ?_⟩⟩
      refine ⟨by omega, by omega, _, g1, .inr ⟨_, _, _, O2 _ v 1000 rfl hv, ⟨rfl, trivial⟩, rfl, by decide, by decide, ints [0, 0, 0, 1, 2, 5], by kernel_rfl, rfl, .inr ⟨_, _, _, O3 _ v 1000 17 (by decide) rfl hv, ⟨rfl, rfl, trivial⟩, rfl, _, fun w' _ => run_max_ct _ _ w', .inr ⟨_, _, _, O4 _ v 1000 rfl hv, ⟨rfl, trivial⟩, rfl, _, F1, ZF, ?_⟩⟩⟩⟩
      exact ⟨by kernel_rfl, _, Z1, fun h => absurd ((nu hg).symm.trans h) (by decide), fun _ => ⟨_, Z1, fun _ => .inr ⟨_, _, _, O5 _ v 1000 rfl hv, ⟨rfl, trivial⟩, rfl, fun _ => .inr ⟨_, _, _, O6 _ v 1000 rfl hv, ⟨rfl, trivial⟩, rfl, by decide, rfl, ZB, S2, .inr ⟨_, _, _, O7 _ v 1000 rfl hv, ⟨rfl, trivial⟩, rfl, fun _ => ⟨_, rfl, by decide, rfl, ZC, S3, by decide, zeroQ_fits, ZD, S4, ZH, rfl, rfl, trivial⟩, fun h => absurd h (by decide)⟩⟩, fun h => absurd h (by decide)⟩, fun h => absurd ((ne he).symm.trans h) (by decide)⟩⟩
end Go.Proofs.YtinojijgeabfnaaGreatDoor
namespace Go.Proofs.YtinojijgeabfnaaGreatDoor
open Go Go.RowKit Go.SX
def madeQ (day : Int) (a : QC) : Prop := ∃ dd kn : Int, isQuote dd kn a ∧ 0 ≤ dd ∧ dd ≤ 73048 ∧ dd ≤ day + 1
/-- a made book -/
structure IsBook (day last : Int) (xs : List QC) : Prop where
  each : ∀ a ∈ xs, madeQ day a
  up : xs.Pairwise (fun a b => a.known < b.known)
  bd : ∀ a ∈ xs, 1 ≤ a.known ∧ a.known ≤ last
theorem IsBook.snoc {day last kn dd : Int} {xs : List QC} {y : QC} (h : IsBook day last xs) (hl : 0 ≤ last) (hk : last < kn) (hy : isQuote dd kn y) (h1 : 0 ≤ dd) (h2 : dd ≤ 73048) (h3 : dd ≤ day + 1) : IsBook day kn (xs ++ [y]) := by
  have hyk : y.known = kn := hy.2.2.2.2.1
  refine ⟨fun a ha => ?_, ?_, fun a ha => ?_⟩
  · rcases List.mem_append.1 ha with h4 | h4
    · exact h.each a h4
    · have : a = y := by simpa using h4
      rw [this]; exact ⟨dd, kn, hy, h1, h2, h3⟩
  · rw [List.pairwise_append]
    refine ⟨h.up, by simp, fun a ha b hb => ?_⟩
    have : b = y := by simpa using hb
    rw [this, hyk]
    have := (h.bd a ha).2
    omega
  · rcases List.mem_append.1 ha with h4 | h4
    · have := h.bd a h4
      omega
    · have : a = y := by simpa using h4
      rw [this, hyk]; omega
theorem madeQ_in {day : Int} {a : QC} (h : madeQ day a) : a.In := by
  obtain ⟨dd, kn, ⟨h1, h2, h3, h4, h5, h6⟩, d1, d2, d3⟩ := h
  refine ⟨?_, ?_, ?_, ?_, by omega⟩
  · rcases h6 with ⟨-, h6⟩ | ⟨-, h6⟩
    · exact h6.in_
    · rw [h6]; exact zeroQ_in
  · simp [src4] at h1; rcases h1 with h | h | h | h <;> rw [h] <;> decide
  · simp [papers] at h2; rcases h2 with h | h | h | h | h | h <;> rw [h] <;> decide
  · simp at h3; rcases h3 with h | h | h <;> rw [h] <;> decide
def QuoQ (n : Nat) (k : Nat) (day : Int) (v : Value) (x : Value) (U : MemL) : Prop := ∃ (xs : List QC) (k' : Nat) (last : Int), k ≤ k' ∧ k' ≤ k + 30 * n ∧ IsL x n ∧ xs.length = n ∧ IsBook day last xs ∧ last ≤ 6 * (n : Int) ∧ U = [(1000, Blk.row 48 2 (tb v k')), (3000, Blk.own x 40 72 n (cat QC.A xs))]
set_option smartUnfolding false in
set_option maxRecDepth 100000 in
theorem quotes_z {E : Env} (hE : E.P = Tryz.prog) {v : Value} {zs : List Int} (hv : Tp E v zs) {n k : Nat} (hn : n ≤ 1000) (hk : k + 30 * n ≤ 4000000000000000000) {day : Int} (hday : 0 ≤ day ∧ day ≤ 73048) : OwnC E 19 [SV.ptr 1000 0, SV.c (.int .i64 (n : Nat)), SV.c (.int .i64 day)] [(1000, Blk.row 48 2 (tb v k))] (QuoQ n k day v) := by
  refine sx_ownC [] tt_ok mixed at19 E hE [SV.ptr 1000 0, SV.c (.int .i64 (n : Nat)), SV.c (.int .i64 day)] [(1000, Blk.row 48 2 (tb v k))] _ rfl rfl fun w X β hT => ?_
  have hv' : Tp (envC Tryz.prog tt Tryz.f19.ntmps w X (tiedK [(1000, Blk.row 48 2 (tb v k))] β)).toEnv v zs := hv.of_old hE.symm hT
  refine ⟨fun q f m => ∃ (i k2 : Nat) (xs : List QC) (x : Value) (known : Int), q = n - i ∧ i ≤ n ∧ k ≤ k2 ∧ k2 ≤ k + 30 * i ∧ IsL x i ∧ xs.length = i ∧ IsBook day known xs ∧ 0 ≤ known ∧ known ≤ 6 * (i : Int) ∧ f = [(0, SV.ptr 1000 0), (1, SV.c (.int .i64 (n : Nat))), (2, SV.c (.int .i64 day)), (7, SV.c x), (8, SV.c (.int .i64 known)), (9, SV.c (.int .i64 (i : Nat)))] ∧ m = [(1000, Blk.row 48 2 (tb v k2)), (3000, Blk.own x 40 72 i (cat QC.A xs))], n, ⟨_, _, ⟨0, k, [], .slice none 0 0, 0, by omega, by omega, by omega, by omega, .nil, rfl, ⟨fun a h => by simp at h, by simp, fun a h => by simp at h⟩, by omega, by omega, rfl, rfl⟩, ⟨rfl, rfl, rfl, rfl, rfl, rfl, trivial⟩, ⟨rfl, .inr ⟨rfl, rfl, rfl⟩, trivial⟩, rfl⟩, ?_⟩
  rintro q f m ⟨i, k2, xs, x, known, rfl, hi, hk1, hk2, hx, hxs, hin, hkn0, hkn, rfl, rfl⟩
  refine ⟨fun h => ?_, fun h => ?_⟩
  · have h : i < n := by have := of_decide_eq_true h; omega
    obtain ⟨r3, k3, a3, b3, ⟨i3, rfl, c3⟩, O3⟩ := pick_g (xs := [0, 0, 1, 5]) (by decide) (by decide) zs k2 (by omega)
    obtain ⟨r5, k5, a5, b5, ⟨i5, rfl, c5⟩, O5⟩ := pick_g (xs := [0, 0, 0, 1]) (by decide) (by decide) zs k3 (by omega)
    have h3 : 0 ≤ i3 ∧ i3 ≤ 5 := by simp at c3; omega
    have h5 : 0 ≤ i5 ∧ i5 ≤ 1 := by simp at c5; omega
    have e5 : IntKind.i64.wrap (day + i5) = day + i5 := i64_in (by omega)
    have e3 : IntKind.i64.wrap (known + IntKind.i64.wrap (1 + i3)) = known + (1 + i3) := by rw [i64_in (show -9223372036854775808 ≤ 1 + i3 ∧ 1 + i3 ≤ 9223372036854775807 by omega), i64_in (by omega)]
    obtain ⟨r4, k4, a4, b4, ⟨y, rfl, c4⟩, O4⟩ := quote_g (day := min 73048 (day + i5)) (known := known + (1 + i3)) (by omega) zs k5 (by omega)
    have hb2 := hin.snoc hkn0 (show known < known + (1 + i3) by omega) c4 (by omega) (by omega) (by omega)
    rw [← e5, ← e3] at O4
    refine .inl ⟨by decide, by decide, ints [0, 0, 1, 5], by kernel_rfl, rfl, .inr (.inl ⟨_, _, _, O3 _ v 1000 17 (by decide) rfl hv', ⟨rfl, rfl, trivial⟩, rfl, ?_⟩)⟩
    refine .inl ⟨by decide, by decide, ints [0, 0, 0, 1], by kernel_rfl, rfl, .inr (.inl ⟨_, _, _, O5 _ v 1000 25 (by decide) rfl hv', ⟨rfl, rfl, trivial⟩, rfl, _, fun w' _ => run_min_ct _ _ w', ?_⟩)⟩
    have F1 := fill_quo1 y
    have F2 := y.fits.one
    have F3 := y.ext72
    have F4 : y.A.size = 1 * 72 := y.size
    have F5 : cat QC.A xs ++ y.A = cat QC.A (xs ++ [y]) := cat_snoc xs y
    generalize hY : y.A = YA at *
    refine .inr (.inl ⟨_, _, _, O4 _ v 1000 rfl hv', ⟨rfl, trivial⟩, rfl, .inl ⟨by decide, by decide, _, F1, F4, by decide, 3000, i, _, .inl rfl, by decide, F2, F4, _, F3, ?_⟩⟩)
    obtain ⟨q, hq, hb⟩ := info_quo
    refine ⟨by omega, by unfold maxLen; omega, ⟨q, hq, by rw [hb]; omega⟩, trivial, fun g2 cap2 => ?_⟩
    exact ⟨n - (i + 1), _, _, by omega, ⟨i + 1, k4, xs ++ [y], _, known + (1 + i3), rfl, by omega, by omega, by omega, .some, by simp [hxs], hb2, by omega, by omega, rfl, rfl⟩, ⟨rfl, rfl, rfl, rfl, c_int e3, c_int (i64_succ (by omega)), trivial⟩, ⟨rfl, .inl (own_eq F5), trivial⟩, rfl⟩
  · have h : i = n := by have := of_decide_eq_false h; omega
    subst h
    exact ⟨[(1000, Blk.row 48 2 (tb v k2)), (3000, Blk.own x 40 72 i (cat QC.A xs))], [], ⟨xs, k2, known, by omega, by omega, hx, hxs, hin, hkn, rfl⟩, ⟨rfl, .inl rfl, trivial⟩, rfl⟩
end Go.Proofs.YtinojijgeabfnaaGreatDoor
namespace Go.Proofs.YtinojijgeabfnaaGreatDoor
open Go Go.RowKit Go.SX
set_option smartUnfolding false in
set_option maxRecDepth 100000 in
theorem percent_g : Gen 58 [] 5 (RA RQ.In) := by
  intro zs k hk
  obtain ⟨r1, k1, a1, b1, ⟨i1, rfl, c1⟩, O1⟩ := pick_g (xs := [1, 4, 10, 20, 100, 200, 1000, 10000, 100000000]) (by decide) (by decide) zs k (by omega)
  have h1 : 1 ≤ i1 ∧ i1 ≤ 100000000 := by simp at c1; omega
  obtain ⟨r2, k2, a2, b2, ⟨ch, rfl⟩, O2⟩ := chance_g (a := 3) (b := 4) (by decide) zs k1 (by omega)
  cases ch
  · obtain ⟨r3, k3, a3, b3, ⟨i3, rfl, c3⟩, O3⟩ := next_g (n := i1 + 1) (by omega) zs k2 (by omega)
    have M := made_of (n := i3) (d := i1) (by omega) (by omega) (by omega) (by omega)
    refine ⟨_, k3, by omega, by omega, ⟨_, rfl, mkQ_in i3 i1⟩, fun E v d hE hv => ?_⟩
    refine sx_ownT1 [] tt_ok mixed at58 E hE d (48, 2, tb v k, tb v k3) [SV.ptr 1000 0] _ rfl rfl fun w b hT => ?_
    have hv := hv.of_old hE.symm hT
    have O := O3 _ v 1000 rfl hv
    rw [show i1 + 1 = IntKind.i64.wrap (i1 + 1) from (i64_in (by omega)).symm] at O
    have RF := (mkQ i3 i1).1.A_fits
    generalize (mkQ i3 i1).1.A = RA' at *
    exact ⟨by decide, by decide, ints [1, 4, 10, 20, 100, 200, 1000, 10000, 100000000], by kernel_rfl, rfl, .inr ⟨_, _, _, O1 _ v 1000 5 (by decide) rfl hv, ⟨rfl, rfl, trivial⟩, rfl, .inr ⟨_, _, _, O2 _ v 1000 rfl hv, ⟨rfl, trivial⟩, rfl, fun h => absurd h (by decide), fun _ => .inr ⟨_, _, _, O, ⟨rfl, trivial⟩, rfl, .inl ⟨_, M, RF, rfl, rfl, trivial⟩⟩⟩⟩⟩
  · obtain ⟨r4, k4, a4, b4, ⟨i4, rfl, c4⟩, O4⟩ := pick_g (xs := [50, 100, 200, 1000]) (by decide) (by decide) zs k2 (by omega)
    have h4 : 50 ≤ i4 ∧ i4 ≤ 1000 := by simp at c4; omega
    have hq : i4.tdiv 10 = i4 / 10 := Int.tdiv_eq_ediv_of_nonneg (by omega)
    obtain ⟨r3, k3, a3, b3, ⟨i3, rfl, c3⟩, O3⟩ := next_g (n := i4 / 10 + 1) (by omega) zs k4 (by omega)
    have M := made_of (n := i3) (d := i4) (by omega) (by omega) (by omega) (by omega)
    refine ⟨_, k3, by omega, by omega, ⟨_, rfl, mkQ_in i3 i4⟩, fun E v d hE hv => ?_⟩
    refine sx_ownT1 [] tt_ok mixed at58 E hE d (48, 2, tb v k, tb v k3) [SV.ptr 1000 0] _ rfl rfl fun w b hT => ?_
    have hv := hv.of_old hE.symm hT
    have O := O3 _ v 1000 rfl hv
    rw [show i4 / 10 + 1 = IntKind.i64.wrap (IntKind.i64.wrap (i4.tdiv 10) + 1) by rw [hq, i64_in (show -9223372036854775808 ≤ i4 / 10 ∧ i4 / 10 ≤ 9223372036854775807 by omega), i64_in (by omega)]] at O
    have RF := (mkQ i3 i4).1.A_fits
    generalize (mkQ i3 i4).1.A = RA' at *
    exact ⟨by decide, by decide, ints [1, 4, 10, 20, 100, 200, 1000, 10000, 100000000], by kernel_rfl, rfl, .inr ⟨_, _, _, O1 _ v 1000 5 (by decide) rfl hv, ⟨rfl, rfl, trivial⟩, rfl, .inr ⟨_, _, _, O2 _ v 1000 rfl hv, ⟨rfl, trivial⟩, rfl, fun _ => ⟨by decide, by decide, ints [50, 100, 200, 1000], by kernel_rfl, rfl, .inr ⟨_, _, _, O4 _ v 1000 10 (by decide) rfl hv, ⟨rfl, rfl, trivial⟩, rfl, by decide, .inr ⟨_, _, _, O, ⟨rfl, trivial⟩, rfl, .inl ⟨_, M, RF, rfl, rfl, trivial⟩⟩⟩⟩, fun h => absurd h (by decide)⟩⟩⟩
theorem fill_rats4 (a b c d' : RQ) : Instr.fill (fun k => some (k * ti29.size, ti29.size)) (madeCells ti29.zero (4 * ti29.size)) [(0, .agg a.A), (1, .agg b.A), (2, .agg c.A), (3, .agg d'.A)] = some (rats [a, b, c, d']) := by
  have hs : (madeCells ti29.zero (4 * ti29.size)).size = 264 := by kernel_rfl
  have := fill_all (pl := fun k => some (k * ti29.size, ti29.size)) (vs := [.agg a.A, .agg b.A, .agg c.A, .agg d'.A]) (Z := madeCells ti29.zero (4 * ti29.size)) ⟨by simp [Value.cells, RQ.A_size]; rfl, by simp [Value.cells, RQ.A_size]; rfl, by simp [Value.cells, RQ.A_size]; exact ⟨rfl, rfl⟩, by simp [Value.cells, RQ.A_size]; exact ⟨rfl, rfl⟩, trivial⟩ (by rw [hs]; simp [catV, Value.cells, RQ.A_size])
  rw [show catV [.agg a.A, .agg b.A, .agg c.A, .agg d'.A] = rats [a, b, c, d'] by simp [catV, rats, Value.cells]] at this
  exact this
theorem fill_pol0 (r : RQ) (n : Int) {pl : List (Nat × Nat)} (hpl : pl = [(0, 1), (1, 66), (67, 1)]) : Instr.fill (fun k => pl[k]?) ti31.zero [(1, .agg r.A), (2, .int .i64 n)] = some (PL.A ⟨[], r, n⟩ (.slice none 0 0)) := by
  subst hpl
  kernel_rfl
theorem PL.set0 (p : PL) (v u : Value) : (p.A v).setIfInBounds (0 + 0) u = p.A u := by kernel_rfl
theorem polZ : PL.A ⟨[], RQ.of 0 0, 0⟩ (.slice none 0 0) = ti31.zero := by kernel_rfl
/-- what a made policy is -/
def PolQ (k : Nat) (v : Value) (x : Value) (U : MemL) : Prop := ∃ (p : PL) (y : Value) (n k' : Nat), k ≤ k' ∧ k' ≤ k + 20 ∧ p.In ∧ IsL y n ∧ n = p.srcs.length ∧ 1 ≤ n ∧ n ≤ 4 ∧ x = .agg (p.A y) ∧ U = [(1000, Blk.row 48 2 (tb v k')), (9101, Blk.own y 9 1 n (cat strA p.srcs))]
set_option smartUnfolding false in
set_option maxRecDepth 100000 in
theorem policy_z {E : Env} (hE : E.P = Tryz.prog) {v : Value} {zs : List Int} (hv : Tp E v zs) {k : Nat} (hk : k + 20 ≤ 4000000000000000000) : OwnC E 21 [SV.ptr 1000 0] [(1000, Blk.row 48 2 (tb v k))] (PolQ k v) := by
  refine sx_ownC [] tt_ok mixed at21 E hE [SV.ptr 1000 0] [(1000, Blk.row 48 2 (tb v k))] _ rfl rfl fun w X β hT => ?_
  have hv' : Tp (envC Tryz.prog tt Tryz.f21.ntmps w X (tiedK [(1000, Blk.row 48 2 (tb v k))] β)).toEnv v zs := hv.of_old hE.symm hT
  obtain ⟨r1, k1, a1, b1, ⟨pc, rfl, c1⟩, O1⟩ := percent_g zs k (by omega)
  have M1 := made_of (n := 0) (d := 1) (by decide) (by decide) (by decide) (by decide)
  have M2 := made_of (n := 3) (d := 100) (by decide) (by decide) (by decide) (by decide)
  have M3 := made_of (n := 1) (d := 2) (by decide) (by decide) (by decide) (by decide)
  obtain ⟨r2, k2, a2, b2, ⟨tol, rfl, c2⟩, O2⟩ := pickratio4_g (a := (mkQ 0 1).1) (b := (mkQ 3 100).1) (c := (mkQ 1 2).1) (d' := pc) (by intro x hx; simp at hx; rcases hx with rfl | rfl | rfl | rfl; exact mkQ_in _ _; exact mkQ_in _ _; exact mkQ_in _ _; exact c1) zs k1 (by omega)
  obtain ⟨r3, k3, a3, b3, ⟨stale, rfl, c3⟩, O3⟩ := pick_g (xs := [0, 1, 2, 5, 30]) (by decide) (by decide) zs k2 (by omega)
  obtain ⟨r4, k4, a4, b4, ⟨at_, rfl, c4⟩, O4⟩ := next_g (n := 4) (by decide) zs k3 (by omega)
  have hst : 0 ≤ stale ∧ stale ≤ 30 := by simp at c3; omega
  have R4 := fill_rats4 (mkQ 0 1).1 (mkQ 3 100).1 (mkQ 1 2).1 pc
  have R5 : (rats [(mkQ 0 1).1, (mkQ 3 100).1, (mkQ 1 2).1, pc]).size = 264 := by simp [rats, RQ.A_size]
  have P0 := fill_pol0 tol stale (pl := [(0, 1), (1, 66), (67, 1)]) rfl
  have PF := (⟨[], tol, stale⟩ : PL).fits (v := .slice none 0 0) rfl
  have PI : ∀ l : List (List UInt8), (∀ y ∈ l, y ∈ src4) → (⟨l, tol, stale⟩ : PL).In := fun l hl => ⟨c2, fun y hy => by have := hl y hy; simp [src4] at this; rcases this with h | h | h | h <;> rw [h] <;> decide, by show (-9223372036854775808 : Int) ≤ stale ∧ stale ≤ 9223372036854775807; omega⟩
  generalize rats [(mkQ 0 1).1, (mkQ 3 100).1, (mkQ 1 2).1, pc] = RS4 at *
  generalize (mkQ 0 1).1.A = RA1 at *
  generalize (mkQ 3 100).1.A = RA2 at *
  generalize (mkQ 1 2).1.A = RA3 at *
  refine .inl ⟨_, M1, .inl ⟨_, M2, .inl ⟨_, M3, .inr (.inl ⟨_, _, _, O1 _ v 1000 rfl hv', ⟨rfl, trivial⟩, rfl, ?_⟩)⟩⟩⟩
  refine .inl ⟨by decide, by decide, RS4, R4, R5, .inr (.inl ⟨_, _, _, O2 _ v 1000 13 (by decide) rfl hv', ⟨rfl, rfl, trivial⟩, rfl, ?_⟩)⟩
  refine .inl ⟨by decide, by decide, ints [0, 1, 2, 5, 30], by kernel_rfl, rfl, .inr (.inl ⟨_, _, _, O3 _ v 1000 16 (by decide) rfl hv', ⟨rfl, rfl, trivial⟩, rfl, _, P0, PF, ?_⟩)⟩
  refine .inr (.inl ⟨_, _, _, sources_o _ rfl 7777, trivial, rfl, ?_⟩)
  refine .inr (.inl ⟨_, _, _, O4 _ v 1000 rfl hv', ⟨rfl, trivial⟩, rfl, ?_⟩)
  clear R4 R5 P0 O1 O2 O3 O4
  refine ⟨fun q f m => ∃ (i k5 : Nat) (l : List (List UInt8)) (y : Value), q = 4 - i ∧ i ≤ 4 ∧ k ≤ k5 ∧ k5 ≤ k + 12 + i ∧ IsL y i ∧ l.length = i ∧ (∀ y ∈ l, y ∈ src4) ∧ f = [(0, SV.ptr 1000 0), (2, SV.ptr 2 0), (3, SV.ptr 3 0), (4, SV.sl 7777 0 4 4), (5, SV.c (.int .i64 at_)), (6, SV.c (.int .i64 (i : Nat)))] ∧ m = [(9101, Blk.own y 9 1 i (cat strA l)), (1000, Blk.row 48 2 (tb v k5)), (3, Blk.row 31 68 (PL.A ⟨l, tol, stale⟩ y)), (2, Blk.row 31 68 (PL.A ⟨[], RQ.of 0 0, 0⟩ (.slice none 0 0))), (7777, Blk.row 9 4 (cat strA src4))], 4, ⟨_, _, ⟨0, k4, [], .slice none 0 0, by omega, by omega, by omega, by omega, .nil, rfl, fun y h => by simp at h, rfl, rfl⟩, ⟨rfl, rfl, rfl, rfl, rfl, rfl, trivial⟩, ⟨.inr ⟨rfl, rfl, rfl⟩, rfl, rfl, congrArg (fun A => some (Blk.row 31 68 A)) polZ.symm, rfl, trivial⟩, rfl⟩, ?_⟩
  rintro q f m ⟨i, k5, l, y, rfl, hi, hk1, hk2, hy, hl, hls, rfl, rfl⟩
  obtain ⟨r6, k6, a6, b6, ⟨i6, rfl, c6⟩, O6⟩ := next_g (n := 4) (by decide) zs k5 (by omega)
  have e6 : IntKind.i64.wrap (1 + i6) = 1 + i6 := i64_in (by omega)
  have G0 := PL.g0 ⟨l, tol, stale⟩ y
  have S0 := fun u => PL.set0 ⟨l, tol, stale⟩ y u
  have PF2 : Fits (PL.A ⟨l, tol, stale⟩ y) 68 := by obtain ⟨ya, yc, rfl⟩ := hy.len; exact PL.fits _ rfl
  generalize hPA : PL.A ⟨l, tol, stale⟩ y = PA at *
  refine .inr (.inl ⟨_, _, _, O6 _ v 1000 rfl hv', ⟨rfl, trivial⟩, rfl, fun h => ?_, fun h => ?_⟩)
  · have h : (i : Int) < IntKind.i64.wrap (1 + i6) := of_decide_eq_true h
    rw [e6] at h
    have hi3 : i ≤ 3 := by omega
    obtain ⟨aj, rfl⟩ : ∃ j : Nat, at_ = j := ⟨at_.toNat, by omega⟩
    have ew : (IntKind.i64.wrap (((aj : Nat) : Int) + (i : Int))).tmod 4 = (((aj + i) % 4 : Nat) : Int) := by
      rw [i64_in (by omega), Int.tmod_eq_emod_of_nonneg (by omega)]; omega
    obtain ⟨src, hs⟩ : ∃ s, src4[(aj + i) % 4]? = some s := ⟨_, List.getElem?_eq_getElem (show (aj + i) % 4 < 4 by omega)⟩
    have g1 : (cat strA src4)[offAt 0 (((aj + i) % 4 : Nat) : Int) ti9.size]? = some (.string (S src)) := by
      have := cat_get strA_size src4 ((aj + i) % 4) src 0 hs (by decide)
      rw [off_one 0 ((aj + i) % 4)]
      simpa [strA] using this
    generalize hX : cat strA src4 = XA at *
    refine ⟨_, G0, by decide, by rw [ew]; omega, by rw [ew]; show (((aj + i) % 4 : Nat) : Int) < ((4 : Nat) : Int); omega, _, (by rw [ew]; exact g1), .inl ⟨by decide, by decide, _, fill_str1 src, rfl, by decide, 9101, i, _, .inl rfl, by decide, strA_one src, rfl, _, strA_ext src, ?_⟩⟩
    obtain ⟨q, hq, hb⟩ := info_str
    refine ⟨by omega, by unfold maxLen; omega, ⟨q, hq, by rw [hb]; omega⟩, by change _ = true; kernel_rfl, fun g2 cap2 => ?_⟩
    refine ⟨by decide, rfl, _, S0 _, by kernel_rfl, ?_⟩
    refine ⟨4 - (i + 1), _, _, by omega, ⟨i + 1, k6, l ++ [src], _, rfl, by omega, by omega, by omega, .some, by simp [hl], ?_, rfl, rfl⟩, ⟨rfl, rfl, rfl, rfl, rfl, c_int (i64_succ (by omega)), trivial⟩, ⟨.inl (own_eq (cat_snoc l src)), rfl, rfl, rfl, rfl, trivial⟩, rfl⟩
    intro z hz
    rcases List.mem_append.1 hz with h9 | h9
    · exact hls z h9
    · have : z = src := by simpa using h9
      rw [this]; exact List.mem_of_getElem? hs
  · have h : ¬ (i : Int) < IntKind.i64.wrap (1 + i6) := of_decide_eq_false h
    rw [e6] at h
    refine ⟨PF2, [(1000, Blk.row 48 2 (tb v k6)), (9101, Blk.own y 9 1 i (cat strA l))], [], ⟨⟨l, tol, stale⟩, y, i, k6, by omega, by omega, PI l hls, hy, hl.symm, by omega, by omega, by rw [hPA]; rfl, rfl⟩, ⟨rfl, .inl rfl, trivial⟩, rfl⟩
end Go.Proofs.YtinojijgeabfnaaGreatDoor
namespace Go.Proofs.YtinojijgeabfnaaGreatDoor
open Go Go.RowKit Go.SX
theorem exact_own {E : Env} (hE : E.P = Tryz.prog) {x y : Value} {xs : List QC} {p : PL} {nx ny : Nat} (hx : nx = xs.length) (hy : ny = p.srcs.length) (hn : nx ≤ 1000000000000) (hm : ny ≤ 1000000000000) (hin : ∀ y ∈ xs, y.In) (hpin : p.In) (k : Int) (ins : List UInt8) (day : Int) : OwnC E 3 [SV.c x, SV.c (.agg (p.A y)), SV.c (.int .i64 k), SV.c (.string (S ins)), SV.c (.int .i64 day)] [(9200, Blk.own x 40 72 nx (cat QC.A xs)), (9101, Blk.own y 9 1 ny (cat strA p.srcs))] (fun r U => r = .bool true ∧ U = [(9200, Blk.own x 40 72 nx (cat QC.A xs)), (9101, Blk.own y 9 1 ny (cat strA p.srcs))]) := by
  refine (read2 (Q := fun r U => r = .bool true ∧ U = []) hx hy (by rw [hE]; exact at3.enters) (fun r U h => by rw [h.2]; exact ⟨rfl, rfl⟩) fun E0 h0 _ hl1 hl2 => exact_q (h0.trans hE) hl1 (by omega) hin hl2 (by omega) hpin ins day).mono ?_
  rintro r U ⟨U0, ⟨h1, rfl⟩, rfl⟩
  exact ⟨h1, rfl⟩
end Go.Proofs.YtinojijgeabfnaaGreatDoor
namespace Go.Proofs.YtinojijgeabfnaaGreatDoor
open Go Go.RowKit Go.SX
theorem splice_left {P Q : Array Value} {off : Nat} {vs : List Value} (h : off + vs.length ≤ P.size) : splice (P ++ Q) off vs = splice P off vs ++ Q := by
  apply Array.ext_getElem?
  intro t
  rw [splice_get, Array.getElem?_append, Array.getElem?_append, splice_get, splice_size]
  have hs : (P ++ Q).size = P.size + Q.size := Array.size_append
  by_cases h1 : t < off ∨ off + vs.length ≤ t
  · rw [if_pos h1, if_pos h1]
  · rw [if_neg h1, if_neg h1]
    have h2 : t < P.size := by omega
    rw [if_pos h2]
    simp only [hs]
    rw [if_pos (by omega), if_pos h2]
theorem splice_right {P Q : Array Value} {off : Nat} {vs : List Value} : splice (P ++ Q) (P.size + off) vs = P ++ splice Q off vs := by
  apply Array.ext_getElem?
  intro t
  rw [splice_get, Array.getElem?_append, Array.getElem?_append, splice_get]
  have hs : (P ++ Q).size = P.size + Q.size := Array.size_append
  by_cases h2 : t < P.size
  · rw [if_pos h2, if_pos h2, if_pos (by omega)]
  · rw [if_neg h2, if_neg h2]
    by_cases h1 : t - P.size < off ∨ off + vs.length ≤ t - P.size
    · rw [if_pos h1, if_pos (by omega)]
    · rw [if_neg h1, if_neg (by omega)]
      rw [show t - (P.size + off) = t - P.size - off by omega]
      simp only [hs]
      by_cases h3 : t - P.size < Q.size
      · rw [if_pos h3, if_pos (by omega)]
      · rw [if_neg h3, if_neg (by omega)]
theorem cat_splice {α : Type} {g : α → Array Value} {s : Nat} (hg : ∀ x, (g x).size = s) {x' : α} {j : Nat} {vs : List Value} : ∀ {l : List α} {i : Nat} {x : α}, l[i]? = some x → j + vs.length ≤ s → splice (g x) j vs = g x' → splice (cat g l) (i * s + j) vs = cat g (l.set i x')
  | [], i, x, h, _, _ => by simp at h
  | y :: r, 0, x, h, hj, he => by
    simp only [List.getElem?_cons_zero, Option.some.injEq] at h
    subst h
    rw [cat, List.set_cons_zero, cat, Nat.zero_mul, Nat.zero_add, splice_left (by rw [hg]; exact hj), he]
  | y :: r, i + 1, x, h, hj, he => by
    rw [cat, List.set_cons_succ, cat, show (i + 1) * s + j = (g y).size + (i * s + j) by rw [hg, Nat.add_mul]; omega, splice_right, cat_splice hg (by simpa using h) hj he]
theorem cat_set1 {α : Type} {g : α → Array Value} {s : Nat} (hg : ∀ x, (g x).size = s) {x' : α} {j : Nat} {v : Value} {l : List α} {i : Nat} {x : α} (h : l[i]? = some x) (hj : j < s) (he : (g x).setIfInBounds j v = g x') : (cat g l).setIfInBounds (i * s + j) v = cat g (l.set i x') :=
  cat_splice (vs := [v]) hg h (show j + 1 ≤ s from hj) he
theorem QC.set70 (a : QC) (n : Int) : a.A.setIfInBounds 70 (.int .i64 n) = ({ a with known := n } : QC).A := by kernel_rfl
theorem PL.settol (p : PL) (v : Value) (r : RQ) : splice (p.A v) (0 + 1) r.A.toList = ({ p with tol := r } : PL).A v := by kernel_rfl
theorem PL.setstale (p : PL) (v : Value) (n : Int) : (p.A v).setIfInBounds (0 + 67) (.int .i64 n) = ({ p with stale := n } : PL).A v := by kernel_rfl
theorem exact_own1 {E : Env} (hE : E.P = Tryz.prog) {x y : Value} {xs : List QC} {p : PL} {nx : Nat} (hx : nx = xs.length) (hy : ∃ a c, y = .slice a 0 c) (hp0 : p.srcs = []) (hn : nx ≤ 1000000000000) (hin : ∀ y ∈ xs, y.In) (hpin : p.In) (k : Int) (ins : List UInt8) (day : Int) : OwnC E 3 [SV.c x, SV.c (.agg (p.A y)), SV.c (.int .i64 k), SV.c (.string (S ins)), SV.c (.int .i64 day)] [(9200, Blk.own x 40 72 nx (cat QC.A xs))] (fun r U => r = .bool true ∧ U = [(9200, Blk.own x 40 72 nx (cat QC.A xs))]) := by
  subst hx
  have hl : ∀ E0 : Env, Lst E0 y 1 p.srcs.length (cat strA p.srcs) := fun E0 => by
    obtain ⟨a, c, rfl⟩ := hy
    rw [hp0]
    exact ⟨rfl, by unfold maxLen; simp, Go.SX.cat_all strA_one [], a, c, rfl, Nat.zero_le _, fun h => absurd h (by simp)⟩
  refine (OwnC.with_own (k := 9200) (v := x) (e := 40) (sz := 72) (n := xs.length) (A := cat QC.A xs) (pre := []) rfl rfl (Go.SX.cat_all QC.all1 xs) (by rw [hE]; exact at3.enters) (fun E0 h hl1 => exact_q (k := k) (h.trans hE) hl1 hn hin (hl E0) (by rw [hp0]; simp) hpin ins day) (fun x U h => by rw [h.2]; rfl)).mono ?_
  rintro r U ⟨U0, ⟨h1, rfl⟩, rfl⟩
  exact ⟨h1, rfl⟩
/-- where a policy stands, and its sources -/
def PolAt (p : PL) (y : Value) (M : MemL) : Prop := (∃ n, n = p.srcs.length ∧ n ≤ 10 ∧ IsL y n ∧ M = [(9101, Blk.own y 9 1 n (cat strA p.srcs))]) ∨ (p.srcs = [] ∧ (∃ a c, y = .slice a 0 c) ∧ M = [])
set_option smartUnfolding false in
set_option maxRecDepth 100000 in
set_option maxHeartbeats 4000000 in
theorem selectorSpoilt_f {v : Value} {zs : List Int} {n0 : Int} {r : RQ} (hr : r.In) (hn0 : -9223372036854775808 ≤ n0 ∧ n0 ≤ 9223372036854775807) (w : World) (hv : Tp (envC Tryz.prog tt Tryz.f5.ntmps w [] []).toEnv v zs) : Calls Tryz.prog 5 #[v, .int .i64 n0, .agg r.A] w fun e w' => e = .returned (.bool true) ∧ Below w.heap.size w w' := by
  refine sx_atX [12, 14] tt_ok mixed at5 [v, .int .i64 n0, .agg r.A] _ w rfl ?_
  have hv0 := hv
  obtain ⟨a, cap, rfl, -⟩ := hv0
  refine ⟨r.A_size, _, fill_tape a zs.length cap rfl, rfl, ?_⟩
  generalize hvv : Value.slice a zs.length cap = v at *
  have hv' : Tp (envC Tryz.prog tt Tryz.f5.ntmps w [] [] [12, 14]).toEnv v zs := hv
  obtain ⟨r2, k2, a2, b2, ⟨i2, rfl, c2⟩, O2⟩ := next_g (n := 4) (by decide) zs 0 (by omega)
  obtain ⟨n, rfl⟩ : ∃ n : Nat, i2 = n := ⟨i2.toNat, by omega⟩
  refine .inr (.inl ⟨_, _, _, O2 _ v 12 rfl hv', ⟨rfl, trivial⟩, rfl, ?_⟩)
  refine .inr (.inr (.inr ⟨[(1000, 12)], [3000], [_, _, _], [_], _, quotes_z rfl hv' (n := n) (by omega) (by omega) (day := 9497) (by decide), rfl, ⟨rfl, trivial⟩, rfl, trivial, ?_⟩))
  rintro x U ⟨xs, k3, last, h1, h2, hx, hxs, hbk, hlast, rfl⟩
  refine ⟨rfl, ?_⟩
  have hin : ∀ y ∈ xs, y.In := fun y hy => madeQ_in (hbk.each y hy)
  obtain ⟨xa, xc, rfl⟩ := hx.len
  refine .inr (.inr (.inr ⟨[(1000, 12)], [9101], [_], [_], _, policy_z rfl hv' (k := k3) (by omega), rfl, ⟨rfl, trivial⟩, rfl, trivial, ?_⟩))
  rintro rp U ⟨p, y, m, k4, p1, p2, hpin, hy, hm, hm1, hm4, rfl, rfl⟩
  have hk4 : k4 ≤ 1000 := by omega
  rcases hy with ⟨hq, hq2⟩ | ⟨gy, yc, hq⟩
  · omega
  subst hq
  have PF := p.fits (v := .slice (some ⟨gy, 0, none⟩) m yc) rfl
  obtain ⟨r5, k5, a5, b5, ⟨i5, rfl, c5⟩, O5⟩ := next_g (n := 4) (by decide) zs k4 (by omega)
  refine ⟨rfl, PF, ?_⟩
  refine ⟨fun f mm => ∃ (p : PL) (y : Value) (k6 : Nat) (M : MemL), p.In ∧ k6 ≤ 1010 ∧ PolAt p y M ∧ f = [(7, SV.ptr 12 0), (8, SV.c (.slice xa n xc)), (9, SV.ptr 9 0)] ∧ mm = (12, Blk.row 48 2 (tb v k6)) :: (9, Blk.row 31 68 (p.A y)) :: (3000, Blk.own (.slice xa n xc) 40 72 n (cat QC.A xs)) :: M, ?_, ?_⟩
  · have G0 := p.g0 (.slice (some ⟨gy, 0, none⟩) m yc)
    have S0 := fun u => p.set0 (.slice (some ⟨gy, 0, none⟩) m yc) u
    have S1 := fun r => p.settol (.slice (some ⟨gy, 0, none⟩) m yc) r
    have S2 := fun n => p.setstale (.slice (some ⟨gy, 0, none⟩) m yc) n
    generalize hPA : p.A (.slice (some ⟨gy, 0, none⟩) m yc) = PA at *
    refine .inr (.inl ⟨_, _, _, O5 _ v 12 rfl hv', ⟨rfl, trivial⟩, rfl, fun h0 => ?_, fun h0 => ⟨fun h1 => ?_, fun h1 => ⟨fun h2 => ?_, fun h2 => ?_⟩⟩⟩)
    · obtain ⟨s0, hs0⟩ : ∃ s, p.srcs[0]? = some s := ⟨_, List.getElem?_eq_getElem (by omega)⟩
      have hs0l := hpin.srcs s0 (List.mem_of_getElem? hs0)
      have g1 : (cat strA p.srcs)[offAt 0 0 ti9.size]? = some (.string (S s0)) := by
        have := cat_get strA_size p.srcs 0 s0 0 hs0 (by decide)
        rw [show offAt 0 0 ti9.size = 0 from rfl]
        simpa [strA] using this
      obtain ⟨r6, k6, a6, b6, ⟨l6, rfl, c6⟩, O6⟩ := one_g (xs := [[], [65], s0, [122]]) (by simp) (by simp) zs k5 (by omega)
      have hl6 : l6.length ≤ 9223372036854775807 := by simp at c6; rcases c6 with h | h | h | h <;> rw [h] <;> first | exact hs0l | decide
      generalize hX : cat strA p.srcs = XA at *
      refine ⟨_, G0, _, G0, by decide, by omega, .inr ⟨9101, gy, _, m, _, _, _, _, rfl, rfl, _, g1, ?_⟩⟩
      refine .inl ⟨by decide, by decide, strs [[], [65], s0, [122]], by kernel_rfl, rfl, .inr (.inl ⟨_, _, _, O6 _ v 12 35 (by decide) rfl hv', ⟨rfl, rfl, trivial⟩, rfl, ?_⟩)⟩
      refine .inl ⟨by decide, by decide, _, fill_str1 l6, rfl, by decide, 9101, m, _, .inl rfl, by decide, strA_one l6, rfl, _, strA_ext l6, ?_⟩
      obtain ⟨q, hq, hb⟩ := info_str
      refine ⟨by omega, by unfold maxLen; omega, ⟨q, hq, by rw [hb]; omega⟩, by change _ = true; kernel_rfl, fun g2 cap2 => ?_⟩
      refine ⟨by decide, rfl, _, S0 _, by kernel_rfl, ?_⟩
      refine ⟨_, _, ⟨⟨p.srcs ++ [l6], p.tol, p.stale⟩, .slice (some ⟨g2, 0, none⟩) (m + 1) cap2, k6, [(9101, Blk.own (.slice (some ⟨g2, 0, none⟩) (m + 1) cap2) 9 1 (m + 1) (cat strA (p.srcs ++ [l6])))], ⟨hpin.tol, ?_, hpin.stale⟩, by omega, .inl ⟨m + 1, by simp [hm], by omega, .some, rfl⟩, rfl, rfl⟩, ⟨rfl, rfl, rfl, trivial⟩, ⟨rfl, rfl, .inl rfl, .inl (own_eq (by rw [← hX, cat_snoc])), trivial⟩, rfl⟩
      intro z hz
      rcases List.mem_append.1 hz with h9 | h9
      · exact hpin.srcs z h9
      · have : z = l6 := by simpa using h9
        rw [this]; exact hl6
    · have hE' : VOk (envC Tryz.prog tt Tryz.f5.ntmps w [] [] [12, 14]) := tt_ok
      have SS := runs_shi hE' Tryz.underlying23 (j := ti9) rfl (a := some ⟨gy, 0, none⟩) (n := m) (cap := yc) (k := .i64) 0 rfl (Nat.zero_le _)
      refine ⟨_, G0, _, SS, by decide, rfl, _, S0 _, ?_⟩
      refine ⟨_, _, ⟨⟨[], p.tol, p.stale⟩, .slice (some ⟨gy, 0, none⟩) 0 yc, k5, [], ⟨hpin.tol, by simp, hpin.stale⟩, by omega, .inr ⟨rfl, ⟨_, _, rfl⟩, rfl⟩, rfl, rfl⟩, ⟨rfl, rfl, rfl, trivial⟩, ⟨rfl, rfl, .inl rfl, trivial⟩, rfl⟩
    · have M1 := made_of (n := -1) (d := 100) (by decide) (by decide) (by decide) (by decide)
      have M2 := made_of (n := 101) (d := 100) (by decide) (by decide) (by decide) (by decide)
      have M3 := made_of (n := 1) (d := 3) (by decide) (by decide) (by decide) (by decide)
      obtain ⟨r6, k6, a6, b6, ⟨tol, rfl, c6⟩, O6⟩ := pickratio4_g (a := r) (b := (mkQ (-1) 100).1) (c := (mkQ 101 100).1) (d' := (mkQ 1 3).1) (by intro x hx; simp at hx; rcases hx with rfl | rfl | rfl | rfl; exact hr; exact mkQ_in _ _; exact mkQ_in _ _; exact mkQ_in _ _) zs k5 (by omega)
      have R4 := fill_rats4 r (mkQ (-1) 100).1 (mkQ 101 100).1 (mkQ 1 3).1
      have R5 : (rats [r, (mkQ (-1) 100).1, (mkQ 101 100).1, (mkQ 1 3).1]).size = 264 := by simp [rats, RQ.A_size]
      have TF := tol.A_fits
      generalize rats [r, (mkQ (-1) 100).1, (mkQ 101 100).1, (mkQ 1 3).1] = RS4 at *
      generalize (mkQ (-1) 100).1.A = RA1 at *
      generalize (mkQ 101 100).1.A = RA2 at *
      generalize (mkQ 1 3).1.A = RA3 at *
      refine .inl ⟨_, M1, .inl ⟨_, M2, .inl ⟨_, M3, .inl ⟨by decide, by decide, RS4, R4, R5, .inr (.inl ⟨_, _, _, O6 _ v 12 53 (by decide) rfl hv', ⟨rfl, rfl, trivial⟩, rfl, by decide, TF, _, S1 tol, by kernel_rfl, ?_⟩)⟩⟩⟩⟩
      exact ⟨_, _, ⟨⟨p.srcs, tol, p.stale⟩, .slice (some ⟨gy, 0, none⟩) m yc, k6, [(9101, Blk.own (.slice (some ⟨gy, 0, none⟩) m yc) 9 1 m (cat strA p.srcs))], ⟨c6, hpin.srcs, hpin.stale⟩, by omega, .inl ⟨m, hm, by omega, .some, rfl⟩, rfl, rfl⟩, ⟨rfl, rfl, rfl, trivial⟩, ⟨rfl, rfl, .inl rfl, .inl rfl, trivial⟩, rfl⟩
    · obtain ⟨r6, k6, a6, b6, ⟨st, rfl, c6⟩, O6⟩ := pick_g (xs := [n0, -1, 31, 30]) (by simp) (by simp) zs k5 (by omega)
      have hst : -9223372036854775808 ≤ st ∧ st ≤ 9223372036854775807 := by simp at c6; omega
      refine .inl ⟨by decide, by decide, ints [n0, -1, 31, 30], by kernel_rfl, rfl, .inr (.inl ⟨_, _, _, O6 _ v 12 23 (by decide) rfl hv', ⟨rfl, rfl, trivial⟩, rfl, by decide, rfl, _, S2 st, ?_⟩)⟩
      exact ⟨_, _, ⟨⟨p.srcs, p.tol, st⟩, .slice (some ⟨gy, 0, none⟩) m yc, k6, [(9101, Blk.own (.slice (some ⟨gy, 0, none⟩) m yc) 9 1 m (cat strA p.srcs))], ⟨hpin.tol, hpin.srcs, hst⟩, by omega, .inl ⟨m, hm, by omega, .some, rfl⟩, rfl, rfl⟩, ⟨rfl, rfl, rfl, trivial⟩, ⟨rfl, rfl, .inl rfl, .inl rfl, trivial⟩, rfl⟩
  · rintro f1 m1 ⟨p, y, k6, M, hpin, hk6, hpa, rfl, rfl⟩
    clear O2 O5 PF
    have hpa' := hpa
    refine ⟨fun f mm => ∃ (p : PL) (y : Value) (k6 : Nat) (M : MemL) (xs : List QC), p.In ∧ k6 ≤ 1020 ∧ PolAt p y M ∧ (∀ y ∈ xs, y.In) ∧ xs.length = n ∧ f = [(7, SV.ptr 12 0), (8, SV.c (.slice xa n xc)), (9, SV.ptr 9 0)] ∧ mm = (12, Blk.row 48 2 (tb v k6)) :: (9, Blk.row 31 68 (p.A y)) :: (3000, Blk.own (.slice xa n xc) 40 72 n (cat QC.A xs)) :: M, ?_, ?_⟩
    · rcases hpa with ⟨n2, q1, q2, q3, rfl⟩ | ⟨q1, q2, rfl⟩
      · generalize hPA : p.A y = PA at *
        by_cases hn1 : 0 < n
        · rcases hx with ⟨hq, hq2⟩ | ⟨gx, xc2, hq⟩
          · omega
          cases hq
          obtain ⟨r7, k7, a7, b7, ⟨ch, rfl⟩, O7⟩ := chance_g (a := 1) (b := 3) (by decide) zs k6 (by omega)
          refine ⟨_, fun w' _ => run_len_sl Tryz.underlying22 w', fun _ => .inr (.inl ⟨_, _, _, O7 _ v 12 rfl hv', ⟨rfl, trivial⟩, rfl, fun hc => ?_, fun hc => ?_⟩), fun h => absurd (of_decide_eq_false h) (by omega)⟩
          · obtain ⟨q0, hq0⟩ : ∃ q, xs[0]? = some q := ⟨_, List.getElem?_eq_getElem (by omega)⟩
            obtain ⟨ql, hql⟩ : ∃ q, xs[n - 1]? = some q := ⟨_, List.getElem?_eq_getElem (by omega)⟩
            have ew : IntKind.i64.wrap ((n : Int) - 1) = ((n - 1 : Nat) : Int) := by rw [i64_in (by omega)]; omega
            have g1 : (cat QC.A xs)[(n - 1) * 72 + 70]? = some (.int .i64 ql.known) := by
              rw [cat_get QC.size xs (n - 1) ql 70 hql (by decide)]; exact ql.g70
            have j1 : 0 * 72 + 70 < (cat QC.A xs).size := by rw [Go.SX.cat_size QC.size]; omega
            obtain ⟨r8, k8, a8, b8, ⟨kn, rfl, c8⟩, O8⟩ := pick_g (xs := [0, IntKind.i64.wrap (ql.known + 1)]) (by simp) (by simp) zs k7 (by omega)
            have st : (cat QC.A xs).setIfInBounds (0 * 72 + 70) (.int .i64 kn) = cat QC.A (xs.set 0 { q0 with known := kn }) := cat_set1 QC.size hq0 (by decide) (QC.set70 q0 kn)
            have hin3 : ∀ z ∈ xs.set 0 { q0 with known := kn }, z.In := fun z hz => by
              rcases List.mem_or_eq_of_mem_set hz with h9 | h9
              · exact hin z h9
              · rw [h9]
                have := hin q0 (List.mem_of_getElem? hq0)
                exact ⟨this.price, this.src, this.ins, this.cur, this.day⟩
            generalize hX : cat QC.A xs = XA at *
            refine ⟨_, fun w' _ => run_len_sl Tryz.underlying22 w', by rw [ew]; omega, by rw [ew]; omega, .inr ⟨3000, gx, _, n, _, _, _, _, rfl, rfl, _, (by rw [ew, off72]; exact g1), ?_⟩⟩
            refine .inl ⟨by decide, by decide, ints [0, IntKind.i64.wrap (ql.known + 1)], by kernel_rfl, rfl, .inr (.inl ⟨_, _, _, O8 _ v 12 73 (by decide) rfl hv', ⟨rfl, rfl, trivial⟩, rfl, ?_⟩)⟩
            refine ⟨by decide, by omega, ⟨3000, gx, _, n, _, _, _, _, rfl, rfl, j1, rfl, cat QC.A (xs.set 0 { q0 with known := kn }), st, ?_⟩⟩
            exact ⟨_, _, ⟨p, y, k8, [(9101, Blk.own y 9 1 n2 (cat strA p.srcs))], xs.set 0 { q0 with known := kn }, hpin, by omega, hpa', hin3, by rw [List.length_set]; exact hxs, rfl, rfl⟩, ⟨rfl, rfl, rfl, trivial⟩, ⟨rfl, (by rw [hPA]; rfl), .inl rfl, .inl rfl, trivial⟩, rfl⟩
          · exact ⟨_, _, ⟨p, y, k7, [(9101, Blk.own y 9 1 n2 (cat strA p.srcs))], xs, hpin, by omega, hpa', hin, hxs, rfl, rfl⟩, ⟨rfl, rfl, rfl, trivial⟩, ⟨rfl, (by rw [hPA]; rfl), .inl rfl, .inl rfl, trivial⟩, rfl⟩
        · refine ⟨_, fun w' _ => run_len_sl Tryz.underlying22 w', fun h => absurd (of_decide_eq_true h) (by omega), fun _ => ⟨fun h => absurd h (by decide), fun _ => ?_⟩⟩
          exact ⟨_, _, ⟨p, y, k6, [(9101, Blk.own y 9 1 n2 (cat strA p.srcs))], xs, hpin, by omega, hpa', hin, hxs, rfl, rfl⟩, ⟨rfl, rfl, rfl, trivial⟩, ⟨rfl, (by rw [hPA]; rfl), .inl rfl, .inl rfl, trivial⟩, rfl⟩
      · generalize hPA : p.A y = PA at *
        by_cases hn1 : 0 < n
        · rcases hx with ⟨hq, hq2⟩ | ⟨gx, xc2, hq⟩
          · omega
          cases hq
          obtain ⟨r7, k7, a7, b7, ⟨ch, rfl⟩, O7⟩ := chance_g (a := 1) (b := 3) (by decide) zs k6 (by omega)
          refine ⟨_, fun w' _ => run_len_sl Tryz.underlying22 w', fun _ => .inr (.inl ⟨_, _, _, O7 _ v 12 rfl hv', ⟨rfl, trivial⟩, rfl, fun hc => ?_, fun hc => ?_⟩), fun h => absurd (of_decide_eq_false h) (by omega)⟩
          · obtain ⟨q0, hq0⟩ : ∃ q, xs[0]? = some q := ⟨_, List.getElem?_eq_getElem (by omega)⟩
            obtain ⟨ql, hql⟩ : ∃ q, xs[n - 1]? = some q := ⟨_, List.getElem?_eq_getElem (by omega)⟩
            have ew : IntKind.i64.wrap ((n : Int) - 1) = ((n - 1 : Nat) : Int) := by rw [i64_in (by omega)]; omega
            have g1 : (cat QC.A xs)[(n - 1) * 72 + 70]? = some (.int .i64 ql.known) := by
              rw [cat_get QC.size xs (n - 1) ql 70 hql (by decide)]; exact ql.g70
            have j1 : 0 * 72 + 70 < (cat QC.A xs).size := by rw [Go.SX.cat_size QC.size]; omega
            obtain ⟨r8, k8, a8, b8, ⟨kn, rfl, c8⟩, O8⟩ := pick_g (xs := [0, IntKind.i64.wrap (ql.known + 1)]) (by simp) (by simp) zs k7 (by omega)
            have st : (cat QC.A xs).setIfInBounds (0 * 72 + 70) (.int .i64 kn) = cat QC.A (xs.set 0 { q0 with known := kn }) := cat_set1 QC.size hq0 (by decide) (QC.set70 q0 kn)
            have hin3 : ∀ z ∈ xs.set 0 { q0 with known := kn }, z.In := fun z hz => by
              rcases List.mem_or_eq_of_mem_set hz with h9 | h9
              · exact hin z h9
              · rw [h9]
                have := hin q0 (List.mem_of_getElem? hq0)
                exact ⟨this.price, this.src, this.ins, this.cur, this.day⟩
            generalize hX : cat QC.A xs = XA at *
            refine ⟨_, fun w' _ => run_len_sl Tryz.underlying22 w', by rw [ew]; omega, by rw [ew]; omega, .inr ⟨3000, gx, _, n, _, _, _, _, rfl, rfl, _, (by rw [ew, off72]; exact g1), ?_⟩⟩
            refine .inl ⟨by decide, by decide, ints [0, IntKind.i64.wrap (ql.known + 1)], by kernel_rfl, rfl, .inr (.inl ⟨_, _, _, O8 _ v 12 73 (by decide) rfl hv', ⟨rfl, rfl, trivial⟩, rfl, ?_⟩)⟩
            refine ⟨by decide, by omega, ⟨3000, gx, _, n, _, _, _, _, rfl, rfl, j1, rfl, cat QC.A (xs.set 0 { q0 with known := kn }), st, ?_⟩⟩
            exact ⟨_, _, ⟨p, y, k8, [], xs.set 0 { q0 with known := kn }, hpin, by omega, hpa', hin3, by rw [List.length_set]; exact hxs, rfl, rfl⟩, ⟨rfl, rfl, rfl, trivial⟩, ⟨rfl, (by rw [hPA]; rfl), .inl rfl, trivial⟩, rfl⟩
          · exact ⟨_, _, ⟨p, y, k7, [], xs, hpin, by omega, hpa', hin, hxs, rfl, rfl⟩, ⟨rfl, rfl, rfl, trivial⟩, ⟨rfl, (by rw [hPA]; rfl), .inl rfl, trivial⟩, rfl⟩
        · refine ⟨_, fun w' _ => run_len_sl Tryz.underlying22 w', fun h => absurd (of_decide_eq_true h) (by omega), fun _ => ⟨fun h => absurd h (by decide), fun _ => ?_⟩⟩
          exact ⟨_, _, ⟨p, y, k6, [], xs, hpin, by omega, hpa', hin, hxs, rfl, rfl⟩, ⟨rfl, rfl, rfl, trivial⟩, ⟨rfl, (by rw [hPA]; rfl), .inl rfl, trivial⟩, rfl⟩
    · rintro f2 m2 ⟨p, y, k7, M, xs2, hpin, hk7, hpa, hin2, hxs2, rfl, rfl⟩
      obtain ⟨r8, k8, a8, b8, ⟨dy, rfl, c8⟩, O8⟩ := pick_g (xs := [9497, -1, 73049]) (by decide) (by decide) zs k7 (by omega)
      rcases hpa with ⟨n2, q1, q2, q3, rfl⟩ | ⟨q1, q2, rfl⟩
      · have X1 := exact_own (E := (envC Tryz.prog tt Tryz.f5.ntmps w [] [] [12, 14]).toEnv) rfl (x := .slice xa n xc) (y := y) (xs := xs2) (p := p) (nx := n) (ny := n2) hxs2.symm q1 (by omega) (by omega) hin2 hpin 30 acme dy
        generalize hPA : p.A y = PA at *
        generalize hX : cat QC.A xs2 = XA at *
        refine .inl ⟨by decide, by decide, ints [9497, -1, 73049], by kernel_rfl, rfl, .inr (.inl ⟨_, _, _, O8 _ v 12 80 (by decide) rfl hv', ⟨rfl, rfl, trivial⟩, rfl, ?_⟩)⟩
        refine .inr (.inr (.inl ⟨[(9200, 3000)], [_, _, _, _, _], [_, _], _, [_, _], X1, rfl, ⟨.inl rfl, .inl rfl, trivial⟩, rfl, rfl, fun _ => .inl ⟨_, known_f, by kernel_rfl, rfl, trivial⟩, fun h => absurd h (by decide)⟩))
      · have X1 := exact_own1 (E := (envC Tryz.prog tt Tryz.f5.ntmps w [] [] [12, 14]).toEnv) rfl (x := .slice xa n xc) (y := y) (xs := xs2) (p := p) (nx := n) hxs2.symm q2 q1 (by omega) hin2 hpin 30 acme dy
        generalize hPA : p.A y = PA at *
        generalize hX : cat QC.A xs2 = XA at *
        refine .inl ⟨by decide, by decide, ints [9497, -1, 73049], by kernel_rfl, rfl, .inr (.inl ⟨_, _, _, O8 _ v 12 80 (by decide) rfl hv', ⟨rfl, rfl, trivial⟩, rfl, ?_⟩)⟩
        refine .inr (.inr (.inl ⟨[(9200, 3000)], [_, _, _, _, _], [_], _, [_], X1, rfl, ⟨.inl rfl, trivial⟩, rfl, rfl, fun _ => .inl ⟨_, known_f, by kernel_rfl, rfl, trivial⟩, fun h => absurd h (by decide)⟩))
end Go.Proofs.YtinojijgeabfnaaGreatDoor
