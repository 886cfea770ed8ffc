/- walks: whole numbers, sums; no condition. -/
import Derived.Test.YtnfmpddhcjkjbaaGreatDoorV4
namespace Go.Proofs.YtnfmpddhcjkjbaaGreatDoor
open Go Go.RowKit Go.SX
theorem lA_rep (n : Nat) : Array.replicate n (Value.int .u32 0) = lA (fun _ => 0) n := by
  apply Array.ext_getElem?
  intro i
  by_cases h : i < n
  · rw [lA_get _ h]; simp [h]
  · rw [Array.getElem?_eq_none (by simp; omega), Array.getElem?_eq_none (by simp [lA_size]; omega)]
theorem dg_hi {N i : Nat} (h : N < 18446744073709551616) (hi : 2 ≤ i) : dg N i = 0 := dg_of_lt (n := 2) (by rw [show BB ^ 2 = 18446744073709551616 from by decide]; exact h) hi
theorem fill_lo {N : Nat} (hN : N < 18446744073709551616) {a b : Int} (ha : a = (N : Int) % 4294967296) (hb : b = (N : Int) / 4294967296) : Instr.fill (fun k => some (k * 1, 1)) (Array.replicate 32 (Value.int .u32 0)) [(0, .int .u32 a), (1, .int .u32 b)] = some (mA N) := by
  have e : Instr.fill (fun k => some (k * 1, 1)) (Array.replicate 32 (Value.int .u32 0)) [(0, .int .u32 a), (1, .int .u32 b)] = some (((Array.replicate 32 (Value.int .u32 0)).setIfInBounds 0 (.int .u32 a)).setIfInBounds 1 (.int .u32 b)) := rfl
  have e0 : a = ((dg N 0 : Nat) : Int) := by rw [ha]; simp [dg, BB_eq]
  have e1 : b = ((dg N 1 : Nat) : Int) := by rw [hb]; simp only [dg, BB_eq, Nat.pow_one]; omega
  rw [e, e0, e1, lA_rep, lA_set, lA_set]
  refine some_eq (lA_congr fun i hi => ?_)
  by_cases h1 : i = 1
  · simp [h1]
  · by_cases h0 : i = 0
    · simp [h0]
    · rw [if_neg h1, if_neg h0, dg_hi hN (by omega)]
theorem two64 : 18446744073709551616 ≤ BB ^ 32 := by rw [show 18446744073709551616 = BB ^ 2 from by decide]; exact Nat.pow_le_pow_right BB_pos (by omega)
theorem zN_int (n : Int) : zN (decide (n < 0)) n.natAbs = n := by
  unfold zN
  by_cases h : n < 0
  · simp [h]; omega
  · simp [h]; omega
set_option smartUnfolding false in
set_option maxRecDepth 100000 in
set_option maxHeartbeats 2000000 in
theorem fromInt_z (n : Int) (h1 : -9223372036854775808 ≤ n) (h2 : n ≤ 9223372036854775807) : Pure Tryz.prog 85 [SV.c (.int .i64 n)] (.agg (eA n)) := by
  refine sx_pure tt_ok mixed at85 _ _ rfl rfl fun w => ?_
  have hN : n.natAbs < 18446744073709551616 := by omega
  have key : Pure Tryz.prog 120 [SV.c (.bool (decide (n < 0))), SV.c (.agg (mA n.natAbs))] (.agg (eA n)) := by
    have := made_z (decide (n < 0)) n.natAbs (Nat.lt_of_lt_of_le hN two64)
    rwa [zN_int] at this
  refine ⟨fun h => ?_, fun h => ?_⟩
  · have hn := of_decide_eq_true h
    have e : IntKind.u64.wrap (0 - IntKind.u64.wrap n) = ((n.natAbs : Nat) : Int) := by simp only [u64_wrap]; omega
    refine ⟨by decide, mA n.natAbs, fill_lo hN (by rw [e, u32_wrap]) (by rw [e, sh_nat, u32_wrap]; show ((n.natAbs / 4294967296 : Nat) : Int) % _ = _; omega), .inl ⟨_, key, eA_fits _, rfl, trivial⟩⟩
  · have hn := of_decide_eq_false h
    have e : IntKind.u64.wrap n = ((n.natAbs : Nat) : Int) := by simp only [u64_wrap]; omega
    refine ⟨by decide, mA n.natAbs, fill_lo hN (by rw [e, u32_wrap]) (by rw [e, sh_nat, u32_wrap]; show ((n.natAbs / 4294967296 : Nat) : Int) % _ = _; omega), .inl ⟨_, key, eA_fits _, rfl, trivial⟩⟩
/-- a number that fits, or the error of an overflow -/
def fitR (z : Int) : Value := if z.natAbs < BB ^ 32 then .tuple #[.agg (eA z), .int .i64 0] else .tuple #[.agg (eA 0), .int .i64 10]
theorem eA_zero : (#[.bool false] ++ Array.replicate 32 (Value.int .u32 0)) = eA 0 := rfl
theorem ti_zero : ti25.zero = eA 0 := rfl
theorem neq_true {a b : Bool} (h : (a != b) = true) : a = !b := by cases a <;> cases b <;> simp_all
theorem add_far {x y : Int} (h : decide (x < 0) = !decide (y < 0)) : (x.natAbs < y.natAbs → zN (decide (y < 0)) (y.natAbs - x.natAbs) = x + y) ∧ (¬ x.natAbs < y.natAbs → zN (decide (x < 0)) (x.natAbs - y.natAbs) = x + y) := by
  unfold zN
  by_cases hx : x < 0 <;> by_cases hy : y < 0 <;> simp [hx, hy] at h ⊢ <;> omega
theorem add_near {x y : Int} (h : decide (x < 0) = decide (y < 0)) : (x + y).natAbs = x.natAbs + y.natAbs ∧ zN (decide (x < 0)) (x.natAbs + y.natAbs) = x + y := by
  unfold zN
  by_cases hx : x < 0 <;> by_cases hy : y < 0 <;> simp [hx, hy] at h ⊢ <;> omega
theorem cmpS_neg (a b : Nat) : decide (cmpS a b < 0) = decide (a < b) := by
  unfold cmpS
  by_cases h : a < b
  · simp [h]
  · by_cases h2 : b < a <;> simp [h, h2]
set_option smartUnfolding false in
set_option maxRecDepth 100000 in
set_option maxHeartbeats 2000000 in
theorem add_z {A B : Array Value} {x y : Int} (hA : IsI A x) (hB : IsI B y) : Pure Tryz.prog 134 [SV.c (.agg A), SV.c (.agg B)] (fitR (x + y)) := by
  refine sx_pure tt_ok mixed at134 _ _ rfl rfl fun w => ?_
  have hx := hA.lt
  have hy := hB.lt
  refine ⟨hA.size, hB.size, .inl ⟨_, split_z hA, mA_fits _, .inl ⟨_, split_z hB, mA_fits _, fun h => .inr ⟨_, _, _, compare_own hx hy _ rfl _ _ (by decide), ⟨rfl, rfl, trivial⟩, rfl, fun h2 => ?_, fun h2 => ?_⟩, fun h => .inr ⟨_, _, _, plus_own hx hy _ rfl _ _ (by decide), ⟨rfl, rfl, trivial⟩, rfl, mA_fits _, fun h2 => ?_, fun h2 => ?_⟩⟩⟩⟩
  · rw [cmpS_neg] at h2
    have hlt := of_decide_eq_true h2
    have e := (add_far (neq_true h)).1 hlt
    refine .inr ⟨_, _, _, minus_own hy (Nat.le_of_lt hlt) _ rfl _ _ (by decide), ⟨rfl, rfl, trivial⟩, rfl, .inl ⟨_, made_z _ _ (Nat.lt_of_le_of_lt (Nat.sub_le _ _) hy), eA_fits _, ?_, trivial⟩⟩
    have hb : (x + y).natAbs < BB ^ 32 := by rw [← e, zN_abs]; exact Nat.lt_of_le_of_lt (Nat.sub_le _ _) hy
    rw [e, fitR, if_pos hb]; rfl
  · rw [cmpS_neg] at h2
    have hlt := of_decide_eq_false h2
    have e := (add_far (neq_true h)).2 hlt
    refine .inr ⟨_, _, _, minus_own hx (Nat.le_of_not_lt hlt) _ rfl _ _ (by decide), ⟨rfl, rfl, trivial⟩, rfl, .inl ⟨_, made_z _ _ (Nat.lt_of_le_of_lt (Nat.sub_le _ _) hx), eA_fits _, ?_, trivial⟩⟩
    have hb : (x + y).natAbs < BB ^ 32 := by rw [← e, zN_abs]; exact Nat.lt_of_le_of_lt (Nat.sub_le _ _) hx
    rw [e, fitR, if_pos hb]; rfl
  · have h2 : ¬ (x.natAbs + y.natAbs < BB ^ 32) := by simpa using h2
    have h1 : decide (x < 0) = decide (y < 0) := by simpa using h
    refine ⟨eA 0, some_eq rfl, eA_fits _, ?_, trivial⟩
    rw [fitR, if_neg (by rw [(add_near h1).1]; exact h2)]; rfl
  · have h2 : x.natAbs + y.natAbs < BB ^ 32 := by simpa using h2
    have h1 : decide (x < 0) = decide (y < 0) := by simpa using h
    have e := (add_near h1).2
    rw [Nat.mod_eq_of_lt h2]
    refine .inl ⟨_, made_z _ _ h2, eA_fits _, ?_, trivial⟩
    rw [e, fitR, if_pos (by rw [(add_near h1).1]; exact h2)]; rfl
theorem natAbs_neg' {z : Int} (h : z.natAbs < BB ^ 32) : (-z).natAbs < BB ^ 32 := by simpa using h
end Go.Proofs.YtnfmpddhcjkjbaaGreatDoor
