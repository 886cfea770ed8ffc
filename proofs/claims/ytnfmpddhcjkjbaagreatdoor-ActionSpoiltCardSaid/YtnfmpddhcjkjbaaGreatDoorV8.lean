/- walks: quotients of whole numbers, the greatest common divisor, small numbers; no condition. -/
import Derived.Test.YtnfmpddhcjkjbaaGreatDoorV7

namespace Go.Proofs.YtnfmpddhcjkjbaaGreatDoor
open Go Go.RowKit Go.SX
/-- quotient and remainder out of those of the magnitudes -/
theorem dm_pos (x : Int) (b : Nat) (hb : 0 < b) : if x < 0 ∧ x.natAbs % b ≠ 0 then x / (b : Int) = -((x.natAbs / b + 1 : Nat) : Int) ∧ x % (b : Int) = ((b - x.natAbs % b : Nat) : Int) else x / (b : Int) = zN (decide (x < 0)) (x.natAbs / b) ∧ x % (b : Int) = ((x.natAbs % b : Nat) : Int) := by
  have h1 := Nat.div_add_mod x.natAbs b
  have h2 := Nat.mod_lt x.natAbs hb
  have h1' : (b : Int) * ((x.natAbs / b : Nat) : Int) + ((x.natAbs % b : Nat) : Int) = (x.natAbs : Int) := by rw [← Int.natCast_mul, ← Int.natCast_add, h1]
  generalize x.natAbs / b = q at *
  generalize x.natAbs % b = r at *
  have hbp : (0 : Int) < b := by omega
  split
  · rename_i h
    refine (Int.ediv_emod_unique hbp).2 ⟨?_, by omega, by omega⟩
    rw [Int.mul_neg]
    have : (b : Int) * ((q + 1 : Nat) : Int) = b * (q : Int) + b := by rw [Int.natCast_add, Int.mul_add]; simp
    rw [this]; omega
  · rename_i h
    refine (Int.ediv_emod_unique hbp).2 ⟨?_, by omega, by omega⟩
    unfold zN
    by_cases hx : x < 0
    · have hr : r = 0 := by omega
      rw [if_pos (by simpa using hx), Int.mul_neg]; omega
    · rw [if_neg (by simpa using hx)]; omega
theorem zN_flip (a b : Bool) (N : Nat) : zN (a != !b) N = -zN (a != b) N := by cases a <;> cases b <;> simp [zN]
theorem dm_all (x y : Int) (hy : y ≠ 0) : if x < 0 ∧ x.natAbs % y.natAbs ≠ 0 then x / y = zN (decide (x < 0) != decide (y < 0)) (x.natAbs / y.natAbs + 1) ∧ x % y = ((y.natAbs - x.natAbs % y.natAbs : Nat) : Int) else x / y = zN (decide (x < 0) != decide (y < 0)) (x.natAbs / y.natAbs) ∧ x % y = ((x.natAbs % y.natAbs : Nat) : Int) := by
  have h := dm_pos x y.natAbs (by omega)
  rcases Int.lt_or_le y 0 with hn | hp
  · have e : y = -((y.natAbs : Nat) : Int) := by omega
    have ed : x / y = -(x / ((y.natAbs : Nat) : Int)) := by conv => lhs; rw [e, Int.ediv_neg]
    have em : x % y = x % ((y.natAbs : Nat) : Int) := by conv => lhs; rw [e, Int.emod_neg]
    rw [ed, em]
    simp only [hn, decide_true]
    split at h
    · rename_i hc
      rw [if_pos hc, h.1]
      refine ⟨?_, h.2⟩
      simp [zN, hc.1]
    · rename_i hc
      rw [if_neg hc, h.1]
      refine ⟨?_, h.2⟩
      cases hd : decide (x < 0) <;> simp [zN]
  · have e : ((y.natAbs : Nat) : Int) = y := by omega
    rw [e] at h
    have hn : ¬ y < 0 := by omega
    simp only [hn, decide_false]
    split at h
    · rename_i hc
      rw [if_pos hc, h.1]
      refine ⟨?_, h.2⟩
      simp [zN, hc.1]
    · rename_i hc
      rw [if_neg hc, h.1]
      refine ⟨?_, h.2⟩
      cases hd : decide (x < 0) <;> simp [zN]
theorem fill_one : Instr.fill (fun k => some (k * 1, 1)) (Array.replicate 32 (Value.int .u32 0)) [(0, .int .u32 1)] = some (mA 1) := by
  have := fill_lo (N := 1) (by omega) (a := 1) (b := 0) rfl rfl
  exact this
set_option smartUnfolding false in
set_option maxRecDepth 100000 in
set_option maxHeartbeats 2000000 in
theorem divmod_0 {A B : Array Value} {x : Int} (hA : IsI A x) (hB : IsI B 0) : Pure Tryz.prog 88 [SV.c (.agg A), SV.c (.agg B)] (.tuple #[.agg (eA 0), .agg (eA 0), .int .i64 11]) := by
  refine sx_pure tt_ok mixed at88 _ _ rfl rfl fun w => ?_
  refine ⟨hA.size, hB.size, .inl ⟨_, split_z hA, mA_fits _, .inl ⟨_, split_z hB, mA_fits _, mA 0, some_eq mA_zero, _, eql_mag rfl hB.lt zero_lt, fun h => ?_, fun h => ?_⟩⟩⟩
  · exact ⟨ti25.zero, rfl, ti25.zero, rfl, by rw [ti_zero]; exact eA_fits _, by rw [ti_zero]; exact eA_fits _, rfl, trivial⟩
  · exact absurd h (by decide)
set_option smartUnfolding false in
set_option maxRecDepth 100000 in
set_option maxHeartbeats 2000000 in
theorem divmod_z {A B : Array Value} {x y : Int} (hA : IsI A x) (hB : IsI B y) (hy : y ≠ 0) : Pure Tryz.prog 88 [SV.c (.agg A), SV.c (.agg B)] (.tuple #[.agg (eA (x / y)), .agg (eA (x % y)), .int .i64 0]) := by
  refine sx_pureC [9] tt_ok mixed at88 _ _ rfl rfl fun w => ?_
  have hx := hA.lt
  have hyl := hB.lt
  have hb0 : 0 < y.natAbs := by omega
  have hall := dm_all x y hy
  refine ⟨hA.size, hB.size, .inl ⟨_, split_z hA, mA_fits _, .inl ⟨_, split_z hB, mA_fits _, mA 0, some_eq mA_zero, _, eql_mag rfl hyl zero_lt, fun h => ?_, fun h => ?_⟩⟩⟩
  · exfalso
    have := of_decide_eq_true h
    omega
  have hql : x.natAbs / y.natAbs < BB ^ 32 := Nat.lt_of_le_of_lt (Nat.div_le_self _ _) hx
  have hrl : x.natAbs % y.natAbs < y.natAbs := Nat.mod_lt _ hb0
  have hrb : x.natAbs % y.natAbs < BB ^ 32 := Nat.lt_trans hrl hyl
  refine .inr ⟨_, _, _, divide_own hx hyl hb0 _ rfl _ _ (by decide), ⟨rfl, rfl, trivial⟩, rfl, mA_fits _, mA_fits _, ?_⟩
  refine ⟨fun f mm => ∃ q r : Nat, q < BB ^ 32 ∧ r < BB ^ 32 ∧ x / y = zN (decide (x < 0) != decide (y < 0)) q ∧ x % y = r ∧ f = [(4, SV.ptr 4 0), (5, SV.ptr 5 0), (7, SV.c (.bool (decide (x < 0)))), (9, SV.c (.bool (decide (y < 0)))), (11, SV.ptr 11 0), (12, SV.ptr 12 0)] ∧ mm = [(4, Blk.row 25 33 ti25.zero), (5, Blk.row 25 33 ti25.zero), (11, Blk.row 121 32 (mA q)), (12, Blk.row 121 32 (mA r))], ⟨fun h1 => ⟨mA 0, some_eq mA_zero, _, neq_mag rfl hrb zero_lt, fun h2 => ?_, fun h2 => ?_⟩, fun h1 => ⟨nofun, fun _ => ?_⟩⟩, ?_⟩
  · have h1 := of_decide_eq_true h1
    have h2 : x.natAbs % y.natAbs ≠ 0 := by simpa using h2
    rw [if_pos ⟨h1, h2⟩] at hall
    have hql2 : x.natAbs / y.natAbs + 1 < BB ^ 32 := by
      have hb2 : 2 ≤ y.natAbs := by
        rcases Nat.lt_or_ge y.natAbs 2 with h | h
        · have : y.natAbs = 1 := by omega
          rw [this, Nat.mod_one] at h2; exact absurd rfl h2
        · exact h
      have h3 : x.natAbs / y.natAbs ≤ x.natAbs / 2 := Nat.div_le_div_left hb2 (by omega)
      have h4 : 4 ≤ BB ^ 32 := Nat.le_trans (by omega) two64
      omega
    refine ⟨mA 1, fill_one, mA_size _, .inr ⟨_, _, _, plus_own hql (Nat.lt_of_lt_of_le (by omega : 1 < 18446744073709551616) two64) _ rfl _ _ (by decide), ⟨rfl, rfl, trivial⟩, rfl, mA_fits _, .inr ⟨_, _, _, minus_own hyl (Nat.le_of_lt hrl) _ rfl _ _ (by decide), ⟨rfl, rfl, trivial⟩, rfl, mA_fits _, _, _, ⟨x.natAbs / y.natAbs + 1, _, hql2, Nat.lt_of_le_of_lt (Nat.sub_le _ _) hyl, hall.1, hall.2, rfl, rfl⟩, ⟨rfl, rfl, rfl, rfl, rfl, rfl, trivial⟩, ⟨rfl, rfl, row_eq (by rw [Nat.mod_eq_of_lt hql2]), rfl, trivial⟩, rfl⟩⟩⟩
  · have h2 : x.natAbs % y.natAbs = 0 := by simpa using h2
    rw [if_neg (fun h => h.2 h2)] at hall
    exact ⟨_, _, ⟨_, _, hql, hrb, hall.1, hall.2, rfl, rfl⟩, ⟨rfl, rfl, rfl, rfl, rfl, rfl, trivial⟩, ⟨rfl, rfl, rfl, rfl, trivial⟩, rfl⟩
  · have h1 := of_decide_eq_false h1
    rw [if_neg (fun h => h1 h.1)] at hall
    exact ⟨_, _, ⟨_, _, hql, hrb, hall.1, hall.2, rfl, rfl⟩, ⟨rfl, rfl, rfl, rfl, rfl, rfl, trivial⟩, ⟨rfl, rfl, rfl, rfl, trivial⟩, rfl⟩
  · rintro f mm ⟨q, r, hq, hr, e1, e2, rfl, rfl⟩
    have m1 := made_z (decide (x < 0) != decide (y < 0)) q hq
    have m2 := made_z false r hr
    rw [← e1] at m1
    rw [show zN false r = x % y from e2.symm] at m2
    exact .inl ⟨_, m1, .inl ⟨_, m2, eA_fits _, eA_fits _, by kernel_rfl, rfl, trivial⟩⟩
set_option smartUnfolding false in
set_option maxRecDepth 100000 in
set_option maxHeartbeats 2000000 in
theorem gcd_z {A B : Array Value} {x y : Int} (hA : IsI A x) (hB : IsI B y) : Pure Tryz.prog 125 [SV.c (.agg A), SV.c (.agg B)] (.agg (eA ((Int.gcd x y : Nat) : Int))) := by
  refine sx_pure tt_ok mixed at125 _ _ rfl rfl fun w => ?_
  refine ⟨hA.size, hB.size, .inl ⟨_, split_z hA, mA_fits _, .inl ⟨_, split_z hB, mA_fits _, ?_⟩⟩⟩
  refine ⟨fun q f mm => ∃ a : Nat, a < BB ^ 32 ∧ q < BB ^ 32 ∧ Nat.gcd a q = Int.gcd x y ∧ f = [(4, SV.ptr 4 0), (6, SV.ptr 6 0), (8, SV.ptr 8 0)] ∧ mm = [(4, Blk.row 25 33 ti25.zero), (6, Blk.row 121 32 (mA a)), (8, Blk.row 121 32 (mA q))], _, ⟨_, _, ⟨_, hA.lt, hB.lt, rfl, rfl, rfl⟩, ⟨rfl, rfl, rfl, trivial⟩, ⟨rfl, rfl, rfl, trivial⟩, rfl⟩, ?_⟩
  rintro q f mm ⟨a, ha, hq, hg, rfl, rfl⟩
  refine ⟨mA 0, some_eq mA_zero, _, neq_mag rfl hq zero_lt, fun h => ?_, fun h => ?_⟩
  · have hq0 : 0 < q := by
      have : q ≠ 0 := by simpa using h
      omega
    have hr := Nat.mod_lt a hq0
    exact .inr ⟨_, _, _, divide_own ha hq hq0 _ rfl _ _ (by decide), ⟨rfl, rfl, trivial⟩, rfl, mA_fits _, mA_fits _, mA_fits _, mA_fits _, by kernel_rfl, a % q, _, _, hr, ⟨_, hq, Nat.lt_trans hr hq, by rw [← hg, Nat.gcd_comm a q, Nat.gcd_rec q a, Nat.gcd_comm], rfl, rfl⟩, ⟨rfl, rfl, rfl, trivial⟩, ⟨rfl, rfl, rfl, trivial⟩, rfl⟩
  · have hq0 : q = 0 := by simpa using h
    subst hq0
    have m1 := made_z false a ha
    rw [Nat.gcd_zero_right] at hg
    rw [show zN false a = ((Int.gcd x y : Nat) : Int) by rw [← hg]; rfl] at m1
    exact .inl ⟨_, m1, eA_fits _, rfl, trivial⟩
/-- the number, if it is an int -/
def toIntR (z : Int) : Value := if -9223372036854775808 ≤ z ∧ z ≤ 9223372036854775807 then .tuple #[.int .i64 z, .bool true] else .tuple #[.int .i64 0, .bool false]
set_option smartUnfolding false in
set_option maxRecDepth 100000 in
set_option maxHeartbeats 2000000 in
theorem toInt_z {A : Array Value} {z : Int} (hA : IsI A z) : Pure Tryz.prog 48 [SV.c (.agg A)] (toIntR z) := by
  refine sx_pure tt_ok mixed at48 _ _ rfl rfl fun w => ?_
  obtain ⟨hb1, hb2⟩ := bl_bits z.natAbs
  refine ⟨hA.size, .inl ⟨_, split_z hA, mA_fits _, .inr ⟨_, _, _, bits_own hA.lt _ rfl _, ⟨rfl, trivial⟩, rfl, fun h => ?_, fun h => ?_⟩⟩⟩
  · have h : 64 < bl z.natAbs := by have := of_decide_eq_true h; omega
    have h5 := hb2 (by omega)
    have h6 : 2 ^ 64 ≤ 2 ^ (bl z.natAbs - 1) := Nat.pow_le_pow_right (by omega) (by omega)
    exact ⟨by rw [toIntR, if_neg (by omega)]; rfl, trivial⟩
  have h : bl z.natAbs ≤ 64 := by have := of_decide_eq_false h; omega
  have hz : z.natAbs < 18446744073709551616 := by
    have h6 : 2 ^ bl z.natAbs ≤ 2 ^ 64 := Nat.pow_le_pow_right (by omega) h
    omega
  have eu := hilo (dg_lt z.natAbs 1) (dg_lt z.natAbs 0) rfl rfl
  have ed : dg z.natAbs 1 * BB + dg z.natAbs 0 = z.natAbs := by
    simp only [dg, BB_eq, Nat.pow_one, Nat.pow_zero, Nat.div_one]; omega
  rw [ed] at eu
  have g1 : (mA z.natAbs)[1]? = some (.int .u32 (dg z.natAbs 1 : Nat)) := mA_get (by omega)
  have g0 : (mA z.natAbs)[0]? = some (.int .u32 (dg z.natAbs 0 : Nat)) := mA_get (by omega)
  refine ⟨by decide, by decide, _, g1, by decide, by decide, by decide, _, g0, fun h1 => ⟨fun h2 => ?_, fun h2 => ?_⟩, fun h1 => ⟨nofun, fun _ => ?_⟩⟩
  · rw [eu] at h2
    have h1 := of_decide_eq_true h1
    have h2 := of_decide_eq_true h2
    refine ⟨?_, trivial⟩
    rw [toIntR, if_pos (by omega)]
    refine tup2 (iv ?_) rfl
    rw [eu, u64_wrap, IntKind.wrap_i64]
    omega
  · rw [eu] at h2
    have h1 := of_decide_eq_true h1
    have h2 := of_decide_eq_false h2
    refine ⟨fun h3 => ?_, fun h3 => ⟨nofun, fun _ => ⟨?_, trivial⟩⟩⟩
    · exfalso
      simp [h1] at h3
    · rw [toIntR, if_neg (by omega)]; rfl
  · have h1 := of_decide_eq_false h1
    refine ⟨fun h3 => ⟨fun h2 => ?_, fun h2 => ?_⟩, fun h3 => ?_⟩
    · rw [eu] at h2
      have h2 := of_decide_eq_true h2
      refine ⟨?_, trivial⟩
      rw [toIntR, if_pos (by omega)]
      refine tup2 (iv ?_) rfl
      rw [eu, IntKind.wrap_i64]
      omega
    · rw [eu] at h2
      have h2 := of_decide_eq_false h2
      exact ⟨by rw [toIntR, if_neg (by omega)]; rfl, trivial⟩
    · exfalso
      simp [h1] at h3
end Go.Proofs.YtnfmpddhcjkjbaaGreatDoor
