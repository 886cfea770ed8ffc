/- walks: the reference, whole numbers; no condition. -/
import Derived.Test.YtnfmpddhcjkjbaaGreatDoorV20
namespace Go.Proofs.YtnfmpddhcjkjbaaGreatDoor
open Go Go.RowKit Go.SX
theorem IsI.raw {A : Array Value} {z : Int} (h : IsI A z) : ∃ neg N, N < BB ^ 32 ∧ A = iA neg N ∧ z = zN neg N := h.ex
theorem iA_lim {neg : Bool} {N i : Nat} (h : i < 32) : (iA neg N)[1 + i]? = some (.int .u32 (dg N i : Nat)) := by
  rw [iA, Array.getElem?_append_right (by simp)]
  have e : 1 + i - (#[Value.bool neg] : Array Value).size = i := by simp
  rw [e]; exact mA_get h
/-- the cells of a sign and limbs -/
def iB (neg : Bool) (f : Nat → Nat) : Array Value := #[.bool neg] ++ lA f 32
theorem iB_set (neg : Bool) (f : Nat → Nat) (i v : Nat) : (iB neg f).setIfInBounds (1 + i) (.int .u32 (v : Nat)) = iB neg (fun k => if k = i then v else f k) := by
  unfold iB
  rw [← lA_set]
  apply Array.ext_getElem?
  intro j
  by_cases h : j = 1 + i
  · subst h
    rw [Array.getElem?_setIfInBounds_self, Array.getElem?_append_right (by simp)]
    have e : 1 + i - (#[Value.bool neg] : Array Value).size = i := by simp
    rw [e, Array.getElem?_setIfInBounds_self]
    simp [lA_size]
    by_cases h2 : i < 32
    · rw [if_pos h2, if_pos (by omega)]
    · rw [if_neg h2, if_neg (by omega)]
  · rw [Array.getElem?_setIfInBounds_ne (fun e => h e.symm)]
    by_cases h0 : j < 1
    · rw [Array.getElem?_append_left (by simpa using h0), Array.getElem?_append_left (by simpa using h0)]
    · rw [Array.getElem?_append_right (by simp; omega), Array.getElem?_append_right (by simp; omega)]
      rw [Array.getElem?_setIfInBounds_ne (by simp; omega)]
theorem iB_of {neg : Bool} {f : Nat → Nat} {N : Nat} (h : ∀ i, i < 32 → f i = dg N i) : iB neg f = iA neg N := by
  unfold iB iA mA
  rw [lA_congr h]
set_option smartUnfolding false in
set_option maxRecDepth 100000 in
theorem sign_r {A : Array Value} {z : Int} (h : IsI A z) : Pure Tryz.prog 38 [SV.c (.agg A)] (.int .i64 (sgn z)) := by
  obtain ⟨neg, N, hN, rfl, rfl⟩ := h.raw
  refine sx_pure tt_ok mixed at38 _ _ rfl rfl fun w => ?_
  refine ⟨iA_size _ _, by decide, _, iA_mag, .inl ⟨_, zero_r hN, fun h1 => ⟨iv ?_, trivial⟩, fun h1 => ⟨_, iA_neg, fun h2 => ⟨iv ?_, trivial⟩, fun h2 => ⟨iv ?_, trivial⟩⟩⟩⟩
  · have h1 : N = 0 := of_decide_eq_true h1
    subst h1
    cases neg <;> rfl
  · have h1 : ¬ N = 0 := of_decide_eq_false h1
    have h2 : neg = true := h2
    subst h2
    unfold sgn zN; rw [if_pos rfl, if_pos (by omega)]
  · have h1 : ¬ N = 0 := of_decide_eq_false h1
    have h2 : neg = false := h2
    subst h2
    unfold sgn zN; rw [if_neg Bool.false_ne_true, if_neg (by omega), if_neg (by omega)]
set_option smartUnfolding false in
set_option maxRecDepth 100000 in
theorem neg_r {A : Array Value} {z : Int} (h : IsI A z) : Pure Tryz.prog 102 [SV.c (.agg A)] (.agg (eA (-z))) := by
  obtain ⟨neg, N, hN, rfl, rfl⟩ := h.raw
  refine sx_pure tt_ok mixed at102 _ _ rfl rfl fun w => ?_
  have e : zN (!neg) N = -zN neg N := by cases neg <;> simp [zN]
  rw [← e]
  exact ⟨iA_size _ _, _, iA_neg, by decide, _, iA_mag, .inl ⟨_, canon_r _ hN, eA_fits _, rfl, trivial⟩⟩
set_option smartUnfolding false in
set_option maxRecDepth 100000 in
theorem abs_r {A : Array Value} {z : Int} (h : IsI A z) : Pure Tryz.prog 63 [SV.c (.agg A)] (.agg (eA (z.natAbs : Int))) := by
  obtain ⟨neg, N, hN, rfl, rfl⟩ := h.raw
  refine sx_pure tt_ok mixed at63 _ _ rfl rfl fun w => ?_
  have e : ((zN neg N).natAbs : Int) = zN false N := by rw [zN_abs]; rfl
  rw [e]
  exact ⟨iA_size _ _, by decide, _, iA_mag, .inl ⟨_, canon_r _ hN, eA_fits _, rfl, trivial⟩⟩
set_option smartUnfolding false in
set_option maxRecDepth 100000 in
theorem cmp_r {A B : Array Value} {x y : Int} (hA : IsI A x) (hB : IsI B y) : Pure Tryz.prog 71 [SV.c (.agg A), SV.c (.agg B)] (.int .i64 (cmpI x y)) := by
  have s1 := sign_r hA
  have s2 := sign_r hB
  have hx := hA.lt
  have hy := hB.lt
  obtain ⟨a, N, hN, rfl, ex⟩ := hA.raw
  obtain ⟨b, M, hM, rfl, ey⟩ := hB.raw
  refine sx_pure tt_ok mixed at71 _ _ rfl rfl fun w => ?_
  have eN : x.natAbs = N := by rw [ex, zN_abs]
  have eM : y.natAbs = M := by rw [ey, zN_abs]
  refine ⟨iA_size _ _, iA_size _ _, .inl ⟨_, s1, .inl ⟨_, s2, by kernel_rfl, fun h => ⟨?_, trivial⟩, fun h => ⟨fun h2 => ⟨?_, trivial⟩, fun h2 => ⟨by decide, _, iA_mag, by decide, _, iA_mag, .inl ⟨_, compare_r hN hM, iv ?_, trivial⟩⟩⟩⟩⟩⟩
  · have h := of_decide_eq_true h
    rw [cmpI_ne (by omega), if_pos h]; rfl
  · have h := of_decide_eq_false h
    have h2 := of_decide_eq_true h2
    rw [cmpI_ne (by omega), if_neg h]; rfl
  · have h := of_decide_eq_false h
    have h2 := of_decide_eq_false h2
    rw [cmpI_eq (by omega), eN, eM]
    have := sgn_bd x
    rcases cmpS_bd N M with h1 | h1 | h1 <;> rw [h1] <;> exact i64_in (by omega)
theorem bl_half {v : Nat} (h : 0 < v) : bl v = bl (v / 2) + 1 := by
  rcases Nat.lt_or_ge v 2 with h2 | h2
  · have : v = 1 := by omega
    subst this; rfl
  · rw [bl_shift (s := 1) (by omega), Nat.pow_one]; omega
set_option smartUnfolding false in
set_option maxRecDepth 100000 in
theorem bits_r {A : Array Value} {z : Int} (h : IsI A z) : Pure Tryz.prog 103 [SV.c (.agg A)] (.int .i64 (bl z.natAbs)) := by
  obtain ⟨neg, N, hN, rfl, rfl⟩ := h.raw
  obtain ⟨n, hn, hu⟩ := used_ex hN
  rw [zN_abs]
  refine sx_pure tt_ok mixed at103 _ _ rfl rfl fun w => ?_
  refine ⟨iA_size _ _, by decide, _, iA_mag, .inl ⟨_, limbs_r hu hN, fun h => ?_, fun h => ?_⟩⟩
  · have h0 : n = 0 := by have : (n : Int) = 0 := by simpa using h
                          omega
    subst h0
    have : N = 0 := by have := hu.1; simp at this; omega
    subst this
    exact ⟨rfl, trivial⟩
  · have h0 : 0 < n := by
      rcases Nat.eq_zero_or_pos n with e | e
      · subst e; simp at h
      · exact e
    have e1 : IntKind.i64.wrap ((n : Int) - 1) = ((n - 1 : Nat) : Int) := by rw [i64_in (by omega)]; omega
    have e2 : IntKind.i64.wrap (32 * IntKind.i64.wrap ((n : Int) - 1)) = ((32 * (n - 1) : Nat) : Int) := by rw [e1, i64_in (by omega)]; omega
    obtain ⟨hb, hb0⟩ := bl_limbs hu h0
    have hb2 : bl (dg N (n - 1)) ≤ 32 := bl_le (dg_lt _ _)
    have hg : (iA neg N)[1 + (IntKind.i64.wrap ((n : Int) - 1)).toNat]? = some (.int .u32 ((dg N (n - 1) : Nat) : Int)) := by rw [e1]; exact iA_lim (by omega)
    refine ⟨by rw [e1]; omega, by rw [e1]; show ((n - 1 : Nat) : Int) < 32; omega, _, hg, ?_⟩
    refine ⟨fun q f m => ∃ k : Nat, q < BB ∧ k + bl q = bl N ∧ f = [(4, SV.c (.int .i64 k)), (5, SV.c (.int .u32 q))] ∧ m = [], dg N (n - 1), ⟨_, _, ⟨32 * (n - 1), dg_lt _ _, hb.symm, rfl, rfl⟩, ⟨c_int e2, rfl, trivial⟩, trivial, rfl⟩, ?_⟩
    rintro q f m ⟨k, hq, hk, rfl, rfl⟩
    refine ⟨fun h1 => ?_, fun h1 => ?_⟩
    · have h1 : 0 < q := by have := of_decide_eq_true h1; omega
      have hh := bl_half h1
      have hbn : bl N ≤ 1024 := by omega
      exact ⟨by decide, q / 2, _, _, by omega, ⟨k + 1, by omega, by omega, rfl, rfl⟩, ⟨c_int (by rw [i64_in (by omega)]; rfl), c_int (sh_nat q 1), trivial⟩, trivial, rfl⟩
    · have h1 : q = 0 := by have := of_decide_eq_false h1; omega
      subst h1
      have : bl 0 = 0 := rfl
      exact ⟨iv (by omega), trivial⟩
theorem iB_zero : ti25.zero = iB false (fun _ => 0) := rfl
theorem iB_neg0 (b : Bool) (f : Nat → Nat) : (iB false f).setIfInBounds 0 (.bool b) = iB b f := by
  unfold iB
  apply Array.ext_getElem?
  intro j
  by_cases h : j = 0
  · subst h
    rw [Array.getElem?_setIfInBounds_self, Array.getElem?_append_left (by simp)]
    simp
  · rw [Array.getElem?_setIfInBounds_ne (fun e => h e.symm), Array.getElem?_append_right (by simp; omega), Array.getElem?_append_right (by simp; omega)]
    rfl
theorem iB_size (b : Bool) (f : Nat → Nat) : (iB b f).size = 33 := by simp [iB, lA_size]
set_option smartUnfolding false in
set_option maxRecDepth 100000 in
set_option maxHeartbeats 1000000 in
theorem fromInt_r (n : Int) (h1 : -9223372036854775808 ≤ n) (h2 : n ≤ 9223372036854775807) : Pure Tryz.prog 36 [SV.c (.int .i64 n)] (.agg (eA n)) := by
  refine sx_pureC [4] tt_ok mixed at36 _ _ rfl rfl fun w => ?_
  have hN : n.natAbs < 18446744073709551616 := by omega
  refine ⟨fun f m => f = [(0, SV.c (.int .i64 n)), (2, SV.ptr 2 0), (3, SV.c (.int .u64 (n.natAbs : Nat)))] ∧ m = [(2, Blk.row 25 33 ti25.zero)], ⟨fun h => ?_, fun h => ?_⟩, ?_⟩
  · have hn := of_decide_eq_true h
    have e : IntKind.u64.wrap (0 - IntKind.u64.wrap n) = ((n.natAbs : Nat) : Int) := by simp only [u64_wrap]; omega
    exact ⟨_, _, ⟨rfl, rfl⟩, ⟨rfl, rfl, c_int e, trivial⟩, ⟨rfl, trivial⟩, rfl⟩
  · have hn := of_decide_eq_false h
    have e : IntKind.u64.wrap n = ((n.natAbs : Nat) : Int) := by simp only [u64_wrap]; omega
    exact ⟨_, _, ⟨rfl, rfl⟩, ⟨rfl, rfl, c_int e, trivial⟩, ⟨rfl, trivial⟩, rfl⟩
  rintro f m ⟨rfl, rfl⟩
  have e0 : IntKind.u32.wrap ((n.natAbs : Nat) : Int) = ((n.natAbs % 4294967296 : Nat) : Int) := by rw [u32_wrap]; omega
  have e1 : IntKind.u32.wrap (((n.natAbs : Nat) : Int).fdiv (2 ^ min (Int.toNat 32) IntKind.u64.bits)) = ((n.natAbs / 4294967296 : Nat) : Int) := by
    rw [show ((n.natAbs : Nat) : Int).fdiv (2 ^ min (Int.toNat 32) IntKind.u64.bits) = ((n.natAbs / 4294967296 : Nat) : Int) from sh_nat _ 32]
    exact u32_in (by omega)
  refine ⟨by decide, rfl, _, iB_neg0 (decide (n < 0)) (fun _ => 0), by decide, by decide, by decide, by decide, rfl, iB (decide (n < 0)) (fun k => if k = 0 then n.natAbs % 4294967296 else 0), ?_, by decide, by decide, by decide, rfl, eA n, ?_, ?_⟩
  · rw [e0]
    exact iB_set (decide (n < 0)) (fun _ => 0) 0 (n.natAbs % 4294967296)
  · rw [e1]
    refine Eq.trans (iB_set (decide (n < 0)) _ 1 (n.natAbs / 4294967296)) (iB_of fun i hi => ?_)
    by_cases h1 : i = 1
    · subst h1
      rw [if_pos rfl]
      simp only [dg, BB_eq, Nat.pow_one]; omega
    · rw [if_neg h1]
      by_cases h0 : i = 0
      · subst h0
        rw [if_pos rfl]
        simp only [dg, BB_eq, Nat.pow_zero, Nat.div_one]
      · rw [if_neg h0, dg_hi hN (by omega)]
  · exact ⟨eA_fits _, rfl, trivial⟩
set_option smartUnfolding false in
set_option maxRecDepth 100000 in
set_option maxHeartbeats 1000000 in
theorem toInt_r {A : Array Value} {z : Int} (hA : IsI A z) : Pure Tryz.prog 53 [SV.c (.agg A)] (toIntR z) := by
  have hzl := hA.lt
  obtain ⟨neg, N, hN, rfl, rfl⟩ := hA.raw
  obtain ⟨n, hn, hu⟩ := used_ex hN
  have hab := zN_abs neg N
  have hlim : ∀ i, i < 32 → (eA (zN neg N))[1 + i]? = some (.int .u32 (dg N i : Nat)) := fun i hi => by unfold eA; rw [hab]; exact iA_lim hi
  have hmag : (eA (zN neg N)).extract 1 33 = mA N := by unfold eA; rw [hab]; exact iA_mag
  have hneg : (eA (zN neg N))[0]? = some (.bool (decide (zN neg N < 0))) := iA_neg
  have hc := canon_r neg hN
  generalize zN neg N = z at *
  refine sx_pure tt_ok mixed at53 _ _ rfl rfl fun w => ?_
  have h64 : (n : Int) > 2 ↔ ¬ N < 18446744073709551616 := by
    constructor
    · intro h h2
      have h3 := hu.2 (by omega)
      have h4 : BB ^ 2 ≤ BB ^ (n - 1) := Nat.pow_le_pow_right BB_pos (by omega)
      rw [show BB ^ 2 = 18446744073709551616 from by decide] at h4
      omega
    · intro h
      rcases Nat.lt_or_ge 2 n with h2 | h2
      · omega
      · exfalso
        have h4 : BB ^ n ≤ BB ^ 2 := Nat.pow_le_pow_right BB_pos h2
        rw [show BB ^ 2 = 18446744073709551616 from by decide] at h4
        have := hu.1
        omega
  refine ⟨iA_size _ _, _, iA_neg, by decide, _, iA_mag, .inl ⟨_, hc, eA_fits _, by decide, _, hmag, .inl ⟨_, limbs_r hu hN, fun h => ?_, fun h => ?_⟩⟩⟩
  · have h := h64.1 (of_decide_eq_true h)
    refine ⟨?_, trivial⟩
    rw [toIntR, if_neg (by omega)]; rfl
  · have h : N < 18446744073709551616 := by
      have := of_decide_eq_false h
      rw [h64] at this; omega
    have eu := hilo (dg_lt N 1) (dg_lt N 0) rfl rfl
    have ed : dg N 1 * BB + dg N 0 = N := by
      simp only [dg, BB_eq, Nat.pow_one, Nat.pow_zero, Nat.div_one]; omega
    rw [ed] at eu
    have g1 := hlim 1 (by omega)
    have g0 := hlim 0 (by omega)
    refine ⟨by decide, by decide, _, g1, by decide, by decide, by decide, _, g0, _, hneg, fun h1 => ⟨fun h2 => ?_, fun h2 => ⟨_, hneg, ?_⟩⟩, fun h1 => ⟨nofun, fun _ => ⟨_, hneg, ?_⟩⟩⟩
    · rw [eu] at h2
      have h1 := of_decide_eq_false (bnt h1)
      have h2 := of_decide_eq_true h2
      refine ⟨?_, trivial⟩
      rw [toIntR, if_pos (by omega)]
      refine tup2 (iv ?_) rfl
      rw [eu, IntKind.wrap_i64]
      omega
    · rw [eu] at h2
      have h1 := of_decide_eq_false (bnt h1)
      have h2 := of_decide_eq_false h2
      refine ⟨fun h3 => absurd (of_decide_eq_true h3) h1, fun _ => ⟨nofun, fun _ => ⟨?_, trivial⟩⟩⟩
      rw [toIntR, if_neg (by omega)]; rfl
    · have h1 := of_decide_eq_true (bnf h1)
      refine ⟨fun _ => ⟨fun h2 => ⟨?_, trivial⟩, fun h2 => ⟨?_, trivial⟩⟩, fun h3 => absurd h1 (of_decide_eq_false h3)⟩
      · rw [eu] at h2
        have h2 := of_decide_eq_true h2
        rw [toIntR, if_pos (by omega)]
        refine tup2 (iv ?_) rfl
        rw [eu, u64_wrap, IntKind.wrap_i64]
        omega
      · rw [eu] at h2
        have h2 := of_decide_eq_false h2
        rw [toIntR, if_neg (by omega)]; rfl
set_option smartUnfolding false in
set_option maxRecDepth 100000 in
set_option maxHeartbeats 2000000 in
theorem add_r {A B : Array Value} {x y : Int} (hA : IsI A x) (hB : IsI B y) : Pure Tryz.prog 69 [SV.c (.agg A), SV.c (.agg B)] (fitR (x + y)) := by
  have hx := hA.lt
  have hy := hB.lt
  obtain ⟨a, N, hN, rfl, ex⟩ := hA.raw
  obtain ⟨b, M, hM, rfl, ey⟩ := hB.raw
  have eN : x.natAbs = N := by rw [ex, zN_abs]
  have eM : y.natAbs = M := by rw [ey, zN_abs]
  have c1 := canon_r a hN
  have c2 := canon_r b hM
  rw [← ex] at c1
  rw [← ey] at c2
  refine sx_pureC [9] tt_ok mixed at69 _ _ rfl rfl fun w => ?_
  have mag : ∀ z : Int, (eA z).extract 1 33 = mA z.natAbs := fun z => iA_mag
  have ng : ∀ z : Int, (eA z)[0]? = some (.bool (decide (z < 0))) := fun z => iA_neg
  refine ⟨iA_size _ _, iA_size _ _, _, iA_neg, by decide, _, iA_mag, .inl ⟨_, c1, _, iA_neg, by decide, _, iA_mag, .inl ⟨_, c2, eA_fits _, eA_fits _, by kernel_rfl, _, ng x, _, ng y, fun h => ?_, fun h => ?_⟩⟩⟩
  · have h : decide (x < 0) = decide (y < 0) := by simpa using h
    refine ⟨by decide, _, mag x, by decide, _, mag y, .inl ⟨_, sum_r hx hy, mA_fits _, fun h2 => ?_, fun h2 => ?_⟩⟩
    · have h2 : ¬ (x.natAbs + y.natAbs < BB ^ 32) := of_decide_eq_false (bnt h2)
      refine ⟨ti25.zero, rfl, eA_fits 0, ?_, trivial⟩
      rw [fitR, if_neg (by rw [(add_near h).1]; exact h2)]; rfl
    · have h2 : x.natAbs + y.natAbs < BB ^ 32 := of_decide_eq_true (bnf h2)
      have cc := canon_r (decide (x < 0)) h2
      rw [(add_near h).2] at cc
      rw [Nat.mod_eq_of_lt h2]
      refine ⟨_, ng x, .inl ⟨_, cc, eA_fits _, ?_, trivial⟩⟩
      rw [fitR, if_pos (by rw [(add_near h).1]; exact h2)]; rfl
  · have hne : decide (x < 0) = !decide (y < 0) := neq_true (by simpa using h)
    refine ⟨fun f mm => ∃ u v : Int, v.natAbs ≤ u.natAbs ∧ u.natAbs < BB ^ 32 ∧ decide (u < 0) = (!decide (v < 0)) ∧ u + v = x + y ∧ f = [(2, SV.ptr 2 0), (3, SV.ptr 3 0), (4, SV.ptr 4 0)] ∧ mm = [(2, Blk.row 25 33 (eA u)), (3, Blk.row 25 33 (eA v)), (4, Blk.row 25 33 ti25.zero)], ⟨by decide, _, mag x, by decide, _, mag y, .inl ⟨_, compare_r hx hy, fun h2 => ?_, fun h2 => ?_⟩⟩, ?_⟩
    · rw [cmpS_neg] at h2
      have hlt := of_decide_eq_true h2
      exact ⟨eA_fits _, eA_fits _, _, _, ⟨y, x, by omega, hy, by rw [hne]; simp, Int.add_comm _ _, rfl, rfl⟩, ⟨rfl, rfl, rfl, trivial⟩, ⟨rfl, rfl, rfl, trivial⟩, rfl⟩
    · rw [cmpS_neg] at h2
      have hlt := of_decide_eq_false h2
      exact ⟨_, _, ⟨x, y, by omega, hx, hne, rfl, rfl, rfl⟩, ⟨rfl, rfl, rfl, trivial⟩, ⟨rfl, rfl, rfl, trivial⟩, rfl⟩
    rintro f mm ⟨u, v, huv, hu, hs, e, rfl, rfl⟩
    have hd := difference_r hu (Nat.lt_of_le_of_lt huv hu)
    rw [diff_sub hu huv] at hd
    have hl : u.natAbs - v.natAbs < BB ^ 32 := Nat.lt_of_le_of_lt (Nat.sub_le _ _) hu
    have cc := canon_r (decide (u < 0)) hl
    rw [(add_far hs).2 (by omega), e] at cc
    have hb : (x + y).natAbs < BB ^ 32 := by rw [← e, ← (add_far hs).2 (by omega), zN_abs]; exact hl
    refine ⟨_, ng u, by decide, _, mag u, by decide, _, mag v, .inl ⟨_, hd, .inl ⟨_, cc, eA_fits _, by kernel_rfl, ?_, trivial⟩⟩⟩
    rw [fitR, if_pos hb]; rfl
end Go.Proofs.YtnfmpddhcjkjbaaGreatDoor
