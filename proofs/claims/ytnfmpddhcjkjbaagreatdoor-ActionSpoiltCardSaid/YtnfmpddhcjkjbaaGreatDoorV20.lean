/- walks: the reference, magnitudes; no condition. -/
import Derived.Test.YtnfmpddhcjkjbaaGreatDoorV17
namespace Go.Proofs.YtnfmpddhcjkjbaaGreatDoor
open Go Go.RowKit Go.SX
set_option smartUnfolding false in
set_option maxRecDepth 100000 in
theorem limbs_r {N n : Nat} (hu : IsUsed N n) (hN : N < BB ^ 32) : Pure Tryz.prog 72 [SV.c (.agg (mA N))] (.int .i64 n) := by
  refine sx_pure tt_ok mixed at72 _ _ rfl rfl fun w => ?_
  refine ⟨mA_size _, fun k f m => k ≤ 32 ∧ N < BB ^ k ∧ f = [(1, SV.ptr 1 0), (3, SV.c (.int .i64 k))] ∧ m = [(1, Blk.row 23 32 (mA N))], 32, ⟨_, _, ⟨by omega, hN, rfl, rfl⟩, ⟨rfl, rfl, trivial⟩, ⟨rfl, trivial⟩, rfl⟩, ?_⟩
  rintro k f m ⟨hk, hlt, rfl, rfl⟩
  refine ⟨fun h => ?_, fun h => ?_⟩
  · have h1 : (0 : Int) < k := of_decide_eq_true h
    have e : IntKind.i64.wrap ((k : Int) - 1) = ((k - 1 : Nat) : Int) := by rw [i64_in (by omega)]; omega
    have hg : (mA N)[(IntKind.i64.wrap ((k : Int) - 1)).toNat]? = some (.int .u32 ((dg N (k - 1) : Nat) : Int)) := by rw [e]; exact mA_get (by omega)
    refine ⟨by rw [e]; omega, by rw [e]; show ((k - 1 : Nat) : Int) < 32; omega, _, hg, fun h2 => ?_, fun h2 => ?_⟩
    · have h3 : dg N (k - 1) = 0 := by have : ((dg N (k - 1) : Nat) : Int) = 0 := by simpa using h2
                                       omega
      exact ⟨k - 1, _, _, by omega, ⟨by omega, lt_of_top (by rw [show k - 1 + 1 = k by omega]; exact hlt) h3, rfl, rfl⟩, ⟨rfl, c_int e, trivial⟩, ⟨rfl, trivial⟩, rfl⟩
    · have h3 : dg N (k - 1) ≠ 0 := by intro h; rw [h] at h2; simp at h2
      have : k = n := IsUsed.unique (used_of hlt (.inr h3)) hu
      exact ⟨by rw [this]; rfl, trivial⟩
  · refine ⟨nofun, fun _ => ?_⟩
    have h1 : ¬ ((k : Int) > 0) := of_decide_eq_false h
    have : k = n := IsUsed.unique ⟨hlt, fun hk => absurd hk (by omega)⟩ hu
    exact ⟨by rw [this]; rfl, trivial⟩
theorem used_zero {N n : Nat} (hu : IsUsed N n) : decide (N = 0) = (((n : Nat) : Int) == 0) := by
  rw [Bool.eq_iff_iff]
  simp only [decide_eq_true_eq, beq_iff_eq]
  constructor
  · intro h; subst h
    rcases Nat.eq_zero_or_pos n with e | e
    · rw [e]; rfl
    · have h2 := hu.2 e
      have := pow_pos' (n - 1)
      omega
  · intro h
    have : n = 0 := by omega
    subst this
    have := hu.1; simp at this; omega
set_option smartUnfolding false in
set_option maxRecDepth 100000 in
theorem zero_r {N : Nat} (hN : N < BB ^ 32) : Pure Tryz.prog 74 [SV.c (.agg (mA N))] (.bool (decide (N = 0))) := by
  obtain ⟨n, hn, hu⟩ := used_ex hN
  refine sx_pure tt_ok mixed at74 _ _ rfl rfl fun w => ?_
  rw [used_zero hu]
  exact ⟨mA_size _, .inl ⟨_, limbs_r hu hN, rfl, trivial⟩⟩
set_option smartUnfolding false in
set_option maxRecDepth 100000 in
theorem canon_r (neg : Bool) {N : Nat} (hN : N < BB ^ 32) : Pure Tryz.prog 73 [SV.c (.bool neg), SV.c (.agg (mA N))] (.agg (eA (zN neg N))) := by
  have e : eA (zN neg N) = iA (neg && !decide (N = 0)) N := by unfold eA; rw [zN_abs, zN_neg]
  rw [e]
  refine sx_pure tt_ok mixed at73 _ _ rfl rfl fun w => ?_
  refine ⟨mA_size _, fun h => .inl ⟨_, zero_r hN, _, fill_int rfl rfl, iA_fits _ _, by kernel_rfl, ?_, trivial⟩, fun h => ⟨_, fill_int rfl rfl, iA_fits _ _, by kernel_rfl, ?_, trivial⟩⟩
  · have h : neg = true := h
    rw [h]; rfl
  · have h : neg = false := h
    rw [h]; rfl
set_option smartUnfolding false in
set_option maxRecDepth 100000 in
theorem compare_r {N M : Nat} (hN : N < BB ^ 32) (hM : M < BB ^ 32) : Pure Tryz.prog 107 [SV.c (.agg (mA N)), SV.c (.agg (mA M))] (.int .i64 (cmpS N M)) := by
  refine sx_pure tt_ok mixed at107 _ _ rfl rfl fun w => ?_
  refine ⟨mA_size _, mA_size _, fun k f m => k ≤ 32 ∧ N / BB ^ k = M / BB ^ k ∧ f = [(2, SV.ptr 2 0), (3, SV.ptr 3 0), (5, SV.c (.int .i64 ((k : Int) - 1)))] ∧ m = [(2, Blk.row 23 32 (mA N)), (3, Blk.row 23 32 (mA M))], 32, ⟨_, _, ⟨by omega, by rw [Nat.div_eq_of_lt hN, Nat.div_eq_of_lt hM], rfl, rfl⟩, ⟨rfl, rfl, rfl, trivial⟩, ⟨rfl, rfl, trivial⟩, rfl⟩, ?_⟩
  rintro k f m ⟨hk, heq, rfl, rfl⟩
  refine ⟨fun h => ?_, fun h => ?_⟩
  · have h1 : (k : Int) - 1 ≥ 0 := of_decide_eq_true h
    have e : ((k : Int) - 1).toNat = k - 1 := by omega
    have hn : (mA N)[((k : Int) - 1).toNat]? = some (.int .u32 ((dg N (k - 1) : Nat) : Int)) := by rw [e]; exact mA_get (by omega)
    have hm : (mA M)[((k : Int) - 1).toNat]? = some (.int .u32 ((dg M (k - 1) : Nat) : Int)) := by rw [e]; exact mA_get (by omega)
    have hb : (k : Int) - 1 < 32 := by omega
    have hs : N / BB ^ (k - 1 + 1) = M / BB ^ (k - 1 + 1) := by rw [show k - 1 + 1 = k by omega]; exact heq
    refine ⟨h1, hb, _, hn, h1, hb, _, hm, by kernel_rfl, fun h2 => ?_, fun h2 => ⟨h1, hb, _, hn, h1, hb, _, hm, by kernel_rfl, fun h3 => ?_, fun h3 => ?_⟩⟩
    · have h3 : dg N (k - 1) < dg M (k - 1) := by have := of_decide_eq_true h2; omega
      have := cmp_lt hs h3
      exact ⟨by simp only [cmpS, if_pos this]; rfl, trivial⟩
    · have h4 : dg M (k - 1) < dg N (k - 1) := by have := of_decide_eq_true h3; omega
      have := cmp_lt hs.symm h4
      exact ⟨by simp only [cmpS, if_neg (show ¬ N < M by omega), if_pos this]; rfl, trivial⟩
    · have h4 : dg N (k - 1) = dg M (k - 1) := by
        have := of_decide_eq_false h2
        have := of_decide_eq_false h3
        omega
      exact ⟨k - 1, _, _, by omega, ⟨by omega, cmp_step hs h4, rfl, rfl⟩, ⟨rfl, rfl, c_int (by rw [i64_in (by omega)]; omega), trivial⟩, ⟨rfl, rfl, trivial⟩, rfl⟩
  · have h1 : ¬ ((k : Int) - 1 ≥ 0) := of_decide_eq_false h
    obtain rfl : k = 0 := by omega
    simp only [Nat.pow_zero, Nat.div_one] at heq
    exact ⟨by simp only [cmpS, heq, Nat.lt_irrefl, if_false]; rfl, trivial⟩
set_option smartUnfolding false in
set_option maxRecDepth 100000 in
set_option maxHeartbeats 1000000 in
theorem sum_r {N M : Nat} (hN : N < BB ^ 32) (hM : M < BB ^ 32) : Pure Tryz.prog 77 [SV.c (.agg (mA N)), SV.c (.agg (mA M))] (.tuple #[.agg (mA ((N + M) % BB ^ 32)), .bool (decide (N + M < BB ^ 32))]) := by
  refine sx_pure tt_ok mixed at77 _ _ rfl rfl fun w => ?_
  refine ⟨mA_size _, mA_size _, fun q f m => ∃ (k c : Nat) (g : Nat → Nat), q = 32 - k ∧ k ≤ 32 ∧ c ≤ 1 ∧ (∀ j, j < k → g j < BB) ∧ nv g k + c * BB ^ k = nv (dg N) k + nv (dg M) k ∧ f = [(2, SV.ptr 2 0), (3, SV.ptr 3 0), (4, SV.ptr 4 0), (6, SV.ptr 6 0), (7, SV.c (.int .u64 c)), (8, SV.c (.int .i64 k))] ∧ m = [(2, Blk.row 23 32 (mA N)), (3, Blk.row 23 32 (mA M)), (4, Blk.row 23 32 (lA (fun _ => 0) 32)), (6, Blk.row 23 32 (lA g 32))], 32, ⟨_, _, ⟨0, 0, fun _ => 0, rfl, by omega, by omega, fun j hj => absurd hj (by omega), nv_start _ _ _, rfl, rfl⟩, ⟨rfl, rfl, rfl, rfl, rfl, rfl, trivial⟩, ⟨rfl, rfl, rfl, rfl, trivial⟩, rfl⟩, ?_⟩
  rintro q f m ⟨k, c, g, rfl, hk, hc, hg, hn, rfl, rfl⟩
  refine ⟨fun h => ?_, fun h => ?_⟩
  · have h1 : (k : Int) < 32 := of_decide_eq_true h
    have h0 : (0 : Int) ≤ k := by omega
    have gN := mA_get (N := N) (show k < 32 by omega)
    have gM := mA_get (N := M) (show k < 32 by omega)
    have hx := dg_lt N k
    have hy := dg_lt M k
    rw [BB_eq] at hx hy
    have ev : IntKind.u64.wrap (IntKind.u64.wrap (IntKind.u64.wrap (dg N k : Nat) + IntKind.u64.wrap (dg M k : Nat)) + (c : Nat)) = ((dg N k + dg M k + c : Nat) : Int) := by simp only [u64_wrap]; omega
    refine ⟨h0, h1, _, gN, h0, h1, _, gM, by kernel_rfl, h0, h1, by show k < 32; omega, rfl, _, lA_put (i := k) (x := (k : Int)) (v := (dg N k + dg M k + c) % BB) rfl (by rw [ev, u32_wrap, BB_eq]; rfl), by decide, ?_⟩
    refine ⟨32 - (k + 1), _, _, by omega, ⟨k + 1, (dg N k + dg M k + c) / BB, _, rfl, by omega, by rw [BB_eq]; omega, fun j hj => ?_, add_step (k := c) ?_ ?_, rfl, rfl⟩, ⟨rfl, rfl, rfl, rfl, c_int (by rw [ev]; exact shr32 _), c_int (by rw [i64_in (by omega)]; rfl), trivial⟩, ⟨rfl, rfl, rfl, rfl, trivial⟩, rfl⟩
    · by_cases e : j = k
      · subst e; simp only [if_true]; exact Nat.mod_lt _ BB_pos
      · simp only [if_neg e]; exact hg j (by omega)
    · rw [nv_set_lt]; exact hn
    · simp only [if_true]; rw [Nat.mul_comm]; exact Nat.mod_add_div _ _
  · have h1 : ¬ ((k : Int) < 32) := of_decide_eq_false h
    obtain rfl : k = 32 := by omega
    obtain ⟨hs1, hs2⟩ := plus_end hN hM hg hn
    have hA := mA_of hg hs1
    refine ⟨lA_fits _ _, tup2 (by rw [hA]) (bv ?_), trivial⟩
    rw [hs2, Bool.eq_iff_iff]; simp
theorem diff_end {N M c : Nat} {f : Nat → Nat} (hN : N < BB ^ 32) (hM : M < BB ^ 32) (hf : ∀ j, j < 32 → f j < BB) (h : nv f 32 + nv (dg M) 32 = nv (dg N) 32 + c * BB ^ 32) (hc : c ≤ 1) : nv f 32 = (N + BB ^ 32 - M) % BB ^ 32 := by
  rw [nv_dg_full hN, nv_dg_full hM] at h
  have hl := nv_lt hf
  generalize BB ^ 32 = P at *
  have : c = 0 ∨ c = 1 := by omega
  rcases this with rfl | rfl
  · rw [show N + P - M = (N - M) + P by omega, Nat.add_mod_right, Nat.mod_eq_of_lt (by omega)]; omega
  · rw [show N + P - M = nv f 32 by omega, Nat.mod_eq_of_lt hl]
theorem diff_sub {N M : Nat} (hN : N < BB ^ 32) (h : M ≤ N) : (N + BB ^ 32 - M) % BB ^ 32 = N - M := by
  rw [show N + BB ^ 32 - M = (N - M) + BB ^ 32 by omega, Nat.add_mod_right, Nat.mod_eq_of_lt (by omega)]
set_option smartUnfolding false in
set_option maxRecDepth 100000 in
set_option maxHeartbeats 1000000 in
theorem difference_r {N M : Nat} (hN : N < BB ^ 32) (hM : M < BB ^ 32) : Pure Tryz.prog 76 [SV.c (.agg (mA N)), SV.c (.agg (mA M))] (.agg (mA ((N + BB ^ 32 - M) % BB ^ 32))) := by
  refine sx_pure tt_ok mixed at76 _ _ rfl rfl fun w => ?_
  refine ⟨mA_size _, mA_size _, fun q f m => ∃ (k c : Nat) (g : Nat → Nat), q = 32 - k ∧ k ≤ 32 ∧ c ≤ 1 ∧ (∀ j, j < k → g j < BB) ∧ nv g k + nv (dg M) k = nv (dg N) k + c * BB ^ k ∧ f = [(2, SV.ptr 2 0), (3, SV.ptr 3 0), (4, SV.ptr 4 0), (5, SV.ptr 5 0), (6, SV.c (.int .u64 c)), (7, SV.c (.int .i64 k))] ∧ m = [(2, Blk.row 23 32 (mA N)), (3, Blk.row 23 32 (mA M)), (4, Blk.row 23 32 (lA (fun _ => 0) 32)), (5, Blk.row 23 32 (lA g 32))], 32, ⟨_, _, ⟨0, 0, fun _ => 0, rfl, by omega, by omega, fun j hj => absurd hj (by omega), nv_start2 _ _ _, rfl, rfl⟩, ⟨rfl, rfl, rfl, rfl, rfl, rfl, trivial⟩, ⟨rfl, rfl, rfl, rfl, trivial⟩, rfl⟩, ?_⟩
  rintro q f m ⟨k, c, g, rfl, hk, hc, hg, hn, rfl, rfl⟩
  refine ⟨fun h => ?_, fun h => ?_⟩
  · have h1 : (k : Int) < 32 := of_decide_eq_true h
    have h0 : (0 : Int) ≤ k := by omega
    have gN := mA_get (N := N) (show k < 32 by omega)
    have gM := mA_get (N := M) (show k < 32 by omega)
    have hx := dg_lt N k
    have hy := dg_lt M k
    rw [BB_eq] at hx hy
    have ev : IntKind.u64.wrap (IntKind.u64.wrap (IntKind.u64.wrap (dg N k : Nat) - IntKind.u64.wrap (dg M k : Nat)) - (c : Nat)) = ((dg N k : Int) - dg M k - c) % 18446744073709551616 := by simp only [u64_wrap]; omega
    refine ⟨h0, h1, _, gN, h0, h1, _, gM, by kernel_rfl, h0, h1, by show k < 32; omega, rfl, _, lA_put (i := k) (x := (k : Int)) (v := (dg N k + BB - (dg M k + c)) % BB) rfl (by rw [ev, u32_wrap, BB_eq]; omega), by decide, ?_⟩
    refine ⟨32 - (k + 1), _, _, by omega, ⟨k + 1, (if dg N k < dg M k + c then 1 else 0 : Nat), _, rfl, by omega, by split <;> omega, fun j hj => ?_, sub_step (k := c) ?_ ?_, rfl, rfl⟩, ⟨rfl, rfl, rfl, rfl, c_int ?_, c_int (by rw [i64_in (by omega)]; rfl), trivial⟩, ⟨rfl, rfl, rfl, rfl, trivial⟩, rfl⟩
    · by_cases e : j = k
      · subst e; simp only [if_true]; exact Nat.mod_lt _ BB_pos
      · simp only [if_neg e]; exact hg j (by omega)
    · rw [nv_set_lt]; exact hn
    · simp only [if_true]; rw [BB_eq] at *; split <;> omega
    · rw [ev, shr_div]
      show ((dg N k : Int) - dg M k - c) % 18446744073709551616 / 9223372036854775808 = _
      split <;> omega
  · have h1 : ¬ ((k : Int) < 32) := of_decide_eq_false h
    obtain rfl : k = 32 := by omega
    have hA := mA_of hg (diff_end hN hM hg hn hc)
    exact ⟨lA_fits _ _, by rw [← hA]; rfl, trivial⟩
end Go.Proofs.YtnfmpddhcjkjbaaGreatDoor
