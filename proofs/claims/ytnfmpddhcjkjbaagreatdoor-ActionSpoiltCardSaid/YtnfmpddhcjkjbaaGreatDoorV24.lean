/- walks: the reference, quotients; no condition. -/
import Derived.Test.YtnfmpddhcjkjbaaGreatDoorV23
namespace Go.Proofs.YtnfmpddhcjkjbaaGreatDoor
open Go Go.RowKit Go.SX
set_option smartUnfolding false in
set_option maxRecDepth 100000 in
theorem low_r {N : Nat} (hN : N < 18446744073709551616) : Pure Tryz.prog 109 [SV.c (.agg (mA N))] (.int .u64 (N : Nat)) := by
  refine sx_pure tt_ok mixed at109 _ _ rfl rfl fun w => ?_
  have eu := hilo (dg_lt N 1) (dg_lt N 0) rfl rfl
  have ed : dg N 1 * BB + dg N 0 = N := by
    simp only [dg, BB_eq, Nat.pow_one, Nat.pow_zero, Nat.div_one]; omega
  rw [ed] at eu
  have g1 : (mA N)[1]? = some (.int .u32 (dg N 1 : Nat)) := mA_get (by omega)
  have g0 : (mA N)[0]? = some (.int .u32 (dg N 0 : Nat)) := mA_get (by omega)
  exact ⟨mA_size _, by decide, by decide, _, g1, by decide, by decide, by decide, _, g0, by rw [eu]; rfl, trivial⟩
set_option smartUnfolding false in
set_option maxRecDepth 100000 in
theorem small_r {N : Nat} (hN : N < 18446744073709551616) : Pure Tryz.prog 108 [SV.c (.int .u64 (N : Nat))] (.agg (mA N)) := by
  refine sx_pure tt_ok mixed at108 _ _ rfl rfl fun w => ?_
  have e0 : IntKind.u32.wrap ((N : Nat) : Int) = ((N % 4294967296 : Nat) : Int) := by rw [u32_wrap]; omega
  have e1 : IntKind.u32.wrap (((N : Nat) : Int).fdiv (2 ^ min (Int.toNat 32) IntKind.u64.bits)) = ((N / 4294967296 : Nat) : Int) := by
    rw [show ((N : Nat) : Int).fdiv (2 ^ min (Int.toNat 32) IntKind.u64.bits) = ((N / 4294967296 : Nat) : Int) from sh_nat _ 32]
    exact u32_in (by omega)
  have hA : lA (fun k => if k = 1 then N / 4294967296 else (fun k => if k = 0 then N % 4294967296 else (fun _ => 0) k) k) 32 = mA N := lA_congr fun i hi => by
    by_cases h1 : i = 1
    · subst h1
      rw [if_pos rfl]
      simp only [dg, BB_eq, Nat.pow_one]; omega
    · rw [if_neg h1]
      by_cases h0 : i = 0
      · subst h0
        simp only [if_true]
        simp only [dg, BB_eq, Nat.pow_zero, Nat.div_one]
      · simp only [if_neg h0]
        rw [dg_hi hN (by omega)]
  refine ⟨by decide, by decide, by decide, by decide, rfl, _, lA_put (G := fun _ => 0) (n := 32) (i := 0) (x := ((0 : Nat) : Int)) rfl e0, by decide, by decide, by decide, rfl, _, lA_put (i := 1) (x := ((1 : Nat) : Int)) rfl e1, ?_⟩
  exact ⟨lA_fits _ _, by rw [hA]; rfl, trivial⟩
theorem and32 {A B : Nat} (hA : A < 4294967296) (hB : B < 4294967296) : IntKind.u32.wrap (((BitVec.ofInt IntKind.u32.bits (A : Int) &&& BitVec.ofInt IntKind.u32.bits (B : Int)).toNat : Nat) : Int) = ((A &&& B : Nat) : Int) := by
  have h : A &&& B < 4294967296 := Nat.and_lt_two_pow (n := 32) _ hB
  rw [BitVec.toNat_and, BitVec.ofInt_natCast, BitVec.ofInt_natCast, BitVec.toNat_ofNat, BitVec.toNat_ofNat]
  show IntKind.u32.wrap (((A % 4294967296 &&& B % 4294967296 : Nat)) : Int) = _
  rw [Nat.mod_eq_of_lt hA, Nat.mod_eq_of_lt hB, u32_in (by omega)]
theorem u64_nat {x : Nat} (h : x < 18446744073709551616) : IntKind.u64.wrap (x : Int) = x := u64_in ⟨Int.natCast_nonneg x, by omega⟩
theorem i64_nat {x : Nat} (h : x ≤ 9223372036854775807) : IntKind.i64.wrap (x : Int) = x := i64_in ⟨by omega, by omega⟩
theorem used2 {N n : Nat} (hu : IsUsed N n) : n ≤ 2 ↔ N < 18446744073709551616 := by
  have e : BB ^ 2 = 18446744073709551616 := by decide
  constructor
  · intro h
    have h4 : BB ^ n ≤ BB ^ 2 := Nat.pow_le_pow_right BB_pos h
    rw [e] at h4
    have := hu.1
    omega
  · intro h
    rcases Nat.lt_or_ge 2 n with h2 | h2
    · have h3 := hu.2 (by omega)
      have h4 : BB ^ 2 ≤ BB ^ (n - 1) := Nat.pow_le_pow_right BB_pos (by omega)
      omega
    · exact h2
theorem fill_mag {N : Nat} {pl : List (Nat × Nat)} (hpl : pl = [(0, 1), (1, 32)]) : Instr.fill (fun k => pl[k]?) ti25.zero [(1, .agg (mA N))] = some (iA false N) := by
  subst hpl
  kernel_rfl
theorem bit_at (N i : Nat) : dg N (i / 32) / 2 ^ (i % 32) % 2 = N / 2 ^ i % 2 := by
  have h := dg_bit N (i / 32) (i % 32)
  rw [show 32 * (i / 32) + i % 32 = i by omega, decide_eq_true (Nat.mod_lt i (by omega)), Bool.true_and, Nat.testBit_eq_decide_div_mod_eq, Nat.testBit_eq_decide_div_mod_eq, decide_eq_decide] at h
  have := Nat.mod_two_eq_zero_or_one (dg N (i / 32) / 2 ^ (i % 32))
  have := Nat.mod_two_eq_zero_or_one (N / 2 ^ i)
  omega
theorem diff_r2 {M X : Nat} (hM : M < BB ^ 32) (h2 : X < 2 * M) (h : M ≤ X) : (X % BB ^ 32 + BB ^ 32 - M) % BB ^ 32 = X - M := by
  generalize BB ^ 32 = P at *
  rcases Nat.lt_or_ge X P with h1 | h1
  · rw [Nat.mod_eq_of_lt h1, show X + P - M = (X - M) + P by omega, Nat.add_mod_right, Nat.mod_eq_of_lt (by omega)]
  · have : X % P = X - P := by
      conv => lhs; rw [show X = (X - P) + P by omega]
      rw [Nat.add_mod_right, Nat.mod_eq_of_lt (by omega)]
    rw [this, show X - P + P - M = X - M by omega, Nat.mod_eq_of_lt (by omega)]
theorem r2_mod {M X : Nat} (h2 : X < 2 * M) : X % M = if M ≤ X then X - M else X := by
  by_cases h : M ≤ X
  · rw [if_pos h]
    conv => lhs; rw [show X = (X - M) + M by omega]
    rw [Nat.add_mod_right, Nat.mod_eq_of_lt (by omega)]
  · rw [if_neg h, Nat.mod_eq_of_lt (by omega)]
set_option exponentiation.threshold 2000 in
set_option smartUnfolding false in
set_option maxRecDepth 100000 in
set_option maxHeartbeats 2000000 in
theorem divide_r {N M : Nat} (hN : N < BB ^ 32) (hM : M < BB ^ 32) (hM0 : 0 < M) : Pure Tryz.prog 75 [SV.c (.agg (mA N)), SV.c (.agg (mA M))] (.tuple #[.agg (mA (N / M)), .agg (mA (N % M))]) := by
  obtain ⟨n, hn, hu⟩ := used_ex hN
  obtain ⟨m, hm, hv⟩ := used_ex hM
  have hu2 := used2 hu
  have hv2 := used2 hv
  refine sx_pureC [3] tt_ok mixed at75 _ _ rfl rfl fun w => ?_
  refine ⟨mA_size _, mA_size _, fun f mm => f = [(2, SV.ptr 2 0), (3, SV.ptr 3 0), (4, SV.ptr 4 0), (5, SV.ptr 5 0)] ∧ mm = [(2, Blk.row 23 32 (mA N)), (3, Blk.row 23 32 (mA M)), (4, Blk.row 23 32 (lA (fun _ => 0) 32)), (5, Blk.row 23 32 (lA (fun _ => 0) 32))], .inl ⟨_, limbs_r hu hN, fun h1 => .inl ⟨_, limbs_r hv hM, fun h2 => ?_, fun h2 => ?_⟩, fun h1 => ⟨nofun, fun _ => ?_⟩⟩, ?_⟩
  · have h1 : N < 18446744073709551616 := hu2.1 (by have := of_decide_eq_true h1; omega)
    have h2 : M < 18446744073709551616 := hv2.1 (by have := of_decide_eq_true h2; omega)
    have l1 := low_r h1
    have l2 := low_r h2
    have hq : N / M ≤ N := Nat.div_le_self _ _
    have hr : N % M < M := Nat.mod_lt _ hM0
    have s1 := small_r (N := N / M) (by omega)
    have s2 := small_r (N := N % M) (by omega)
    have e1 : IntKind.u64.wrap (Int.tdiv (N : Nat) (M : Nat)) = ((N / M : Nat) : Int) := by rw [tdiv_nat, u64_nat (by omega)]
    have e2 : Int.tmod (N : Nat) (M : Nat) = ((N % M : Nat) : Int) := tmod_nat N M
    rw [← e1] at s1
    rw [← e2] at s2
    exact .inl ⟨_, l1, .inl ⟨_, l2, by omega, .inl ⟨_, s1, .inl ⟨_, l1, .inl ⟨_, l2, by omega, .inl ⟨_, s2, mA_fits _, mA_fits _, by kernel_rfl, rfl, trivial⟩⟩⟩⟩⟩⟩
  · exact ⟨_, _, ⟨rfl, rfl⟩, ⟨rfl, rfl, rfl, rfl, trivial⟩, ⟨rfl, rfl, rfl, rfl, trivial⟩, rfl⟩
  · exact ⟨_, _, ⟨rfl, rfl⟩, ⟨rfl, rfl, rfl, rfl, trivial⟩, ⟨rfl, rfl, rfl, rfl, trivial⟩, rfl⟩
  rintro f mm ⟨rfl, rfl⟩
  have b1 := bits_r (A := iA false N) (z := zN false N) ⟨false, N, hN, rfl, rfl⟩
  have b2 := bits_r (A := iA false M) (z := zN false M) ⟨false, M, hM, rfl, rfl⟩
  rw [zN_abs] at b1 b2
  obtain ⟨n1, n2⟩ := bl_bits N
  obtain ⟨m1, m2⟩ := bl_bits M
  have hbM : 0 < bl M := by
    rcases Nat.eq_zero_or_pos (bl M) with e | e
    · rw [e] at m1; simp at m1; omega
    · exact e
  have m2 := m2 hbM
  have hb1 : bl N ≤ 1024 := bl_le (by rw [BB_pow] at hN; exact hN)
  have hb2 : bl M ≤ 1024 := bl_le (by rw [BB_pow] at hM; exact hM)
  have eb : IntKind.i64.wrap ((bl M : Int) - 1) = ((bl M - 1 : Nat) : Int) := by rw [i64_in (by omega)]; omega
  refine ⟨_, fill_mag rfl, .inl ⟨_, b1, _, fill_mag rfl, .inl ⟨_, b2, by kernel_rfl, fun h1 => ?_, fun h1 => ?_⟩⟩⟩
  · have h1 : bl N ≤ bl M - 1 := by have := of_decide_eq_true h1; rw [eb] at this; omega
    have hlt : N < M := by
      have : 2 ^ bl N ≤ 2 ^ (bl M - 1) := Nat.pow_le_pow_right (by omega) h1
      omega
    refine ⟨lA_fits _ _, mA_fits _, by kernel_rfl, ?_, trivial⟩
    rw [Nat.div_eq_of_lt hlt, Nat.mod_eq_of_lt hlt]
    refine tup2 ?_ rfl
    rw [← lA_rep]; rfl
  have h1 : bl M - 1 < bl N := by have := of_decide_eq_false h1; rw [eb] at this; omega
  obtain ⟨T, hT⟩ : ∃ T, bl N - (bl M - 1) = T := ⟨_, rfl⟩
  have eT : IntKind.i64.wrap ((bl N : Int) - IntKind.i64.wrap ((bl M : Int) - 1)) = (T : Nat) := by rw [eb, i64_in (by omega)]; omega
  have hsh := shifted_r (N := N) (n := T) hN (by omega)
  rw [← eT] at hsh
  have hlow : N / 2 ^ T < M := by
    have h2 : N / 2 ^ T < 2 ^ (bl M - 1) := by
      rw [Nat.div_lt_iff_lt_mul (Nat.pow_pos (by omega)), ← Nat.pow_add, show bl M - 1 + T = bl N by omega]
      exact n1
    omega
  refine .inl ⟨_, hsh, mA_fits _, ?_⟩
  refine ⟨fun k f mm => k ≤ T ∧ ∃ g : Nat → Nat, (∀ j, j < 32 → g j = dg (hiP (N / M) k) j) ∧ f = [(2, SV.ptr 2 0), (3, SV.ptr 3 0), (4, SV.ptr 4 0), (5, SV.ptr 5 0), (8, SV.c (.int .i64 ((k : Int) - 1)))] ∧ mm = [(2, Blk.row 23 32 (mA N)), (3, Blk.row 23 32 (mA M)), (4, Blk.row 23 32 (lA g 32)), (5, Blk.row 23 32 (mA (N / 2 ^ k % M)))], T, ⟨_, _, ⟨Nat.le_refl _, fun _ => 0, fun j hj => ?_, rfl, rfl⟩, ⟨rfl, rfl, rfl, rfl, c_int (by rw [eT, i64_in (by omega)]), trivial⟩, ⟨rfl, rfl, rfl, row_eq (by rw [Nat.mod_eq_of_lt hlow]), trivial⟩, rfl⟩, ?_⟩
  · unfold hiP
    rw [Nat.div_div_eq_div_mul, Nat.mul_comm M, ← Nat.div_div_eq_div_mul, Nat.div_eq_of_lt hlow, Nat.zero_mul, dg_zero]
  rintro k f mm ⟨hk, g, hg, rfl, rfl⟩
  refine ⟨fun h2 => ?_, fun h2 => ?_⟩
  · have h2 : (k : Int) - 1 ≥ 0 := of_decide_eq_true h2
    obtain ⟨i, rfl⟩ : ∃ i, k = i + 1 := ⟨k - 1, by omega⟩
    have hi : i < 1024 := by omega
    have ei : IntKind.i64.wrap (Int.tdiv (((i + 1 : Nat) : Int) - 1) 32) = ((i / 32 : Nat) : Int) := by
      rw [show ((i + 1 : Nat) : Int) - 1 = (i : Nat) by omega, show (32 : Int) = ((32 : Nat) : Int) from rfl, tdiv_nat, i64_nat (by omega)]
    have em : IntKind.u64.wrap (Int.tmod (((i + 1 : Nat) : Int) - 1) 32) = ((i % 32 : Nat) : Int) := by
      rw [show ((i + 1 : Nat) : Int) - 1 = (i : Nat) by omega, show (32 : Int) = ((32 : Nat) : Int) from rfl, tmod_nat, u64_nat (by omega)]
    have gx : (mA N)[(IntKind.i64.wrap (Int.tdiv (((i + 1 : Nat) : Int) - 1) 32)).toNat]? = some (.int .u32 (dg N (i / 32) : Nat)) := by rw [ei]; exact mA_get (by omega)
    have gq : (lA g 32)[(IntKind.i64.wrap (Int.tdiv (((i + 1 : Nat) : Int) - 1) 32)).toNat]? = some (.int .u32 (g (i / 32) : Nat)) := by rw [ei]; exact lA_get g (by omega)
    have hx := dg_lt N (i / 32)
    rw [BB_eq] at hx
    have ebit : IntKind.u32.wrap (((BitVec.ofInt IntKind.u32.bits (((dg N (i / 32) : Nat) : Int).fdiv (2 ^ min (Int.toNat (IntKind.u64.wrap (Int.tmod (((i + 1 : Nat) : Int) - 1) 32))) IntKind.u32.bits)) &&& BitVec.ofInt IntKind.u32.bits 1).toNat : Nat) : Int) = ((N / 2 ^ i % 2 : Nat) : Int) := by
      rw [em, shr_nat (dg N (i / 32)) (i % 32) (by omega) rfl, show (1 : Int) = ((1 : Nat) : Int) from rfl, and32 (Nat.lt_of_le_of_lt (Nat.div_le_self _ _) hx) (by omega), Nat.and_one_is_mod, bit_at]
    have hb : N / 2 ^ i % 2 ≤ 1 := by omega
    have hr : N / 2 ^ (i + 1) % M < M := Nat.mod_lt _ hM0
    have hdb := double_r (N := N / 2 ^ (i + 1) % M) (b := N / 2 ^ i % 2) (Nat.lt_trans hr hM) hb
    rw [← ebit] at hdb
    have hr2 : 2 * (N / 2 ^ (i + 1) % M) + N / 2 ^ i % 2 < 2 * M := by omega
    have hrm := (bit_r N M i).trans (r2_mod hr2)
    have hqb := bit_q N M i hM0
    have hgl : g (i / 32) < 4294967296 := by rw [hg _ (by omega)]; exact dg_lt _ _
    have evq : IntKind.u32.wrap (((BitVec.ofInt IntKind.u32.bits ((g (i / 32) : Nat) : Int) ||| BitVec.ofInt IntKind.u32.bits (IntKind.u32.wrap (1 * 2 ^ min (Int.toNat (IntKind.u64.wrap (Int.tmod (((i + 1 : Nat) : Int) - 1) 32))) IntKind.u32.bits))).toNat : Nat) : Int) = ((g (i / 32) ||| 2 ^ (i % 32) : Nat) : Int) := by
      have hp : 2 ^ (i % 32) < 4294967296 := Nat.pow_lt_pow_right (by omega) (Nat.mod_lt i (show 0 < 32 by omega))
      have e8 := shl_nat 1 (i % 32) (Nat.mod_lt i (by omega))
      rw [Nat.one_mul, Nat.mod_eq_of_lt hp] at e8
      rw [em, show (1 : Int) = ((1 : Nat) : Int) from rfl, e8]
      exact or32 hgl hp
    refine ⟨by decide, by rw [ei]; omega, by rw [ei]; show ((i / 32 : Nat) : Int) < 32; omega, _, gx, by decide, by rw [em]; omega, .inl ⟨_, hdb, mA_fits _, by kernel_rfl, fun h3 => ?_, fun h3 => ?_⟩⟩
    · have h3 : 2 * (N / 2 ^ (i + 1) % M) + N / 2 ^ i % 2 < BB ^ 32 := of_decide_eq_true (of_bnf h3)
      refine .inl ⟨_, compare_r (Nat.mod_lt _ (pow_pos' 32)) hM, fun h4 => ?_, fun h4 => ?_⟩
      · have hc := of_decide_eq_true h4
        rw [Nat.mod_eq_of_lt h3] at hc
        have hle : M ≤ 2 * (N / 2 ^ (i + 1) % M) + N / 2 ^ i % 2 := by
          unfold cmpS at hc
          split at hc
          · omega
          · omega
        have e7 := diff_r2 hM hr2 hle
        have hdf := difference_r (N := (2 * (N / 2 ^ (i + 1) % M) + N / 2 ^ i % 2) % BB ^ 32) (Nat.mod_lt _ (pow_pos' 32)) hM
        rw [e7] at hdf
        refine .inl ⟨_, hdf, mA_fits _, by decide, by rw [ei]; omega, by rw [ei]; show ((i / 32 : Nat) : Int) < 32; omega, _, gq, by decide, by rw [em]; omega, by rw [ei]; omega, by rw [ei]; show ((i / 32 : Nat) : Int) < 32; omega, by rw [ei]; show i / 32 < 32; omega, rfl, _, lA_put (i := i / 32) (x := IntKind.i64.wrap (Int.tdiv (((i + 1 : Nat) : Int) - 1) 32)) ei evq, ?_⟩
        refine ⟨i, _, _, by omega, ⟨by omega, _, fun j hj => ?_, rfl, rfl⟩, ⟨rfl, rfl, rfl, rfl, c_int (by rw [i64_in (by omega)]; omega), trivial⟩, ⟨rfl, rfl, rfl, row_eq (by rw [hrm, if_pos hle]), trivial⟩, rfl⟩
        rw [hiP_step, hqb, if_pos hle, Nat.one_mul, dg_setbit _ i j (hiP_bit _ i)]
        by_cases e : j = i / 32
        · subst e; rw [if_pos rfl, if_pos rfl, hg _ hj]
        · rw [if_neg e, if_neg e, hg j hj]
      · have hc := of_decide_eq_false h4
        rw [Nat.mod_eq_of_lt h3] at hc
        have hle : ¬ M ≤ 2 * (N / 2 ^ (i + 1) % M) + N / 2 ^ i % 2 := by
          unfold cmpS at hc
          split at hc
          · omega
          · split at hc <;> omega
        refine ⟨i, _, _, by omega, ⟨by omega, g, fun j hj => ?_, rfl, rfl⟩, ⟨rfl, rfl, rfl, rfl, c_int (by rw [i64_in (by omega)]; omega), trivial⟩, ⟨rfl, rfl, rfl, row_eq (by rw [hrm, if_neg hle, Nat.mod_eq_of_lt h3]), trivial⟩, rfl⟩
        rw [hiP_step, hqb, if_neg hle, Nat.zero_mul, Nat.add_zero]
        exact hg j hj
    · have h3 : ¬ 2 * (N / 2 ^ (i + 1) % M) + N / 2 ^ i % 2 < BB ^ 32 := of_decide_eq_false (bnt h3)
      have hle : M ≤ 2 * (N / 2 ^ (i + 1) % M) + N / 2 ^ i % 2 := by omega
      have e7 := diff_r2 hM hr2 hle
      have hdf := difference_r (N := (2 * (N / 2 ^ (i + 1) % M) + N / 2 ^ i % 2) % BB ^ 32) (Nat.mod_lt _ (pow_pos' 32)) hM
      rw [e7] at hdf
      refine ⟨fun _ => .inl ⟨_, hdf, mA_fits _, by decide, by rw [ei]; omega, by rw [ei]; show ((i / 32 : Nat) : Int) < 32; omega, _, gq, by decide, by rw [em]; omega, by rw [ei]; omega, by rw [ei]; show ((i / 32 : Nat) : Int) < 32; omega, by rw [ei]; show i / 32 < 32; omega, rfl, _, lA_put (i := i / 32) (x := IntKind.i64.wrap (Int.tdiv (((i + 1 : Nat) : Int) - 1) 32)) ei evq, ?_⟩, nofun⟩
      refine ⟨i, _, _, by omega, ⟨by omega, _, fun j hj => ?_, rfl, rfl⟩, ⟨rfl, rfl, rfl, rfl, c_int (by rw [i64_in (by omega)]; omega), trivial⟩, ⟨rfl, rfl, rfl, row_eq (by rw [hrm, if_pos hle]), trivial⟩, rfl⟩
      rw [hiP_step, hqb, if_pos hle, Nat.one_mul, dg_setbit _ i j (hiP_bit _ i)]
      by_cases e : j = i / 32
      · subst e; rw [if_pos rfl, if_pos rfl, hg _ hj]
      · rw [if_neg e, if_neg e, hg j hj]
  · have h2 : k = 0 := by have := of_decide_eq_false h2; omega
    subst h2
    have hA : lA g 32 = mA (N / M) := lA_congr fun j hj => by rw [hg j hj, hiP_zero]
    refine ⟨lA_fits _ _, mA_fits _, by kernel_rfl, ?_, trivial⟩
    rw [hA, Nat.pow_zero, Nat.div_one]; rfl
theorem one32 : (lA (fun _ => 0) 32).setIfInBounds 0 (.int .u32 1) = mA 1 := by
  rw [show (1 : Int) = ((1 : Nat) : Int) from rfl, lA_set]
  refine lA_congr fun i hi => ?_
  by_cases h : i = 0
  · subst h; rfl
  · rw [if_neg h]
    have : dg 1 i = 0 := dg_of_lt (n := 1) (by decide) (by omega)
    exact this.symm
set_option smartUnfolding false in
set_option maxRecDepth 100000 in
set_option maxHeartbeats 2000000 in
theorem divmod0_r {A B : Array Value} {x : Int} (hA : IsI A x) (hB : IsI B 0) : Pure Tryz.prog 37 [SV.c (.agg A), SV.c (.agg B)] (.tuple #[.agg (eA 0), .agg (eA 0), .int .i64 11]) := by
  obtain ⟨a, N, hN, rfl, ex⟩ := hA.raw
  obtain ⟨b, M, hM, rfl, ey⟩ := hB.raw
  have hM0 : M = 0 := by cases b <;> simp [zN] at ey <;> omega
  subst hM0
  refine sx_pure tt_ok mixed at37 _ _ rfl rfl fun w => ?_
  refine ⟨iA_size _ _, iA_size _ _, by decide, _, iA_mag, .inl ⟨_, zero_r hM, fun _ => ⟨ti25.zero, rfl, ti25.zero, rfl, eA_fits 0, eA_fits 0, rfl, trivial⟩, fun h => absurd h (by decide)⟩⟩
set_option smartUnfolding false in
set_option maxRecDepth 100000 in
set_option maxHeartbeats 2000000 in
theorem divmod_r {A B : Array Value} {x y : Int} (hA : IsI A x) (hB : IsI B y) (hy : y ≠ 0) : Pure Tryz.prog 37 [SV.c (.agg A), SV.c (.agg B)] (.tuple #[.agg (eA (x / y)), .agg (eA (x % y)), .int .i64 0]) := by
  have hx := hA.lt
  have hyl := hB.lt
  have hall := dm_all x y hy
  obtain ⟨a, N, hN, rfl, ex⟩ := hA.raw
  obtain ⟨b, M, hM, rfl, ey⟩ := hB.raw
  have eN : x.natAbs = N := by rw [ex, zN_abs]
  have eM : y.natAbs = M := by rw [ey, zN_abs]
  rw [eN, eM] at hall
  have hM0 : 0 < M := by omega
  have hb : decide (y < 0) = b := by
    rw [ey]; cases b
    · simp [zN]
    · simp [zN]; omega
  have ha : N ≠ 0 → decide (x < 0) = a := fun h => by
    rw [ex]; cases a
    · simp [zN]
    · simp [zN]; omega
  refine sx_pureC [9] tt_ok mixed at37 _ _ rfl rfl fun w => ?_
  have hql : N / M < BB ^ 32 := Nat.lt_of_le_of_lt (Nat.div_le_self _ _) hN
  have hrl : N % M < M := Nat.mod_lt _ hM0
  have hrb : N % M < BB ^ 32 := Nat.lt_trans hrl hM
  refine ⟨iA_size _ _, iA_size _ _, by decide, _, iA_mag, .inl ⟨_, zero_r hM, fun h => ?_, fun h => ?_⟩⟩
  · exfalso
    have := of_decide_eq_true h
    omega
  refine ⟨by decide, _, iA_mag, by decide, _, iA_mag, .inl ⟨_, divide_r hN hM hM0, mA_fits _, mA_fits _, ?_⟩⟩
  have fin : ∀ q, (q = 0 → N = 0 ∨ True) → True := fun _ _ => trivial
  refine ⟨fun f mm => ∃ q r : Nat, q < BB ^ 32 ∧ r < BB ^ 32 ∧ x / y = zN (a != b) q ∧ x % y = r ∧ f = [(2, SV.ptr 2 0), (3, SV.ptr 3 0), (4, SV.ptr 4 0), (5, SV.ptr 5 0), (7, SV.ptr 7 0), (8, SV.ptr 8 0)] ∧ mm = [(2, Blk.row 25 33 (iA a N)), (3, Blk.row 25 33 (iA b M)), (4, Blk.row 25 33 ti25.zero), (5, Blk.row 25 33 ti25.zero), (7, Blk.row 23 32 (mA q)), (8, Blk.row 23 32 (mA r))], ⟨_, iA_neg, fun h1 => .inl ⟨_, zero_r hrb, fun h2 => ?_, fun h2 => ?_⟩, fun h1 => ⟨nofun, fun _ => ?_⟩⟩, ?_⟩
  · have h1 : a = true := h1
    have h2 : N % M ≠ 0 := of_decide_eq_false (bnt h2)
    have hn0 : N ≠ 0 := by intro e; rw [e, Nat.zero_mod] at h2; exact h2 rfl
    have hxa := ha hn0
    rw [h1] at hxa
    rw [if_pos ⟨of_decide_eq_true hxa, h2⟩, hxa, hb] at hall
    have hql2 : N / M + 1 < BB ^ 32 := by
      have hb2 : 2 ≤ M := by
        rcases Nat.lt_or_ge M 2 with h | h
        · have : M = 1 := by omega
          rw [this, Nat.mod_one] at h2; exact absurd rfl h2
        · exact h
      have h3 : N / M ≤ N / 2 := Nat.div_le_div_left hb2 (by omega)
      have h4 : 4 ≤ BB ^ 32 := Nat.le_trans (by omega) two64
      omega
    have hd := difference_r hM hrb
    rw [diff_sub hM (Nat.le_of_lt hrl)] at hd
    have hs := sum_r hql (Nat.lt_of_lt_of_le (by omega : 1 < 18446744073709551616) two64)
    refine ⟨by decide, _, iA_mag, .inl ⟨_, hd, mA_fits _, by decide, by decide, by decide, rfl, _, one32, .inl ⟨_, hs, mA_fits _, _, _, ⟨N / M + 1, _, hql2, Nat.lt_of_le_of_lt (Nat.sub_le _ _) hM, by rw [h1]; exact hall.1, hall.2, rfl, rfl⟩, ⟨rfl, rfl, rfl, rfl, rfl, rfl, trivial⟩, ⟨rfl, rfl, rfl, rfl, row_eq (by rw [Nat.mod_eq_of_lt hql2]), rfl, trivial⟩, rfl⟩⟩⟩
  · have h1 : a = true := h1
    have h2 : N % M = 0 := of_decide_eq_true (bnf h2)
    rw [if_neg (fun h => h.2 h2)] at hall
    refine ⟨_, _, ⟨_, _, hql, hrb, ?_, hall.2, rfl, rfl⟩, ⟨rfl, rfl, rfl, rfl, rfl, rfl, trivial⟩, ⟨rfl, rfl, rfl, rfl, rfl, rfl, trivial⟩, rfl⟩
    rw [hall.1, hb]
    by_cases hn0 : N = 0
    · rw [hn0, Nat.zero_div]; unfold zN; split <;> split <;> rfl
    · rw [ha hn0]
  · have h1 : a = false := h1
    have hx0 : ¬ x < 0 := by rw [ex, h1]; simp [zN]
    rw [if_neg (fun h => hx0 h.1), hb, decide_eq_false hx0] at hall
    exact ⟨_, _, ⟨_, _, hql, hrb, by rw [h1]; exact hall.1, hall.2, rfl, rfl⟩, ⟨rfl, rfl, rfl, rfl, rfl, rfl, trivial⟩, ⟨rfl, rfl, rfl, rfl, rfl, rfl, trivial⟩, rfl⟩
  · rintro f mm ⟨q, r, hq, hr, e1, e2, rfl, rfl⟩
    have m1 := canon_r (a != b) hq
    have m2 := canon_r false hr
    rw [← e1] at m1
    rw [show zN false r = x % y from e2.symm] at m2
    exact ⟨_, iA_neg, _, iA_neg, .inl ⟨_, m1, .inl ⟨_, m2, eA_fits _, eA_fits _, by kernel_rfl, rfl, trivial⟩⟩⟩
set_option smartUnfolding false in
set_option maxRecDepth 100000 in
set_option maxHeartbeats 2000000 in
theorem gcd_r {A B : Array Value} {x y : Int} (hA : IsI A x) (hB : IsI B y) : Pure Tryz.prog 101 [SV.c (.agg A), SV.c (.agg B)] (.agg (eA ((Int.gcd x y : Nat) : Int))) := by
  obtain ⟨a, N, hN, rfl, rfl⟩ := hA.raw
  obtain ⟨b, M, hM, rfl, rfl⟩ := hB.raw
  rw [gcd_zN]
  refine sx_pure tt_ok mixed at101 _ _ rfl rfl fun w => ?_
  refine ⟨iA_size _ _, iA_size _ _, by decide, _, iA_mag, by decide, _, iA_mag, mA_fits _, mA_fits _, by kernel_rfl, ?_⟩
  refine ⟨fun q f mm => ∃ u : Nat, u < BB ^ 32 ∧ q < BB ^ 32 ∧ Nat.gcd u q = Nat.gcd N M ∧ f = [(4, SV.ptr 4 0), (5, SV.ptr 5 0), (6, SV.ptr 6 0)] ∧ mm = [(4, Blk.row 25 33 ti25.zero), (5, Blk.row 23 32 (mA u)), (6, Blk.row 23 32 (mA q))], _, ⟨_, _, ⟨_, hN, hM, rfl, rfl, rfl⟩, ⟨rfl, rfl, rfl, trivial⟩, ⟨rfl, rfl, rfl, trivial⟩, rfl⟩, ?_⟩
  rintro q f mm ⟨u, ha, hq, hg, rfl, rfl⟩
  refine .inl ⟨_, zero_r hq, fun h => ?_, fun h => ?_⟩
  · have hq0 : 0 < q := by
      have : q ≠ 0 := of_decide_eq_false (bnt h)
      omega
    have hr := Nat.mod_lt u hq0
    exact .inl ⟨_, divide_r ha hq hq0, mA_fits _, mA_fits _, mA_fits _, mA_fits _, by kernel_rfl, u % q, _, _, hr, ⟨_, hq, Nat.lt_trans hr hq, by rw [← hg, Nat.gcd_comm u q, Nat.gcd_rec q u, Nat.gcd_comm], rfl, rfl⟩, ⟨rfl, rfl, rfl, trivial⟩, ⟨rfl, rfl, rfl, trivial⟩, rfl⟩
  · have hq0 : q = 0 := of_decide_eq_true (bnf h)
    subst hq0
    have m1 := canon_r false ha
    rw [Nat.gcd_zero_right] at hg
    rw [show zN false u = ((Nat.gcd N M : Nat) : Int) by rw [← hg]; rfl] at m1
    exact .inl ⟨_, m1, eA_fits _, rfl, trivial⟩
end Go.Proofs.YtnfmpddhcjkjbaaGreatDoor
