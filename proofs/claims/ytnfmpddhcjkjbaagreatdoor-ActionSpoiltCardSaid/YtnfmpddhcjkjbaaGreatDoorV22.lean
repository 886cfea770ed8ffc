/- walks: the reference, products; no condition. -/
import Derived.Test.YtnfmpddhcjkjbaaGreatDoorV21
namespace Go.Proofs.YtnfmpddhcjkjbaaGreatDoor
open Go Go.RowKit Go.SX
set_option smartUnfolding false in
set_option maxRecDepth 100000 in
set_option maxHeartbeats 2000000 in
theorem mul_r {A B : Array Value} {x y : Int} (hA : IsI A x) (hB : IsI B y) : Pure Tryz.prog 35 [SV.c (.agg A), SV.c (.agg B)] (fitR (x * y)) := by
  obtain ⟨a, N, hN, rfl, rfl⟩ := hA.raw
  obtain ⟨b, M, hM, rfl, rfl⟩ := hB.raw
  obtain ⟨n, hn, hu⟩ := used_ex hN
  obtain ⟨m, hm, hv⟩ := used_ex hM
  have ez : zN (a != b) (N * M) = zN a N * zN b M := by
    cases a <;> cases b <;> simp [zN, Int.neg_mul, Int.mul_neg]
  have eab : (zN a N * zN b M).natAbs = N * M := by rw [← ez, zN_abs]
  refine sx_pure tt_ok mixed at35 _ _ rfl rfl fun w => ?_
  refine ⟨iA_size _ _, iA_size _ _, by decide, _, iA_mag, .inl ⟨_, limbs_r hu hN, by decide, _, iA_mag, .inl ⟨_, limbs_r hv hM, by kernel_rfl, ?_⟩⟩⟩
  refine ⟨fun q f mm => ∃ (i : Nat) (F : Nat → Nat), q = n - i ∧ i ≤ n ∧ MulO N M m i F ∧ f = [(2, SV.ptr 2 0), (3, SV.ptr 3 0), (4, SV.ptr 4 0), (6, SV.ptr 6 0), (7, SV.c (.int .i64 n)), (8, SV.c (.int .i64 m)), (9, SV.c (.int .i64 i))] ∧ mm = [(2, Blk.row 25 33 (iA a N)), (3, Blk.row 25 33 (iA b M)), (4, Blk.row 25 33 ti25.zero), (6, Blk.row 104 64 (lA F 64))], n, ⟨_, _, ⟨0, fun _ => 0, rfl, Nat.zero_le _, MulO.start N M m, rfl, rfl⟩, ⟨rfl, rfl, rfl, rfl, rfl, rfl, rfl, trivial⟩, ⟨rfl, rfl, rfl, rfl, trivial⟩, rfl⟩, ?_⟩
  rintro q f mm ⟨i, F, rfl, hi, hF, rfl, rfl⟩
  refine ⟨fun h => ?_, fun h => ?_⟩
  · have hin : i < n := by have := of_decide_eq_true h; omega
    refine ⟨fun q f mm => ∃ (j c : Nat) (G : Nat → Nat), q = m - j ∧ j ≤ m ∧ MulI N M m i j F G c ∧ f = [(2, SV.ptr 2 0), (3, SV.ptr 3 0), (4, SV.ptr 4 0), (6, SV.ptr 6 0), (7, SV.c (.int .i64 n)), (8, SV.c (.int .i64 m)), (9, SV.c (.int .i64 i)), (10, SV.c (.int .u64 c)), (11, SV.c (.int .i64 j))] ∧ mm = [(2, Blk.row 25 33 (iA a N)), (3, Blk.row 25 33 (iA b M)), (4, Blk.row 25 33 ti25.zero), (6, Blk.row 104 64 (lA G 64))], m, ⟨_, _, ⟨0, 0, F, rfl, Nat.zero_le _, hF.row, rfl, rfl⟩, ⟨rfl, rfl, rfl, rfl, rfl, rfl, rfl, rfl, rfl, trivial⟩, ⟨rfl, rfl, rfl, rfl, trivial⟩, rfl⟩, ?_⟩
    rintro q f mm ⟨j, c, G, rfl, hj, hG, rfl, rfl⟩
    refine ⟨fun h2 => ?_, fun h2 => ?_⟩
    · have hjm : j < m := by have := of_decide_eq_true h2; omega
      have e1 : IntKind.i64.wrap ((i : Int) + j) = ((i + j : Nat) : Int) := by rw [i64_in (by omega)]; omega
      have gN : (iA a N)[1 + i]? = _ := iA_lim (show i < 32 by omega)
      have gM : (iA b M)[1 + j]? = _ := iA_lim (show j < 32 by omega)
      have gC : (lA G 64)[(IntKind.i64.wrap ((i : Int) + j)).toNat]? = some (.int .u32 (G (i + j) : Nat)) := by rw [e1]; exact lA_get G (by omega)
      have eM := mul64 (dg_lt N i) (dg_lt M j) (hG.lt (i + j)) hG.carry
      have hlt := mul_lt (dg_lt N i) (dg_lt M j) (hG.lt (i + j)) hG.carry
      refine ⟨by omega, by show (i : Int) < 32; omega, _, gN, by omega, by show (j : Int) < 32; omega, _, gM, by rw [e1]; omega, by rw [e1]; show ((i + j : Nat) : Int) < 64; omega, _, gC, by kernel_rfl, by rw [e1]; omega, by rw [e1]; show ((i + j : Nat) : Int) < 64; omega, by rw [e1]; show i + j < 64; omega, rfl, _, lA_put e1 (v := (dg N i * dg M j + G (i + j) + c) % BB) (by rw [eM, u32_wrap, BB_eq]; rfl), by decide, ?_⟩
      refine ⟨m - (j + 1), _, _, by omega, ⟨j + 1, _, _, rfl, by omega, hG.step, rfl, rfl⟩, ⟨rfl, rfl, rfl, rfl, rfl, rfl, rfl, c_int (by rw [eM]; exact shr32 _), c_int (by rw [i64_in (by omega)]; rfl), trivial⟩, ⟨rfl, rfl, rfl, rfl, trivial⟩, rfl⟩
    · have : j = m := by have := of_decide_eq_false h2; omega
      subst this
      have e1 : IntKind.i64.wrap ((i : Int) + j) = ((i + j : Nat) : Int) := by rw [i64_in (by omega)]; omega
      have hcc := hG.carry
      rw [BB_eq] at hcc
      refine ⟨by rw [e1]; omega, by rw [e1]; show ((i + j : Nat) : Int) < 64; omega, by rw [e1]; show i + j < 64; omega, rfl, _, lA_put e1 (v := c) (u32_in (by omega)), ?_⟩
      exact ⟨n - (i + 1), _, _, by omega, ⟨i + 1, _, rfl, by omega, hG.done hF hv.1, rfl, rfl⟩, ⟨rfl, rfl, rfl, rfl, rfl, rfl, c_int (by rw [i64_in (by omega)]; rfl), trivial⟩, ⟨rfl, rfl, rfl, rfl, trivial⟩, rfl⟩
  · have : i = n := by have := of_decide_eq_false h; omega
    subst this
    obtain ⟨h1, h2, h3⟩ := mul_low hF.lt (hF.full hu.1 (by omega))
    refine ⟨fun q f mm => ∃ (k : Nat) (g : Nat → Nat), q = 32 - k ∧ k ≤ 32 ∧ (∀ j, j < k → dg (N * M / BB ^ 32) j = 0 ∧ g j = dg (N * M % BB ^ 32) j) ∧ f = [(2, SV.ptr 2 0), (3, SV.ptr 3 0), (4, SV.ptr 4 0), (6, SV.ptr 6 0), (13, SV.ptr 13 0), (14, SV.c (.int .i64 k))] ∧ mm = [(2, Blk.row 25 33 (iA a N)), (3, Blk.row 25 33 (iA b M)), (4, Blk.row 25 33 ti25.zero), (6, Blk.row 104 64 (lA F 64)), (13, Blk.row 23 32 (lA g 32))], 32, ⟨_, _, ⟨0, fun _ => 0, rfl, Nat.zero_le _, fun j hj => absurd hj (by omega), rfl, rfl⟩, ⟨rfl, rfl, rfl, rfl, rfl, rfl, trivial⟩, ⟨rfl, rfl, rfl, rfl, rfl, trivial⟩, rfl⟩, ?_⟩
    rintro q f mm ⟨k, g, rfl, hk, hg, rfl, rfl⟩
    refine ⟨fun h4 => ?_, fun h4 => ?_⟩
    · have h4 : k < 32 := by have := of_decide_eq_true h4; omega
      have e1 : IntKind.i64.wrap (32 + (k : Int)) = ((32 + k : Nat) : Int) := by rw [i64_in (by omega)]; omega
      have gH : (lA F 64)[(IntKind.i64.wrap (32 + (k : Int))).toNat]? = some (.int .u32 (F (32 + k) : Nat)) := by rw [e1]; exact lA_get F (by omega)
      have gL : (lA F 64)[k]? = some (.int .u32 (F k : Nat)) := lA_get F (by omega)
      refine ⟨by rw [e1]; omega, by rw [e1]; show ((32 + k : Nat) : Int) < 64; omega, _, gH, fun h5 => ?_, fun h5 => ?_⟩
      · have h5 : F (32 + k) ≠ 0 := by intro e; rw [e] at h5; simp at h5
        rw [h2 k h4] at h5
        have : ¬ N * M < BB ^ 32 := by
          intro hl
          rw [Nat.div_eq_of_lt hl, dg_zero] at h5
          exact h5 rfl
        refine ⟨ti25.zero, rfl, eA_fits 0, ?_, trivial⟩
        rw [fitR, if_neg (by rw [eab]; exact this)]; rfl
      · have h5 : F (32 + k) = 0 := by
          have : ((F (32 + k) : Nat) : Int) = 0 := by simpa using h5
          omega
        rw [h2 k h4] at h5
        refine ⟨by omega, by show (k : Int) < 64; omega, _, gL, by omega, by show (k : Int) < 32; omega, by show k < 32; omega, rfl, _, lA_put (i := k) (x := (k : Int)) rfl rfl, ?_⟩
        refine ⟨32 - (k + 1), _, _, by omega, ⟨k + 1, _, rfl, by omega, fun j hj => ?_, rfl, rfl⟩, ⟨rfl, rfl, rfl, rfl, rfl, c_int (by rw [i64_in (by omega)]; rfl), trivial⟩, ⟨rfl, rfl, rfl, rfl, rfl, trivial⟩, rfl⟩
        by_cases e : j = k
        · subst e
          exact ⟨h5, by rw [if_pos rfl]; exact h1 j h4⟩
        · rw [if_neg e]; exact hg j (by omega)
    · have h4 : k = 32 := by have := of_decide_eq_false h4; omega
      subst h4
      have hz : N * M / BB ^ 32 = 0 := dg_ext (n := 32) h3 (pow_pos' 32) fun j hj => by rw [(hg j hj).1, dg_zero]
      have hl : N * M < BB ^ 32 := (Nat.div_eq_zero_iff_lt (pow_pos' 32)).1 hz
      have hA : lA g 32 = mA (N * M) := lA_congr fun j hj => by rw [(hg j hj).2, Nat.mod_eq_of_lt hl]
      rw [hA]
      have cc := canon_r (a != b) hl
      rw [ez] at cc
      refine ⟨_, iA_neg, _, iA_neg, .inl ⟨_, cc, eA_fits _, ?_, trivial⟩⟩
      rw [fitR, if_pos (by rw [eab]; exact hl)]; rfl
end Go.Proofs.YtnfmpddhcjkjbaaGreatDoor
