/- walks: the reference, shifts; no condition. -/
import Derived.Test.YtnfmpddhcjkjbaaGreatDoorV22
namespace Go.Proofs.YtnfmpddhcjkjbaaGreatDoor
open Go Go.RowKit Go.SX
theorem dg_mod_pow {T j : Nat} (h : j < 32) : dg (T % BB ^ 32) j = dg T j := by
  rw [← nv_dg]; exact dg_nv (fun j _ => dg_lt T j) h
theorem dbl_top {N b : Nat} (hN : N < BB ^ 32) (hb : b ≤ 1) : ((dg N 31 / 2147483648 : Nat) : Int) = 1 ↔ ¬ 2 * N + b < BB ^ 32 := by
  have h := dg_double N b 32 hb
  rw [dg_of_lt hN (Nat.le_refl 32), if_neg (by omega)] at h
  simp only [Nat.zero_mul, Nat.zero_mod, Nat.zero_or] at h
  rw [show 32 - 1 = 31 from rfl] at h
  rw [← h]
  unfold dg
  have hP := pow_pos' 32
  have hlt : (2 * N + b) / BB ^ 32 < 2 := by
    rw [Nat.div_lt_iff_lt_mul hP]; omega
  have hlt2 : (2 * N + b) / BB ^ 32 < BB := Nat.lt_trans hlt (by decide)
  rw [Nat.mod_eq_of_lt hlt2]
  constructor
  · intro h1 h2
    rw [Nat.div_eq_of_lt h2] at h1; simp at h1
  · intro h1
    have : 1 ≤ (2 * N + b) / BB ^ 32 := (Nat.le_div_iff_mul_le hP).2 (by omega)
    omega
set_option smartUnfolding false in
set_option maxRecDepth 100000 in
set_option maxHeartbeats 1000000 in
theorem double_r {N b : Nat} (hN : N < BB ^ 32) (hb : b ≤ 1) : Pure Tryz.prog 111 [SV.c (.agg (mA N)), SV.c (.int .u32 (b : Nat))] (.tuple #[.agg (mA ((2 * N + b) % BB ^ 32)), .bool (!decide (2 * N + b < BB ^ 32))]) := by
  refine sx_pure tt_ok mixed at111 _ _ rfl rfl fun w => ?_
  refine ⟨mA_size _, fun q f m => ∃ (k : Nat) (g : Nat → Nat), q = 32 - k ∧ k ≤ 32 ∧ (∀ j, j < 32 → g j = if j < k then dg (2 * N + b) j else dg N j) ∧ f = [(1, SV.c (.int .u32 (if k = 0 then b else dg N (k - 1) / 2147483648 : Nat))), (2, SV.ptr 2 0), (4, SV.ptr 4 0), (6, SV.c (.int .i64 k))] ∧ m = [(2, Blk.row 23 32 (lA g 32)), (4, Blk.row 23 32 (lA (fun _ => 0) 32))], 32, ⟨_, _, ⟨0, dg N, rfl, Nat.zero_le _, fun j hj => by rw [if_neg (by omega)], rfl, rfl⟩, ⟨rfl, rfl, rfl, rfl, trivial⟩, ⟨rfl, rfl, trivial⟩, rfl⟩, ?_⟩
  rintro q f m ⟨k, g, rfl, hk, hg, rfl, rfl⟩
  refine ⟨fun h => ?_, fun h => ?_⟩
  · have h1 : k < 32 := by have := of_decide_eq_true h; omega
    have hx := dg_lt N k
    have gk : g k = dg N k := by rw [hg k h1, if_neg (by omega)]
    have gx : (lA g 32)[k]? = some (.int .u32 (dg N k : Nat)) := by rw [lA_get g h1, gk]
    rw [BB_eq] at hx
    have hbit : (if k = 0 then b else dg N (k - 1) / 2147483648) < 4294967296 := by
      split
      · omega
      · have := dg_lt N (k - 1); rw [BB_eq] at this; omega
    have es : IntKind.u32.wrap ((dg N k : Nat) * 2 ^ min (Int.toNat 1) IntKind.u32.bits) = ((dg N k * 2 % 4294967296 : Nat) : Int) := by
      rw [u32_wrap]; show ((dg N k : Nat) : Int) * 2 % 4294967296 = _; omega
    have ev := or32 (A := dg N k * 2 % 4294967296) (B := if k = 0 then b else dg N (k - 1) / 2147483648) (Nat.mod_lt _ (by omega)) hbit
    rw [← es] at ev
    refine ⟨by omega, by show (k : Int) < 32; omega, _, gx, by decide, by omega, by show (k : Int) < 32; omega, _, gx, by decide, by omega, by show (k : Int) < 32; omega, by show k < 32; omega, rfl, _, lA_put (i := k) (x := (k : Int)) rfl ev, by kernel_rfl, ?_⟩
    refine ⟨32 - (k + 1), _, _, by omega, ⟨k + 1, _, rfl, by omega, fun j hj => ?_, rfl, rfl⟩, ⟨c_int (by rw [if_neg (by omega), show k + 1 - 1 = k by omega]; exact sh_nat _ 31), rfl, rfl, c_int (by rw [i64_in (by omega)]; rfl), trivial⟩, ⟨rfl, rfl, trivial⟩, rfl⟩
    by_cases e : j = k
    · subst e
      rw [if_pos rfl, if_pos (show j < j + 1 by omega), dg_double N b j hb]
    · rw [if_neg e, hg j hj]
      by_cases e2 : j < k
      · rw [if_pos e2, if_pos (by omega)]
      · rw [if_neg e2, if_neg (by omega)]
  · have h1 : k = 32 := by have := of_decide_eq_false h; omega
    subst h1
    have hA : lA g 32 = mA ((2 * N + b) % BB ^ 32) := lA_congr fun j hj => by
      rw [hg j hj, if_pos hj]
      exact (dg_mod_pow hj).symm
    refine ⟨lA_fits _ _, tup2 (by rw [hA]) (bv ?_), trivial⟩
    rw [Bool.eq_iff_iff]
    simp only [if_neg (show ¬ 32 = 0 by omega), show 32 - 1 = 31 from rfl, beq_iff_eq, Bool.not_eq_true', decide_eq_false_iff_not]
    exact dbl_top hN hb
theorem tmod_nat (a b : Nat) : Int.tmod (a : Int) (b : Int) = ((a % b : Nat) : Int) := (Int.ofNat_tmod a b).symm
theorem tdiv_nat (a b : Nat) : Int.tdiv (a : Int) (b : Int) = ((a / b : Nat) : Int) := (Int.ofNat_tdiv a b).symm
set_option smartUnfolding false in
set_option maxRecDepth 100000 in
set_option maxHeartbeats 1000000 in
theorem shifted_r {N n : Nat} (hN : N < BB ^ 32) (hn : n ≤ 1024) : Pure Tryz.prog 110 [SV.c (.agg (mA N)), SV.c (.int .i64 (n : Nat))] (.agg (mA (N / 2 ^ n))) := by
  refine sx_pure tt_ok mixed at110 _ _ rfl rfl fun w => ?_
  obtain ⟨k, s, hs, rfl⟩ : ∃ k s, s < 32 ∧ n = 32 * k + s := ⟨n / 32, n % 32, Nat.mod_lt _ (by omega), by omega⟩
  have ek : IntKind.i64.wrap (Int.tdiv ((32 * k + s : Nat) : Int) 32) = (k : Nat) := by
    have := tdiv_nat (32 * k + s) 32
    rw [show ((32 : Nat) : Int) = 32 from rfl] at this
    rw [this, show (32 * k + s) / 32 = k by omega, i64_in (by omega)]
  have es : IntKind.u64.wrap (Int.tmod ((32 * k + s : Nat) : Int) 32) = (s : Nat) := by
    have := tmod_nat (32 * k + s) 32
    rw [show ((32 : Nat) : Int) = 32 from rfl] at this
    rw [this, show (32 * k + s) % 32 = s by omega, u64_in (by omega)]
  refine ⟨mA_size _, by decide, by decide, fun q f m => ∃ (i : Nat) (g : Nat → Nat), q = 32 - (i + k) ∧ i + k ≤ 32 ∧ (∀ j, j < 32 → g j = if j < i then dg (N / 2 ^ (32 * k + s)) j else 0) ∧ f = [(2, SV.ptr 2 0), (4, SV.ptr 4 0), (5, SV.ptr 5 0), (6, SV.c (.int .i64 k)), (7, SV.c (.int .u64 s)), (8, SV.c (.int .i64 i))] ∧ m = [(2, Blk.row 23 32 (mA N)), (4, Blk.row 23 32 (lA (fun _ => 0) 32)), (5, Blk.row 23 32 (lA g 32))], 32 - (0 + k), ⟨_, _, ⟨0, fun _ => 0, rfl, by omega, fun j hj => by rw [if_neg (by omega)], rfl, rfl⟩, ⟨rfl, rfl, rfl, c_int ek, c_int es, rfl, trivial⟩, ⟨rfl, rfl, rfl, trivial⟩, rfl⟩, ?_⟩
  rintro q f m ⟨i, g, rfl, hi, hg, rfl, rfl⟩
  have e1 : IntKind.i64.wrap ((i : Int) + k) = ((i + k : Nat) : Int) := by rw [i64_in (by omega)]; omega
  refine ⟨fun h => ?_, fun h => ?_⟩
  · have h1 : i + k < 32 := by have := of_decide_eq_true h; rw [e1] at this; omega
    have gx : (mA N)[(IntKind.i64.wrap ((i : Int) + k)).toNat]? = some (.int .u32 (dg N (i + k) : Nat)) := by rw [e1]; exact mA_get h1
    have hsh := dg_shr N k s i hs
    have hx := dg_lt N (i + k)
    have hy := dg_lt N (i + k + 1)
    rw [BB_eq] at hx hy
    have esh : ((dg N (i + k) : Nat) : Int).fdiv (2 ^ min (Int.toNat (s : Int)) IntKind.u32.bits) = ((dg N (i + k) / 2 ^ s : Nat) : Int) := shr_nat _ s (by omega) rfl
    have e2 : IntKind.i64.wrap (IntKind.i64.wrap ((i : Int) + k) + 1) = ((i + k + 1 : Nat) : Int) := by rw [e1, i64_in (by omega)]; omega
    refine ⟨by rw [e1]; omega, by rw [e1]; show ((i + k : Nat) : Int) < 32; omega, _, gx, by omega, by omega, by show (i : Int) < 32; omega, by show i < 32; omega, rfl, _, lA_put (i := i) (x := (i : Int)) rfl esh, fun h2 => ⟨fun h3 => ?_, fun h3 => ?_⟩, fun h2 => ⟨nofun, fun _ => ?_⟩⟩
    · have h2 : 0 < s := by have := of_decide_eq_true h2; omega
      have h3 : i + k + 1 < 32 := by have := of_decide_eq_true h3; rw [e2] at this; omega
      have gz : (mA N)[(IntKind.i64.wrap (IntKind.i64.wrap ((i : Int) + k) + 1)).toNat]? = some (.int .u32 (dg N (i + k + 1) : Nat)) := by rw [e2]; exact mA_get h3
      have ge : (lA (fun x => if x = i then dg N (i + k) / 2 ^ s else g x) 32)[i]? = some (.int .u32 (dg N (i + k) / 2 ^ s : Nat)) := by rw [lA_get _ (by omega), if_pos rfl]
      have e5 : IntKind.u64.wrap (32 - (s : Int)) = ((32 - s : Nat) : Int) := by rw [u64_in (by omega)]; omega
      have e6 : IntKind.u32.wrap (((dg N (i + k + 1) : Nat) : Int) * 2 ^ min (Int.toNat (IntKind.u64.wrap (32 - (s : Int)))) IntKind.u32.bits) = ((dg N (i + k + 1) * 2 ^ (32 - s) % 4294967296 : Nat) : Int) := by
        rw [e5]; exact shl_nat _ (32 - s) (by omega)
      have hd1 : dg N (i + k) / 2 ^ s < 4294967296 := Nat.lt_of_le_of_lt (Nat.div_le_self _ _) hx
      have ev := or32 (A := dg N (i + k) / 2 ^ s) (B := dg N (i + k + 1) * 2 ^ (32 - s) % 4294967296) hd1 (Nat.mod_lt _ (by omega))
      rw [← e6] at ev
      refine ⟨by omega, by show (i : Int) < 32; omega, _, ge, by rw [e2]; omega, by rw [e2]; show ((i + k + 1 : Nat) : Int) < 32; omega, _, gz, by rw [e5]; omega, by omega, by show (i : Int) < 32; omega, by show i < 32; omega, rfl, _, lA_put (i := i) (x := (i : Int)) rfl ev, by kernel_rfl, ?_⟩
      refine ⟨32 - (i + 1 + k), _, _, by omega, ⟨i + 1, _, rfl, by omega, fun j hj => ?_, rfl, rfl⟩, ⟨rfl, rfl, rfl, rfl, rfl, c_int (by rw [i64_in (by omega)]; rfl), trivial⟩, ⟨rfl, rfl, rfl, trivial⟩, rfl⟩
      by_cases e : j = i
      · subst e
        rw [if_pos rfl, if_pos (show j < j + 1 by omega), hsh, if_pos h2]
      · rw [if_neg e, if_neg e, hg j hj]
        by_cases e2 : j < i
        · rw [if_pos e2, if_pos (show j < i + 1 by omega)]
        · rw [if_neg e2, if_neg (show ¬ j < i + 1 by omega)]
    · have h2 : 0 < s := by have := of_decide_eq_true h2; omega
      have h3 : ¬ i + k + 1 < 32 := by have := of_decide_eq_false h3; rw [e2] at this; omega
      refine ⟨32 - (i + 1 + k), _, _, by omega, ⟨i + 1, _, rfl, by omega, fun j hj => ?_, rfl, rfl⟩, ⟨rfl, rfl, rfl, rfl, rfl, c_int (by rw [i64_in (by omega)]; rfl), trivial⟩, ⟨rfl, rfl, rfl, trivial⟩, rfl⟩
      by_cases e : j = i
      · subst e
        rw [if_pos rfl, if_pos (show j < j + 1 by omega), hsh, if_pos h2, dg_of_lt hN (show 32 ≤ j + k + 1 by omega)]; simp
      · rw [if_neg e, hg j hj]
        by_cases e2 : j < i
        · rw [if_pos e2, if_pos (show j < i + 1 by omega)]
        · rw [if_neg e2, if_neg (show ¬ j < i + 1 by omega)]
    · have h2 : s = 0 := by have := of_decide_eq_false h2; omega
      refine ⟨32 - (i + 1 + k), _, _, by omega, ⟨i + 1, _, rfl, by omega, fun j hj => ?_, rfl, rfl⟩, ⟨rfl, rfl, rfl, rfl, rfl, c_int (by rw [i64_in (by omega)]; rfl), trivial⟩, ⟨rfl, rfl, rfl, trivial⟩, rfl⟩
      by_cases e : j = i
      · subst e
        rw [if_pos rfl, if_pos (show j < j + 1 by omega), hsh, if_neg (show ¬ 0 < s by omega)]; simp
      · rw [if_neg e, hg j hj]
        by_cases e2 : j < i
        · rw [if_pos e2, if_pos (show j < i + 1 by omega)]
        · rw [if_neg e2, if_neg (show ¬ j < i + 1 by omega)]
  · have h1 : ¬ i + k < 32 := by have := of_decide_eq_false h; rw [e1] at this; omega
    have hA : lA g 32 = mA (N / 2 ^ (32 * k + s)) := lA_congr fun j hj => by
      rw [hg j hj]
      by_cases e : j < i
      · rw [if_pos e]
      · rw [if_neg e, dg_shr N k s j hs, dg_of_lt hN (show 32 ≤ j + k by omega), dg_of_lt hN (show 32 ≤ j + k + 1 by omega)]
        simp
    exact ⟨lA_fits _ _, by rw [hA]; rfl, trivial⟩
end Go.Proofs.YtnfmpddhcjkjbaaGreatDoor
