/- walks: whole numbers, second part; no condition. -/
import Derived.Test.YtnfmpddhcjkjbaaGreatDoorV3
namespace Go.Proofs.YtnfmpddhcjkjbaaGreatDoor
open Go Go.RowKit Go.SX
/-- a table of bytes gives the lengths -/
def tabOk (s : ByteArray) : Bool := (List.range 256).all fun n => match s.data[n]? with
  | some b => b.toNat == bl n
  | none => false
theorem tab_at {s : ByteArray} (h : tabOk s = true) {n : Nat} (hn : n < 256) : ∃ b, s.data[n]? = some b ∧ b.toNat = bl n := by
  have := List.all_eq_true.1 h n (by simpa using hn)
  split at this
  · rename_i b hb; exact ⟨b, hb, by simpa using this⟩
  · cases this
theorem runs_tab {E : Env} {t : TypeId} (hu : E.P.underlying t = some .string) {s : ByteArray} (hs : tabOk s = true) {k : IntKind} {e : Int} (n : Nat) (he : e = n) (hn : n < 256) : Runs E (Instr.index t (.string s) (.int k e)) (.int .u8 (bl n : Int)) := by
  obtain ⟨b, hb, h2⟩ := tab_at hs hn
  subst he
  rw [← h2]
  exact runs_index hu (by omega) hb
theorem bl_8 {n : Nat} (h : n < 256) : bl n ≤ 8 := bl_le (k := 8) h
theorem u8_wrap (x : Int) : IntKind.u8.wrap x = x % 256 := by simp [IntKind.wrap, IntKind.bits, IntKind.signed]
theorem sh_nat (y s : Nat) : ((y : Int)).fdiv (2 ^ s) = ((y / 2 ^ s : Nat) : Int) := by rw [shr_div]; simp
set_option smartUnfolding false in
set_option maxRecDepth 100000 in
theorem len32_pure (x : Nat) (hx : x < BB) : Pure Tryz.prog 130 [SV.c (.int .u32 x)] (.int .i64 (bl x)) := by
  rw [BB_eq] at hx
  refine sx_pure tt_ok mixed at130 _ _ rfl rfl fun w => ?_
  have e16 : ((x : Int)).fdiv (2 ^ min (Int.toNat 16) IntKind.u32.bits) = ((x / 65536 : Nat) : Int) := sh_nat x 16
  have e8 : ∀ y : Nat, ((y : Int)).fdiv (2 ^ min (Int.toNat 8) IntKind.u32.bits) = ((y / 256 : Nat) : Int) := fun y => sh_nat y 8
  refine ⟨fun h => ⟨by decide, fun h2 => ?_, fun h2 => ?_⟩, fun h => ⟨fun h2 => ?_, fun h2 => ?_⟩⟩
  · have h1 : 65536 ≤ x := by have := of_decide_eq_true h; omega
    have h3 : 256 ≤ x / 65536 := by rw [e16] at h2; have := of_decide_eq_true h2; omega
    have hb := bl_8 (n := x / 65536 / 256) (by omega)
    refine ⟨by decide, _, runs_tab Tryz.underlying9 (by kernel_rfl) (x / 65536 / 256) (by rw [e16, e8, u8_wrap]; omega) (by omega), iv ?_, trivial⟩
    rw [bl_shift (s := 16) h1, bl_shift (s := 8) h3]
    simp only [i64_in (x := ((16 : Int) + 8)) (by omega), i64_in (x := (bl (x / 65536 / 256) : Int)) (by omega)]
    rw [i64_in (by omega)]
    show _ = ((16 + (8 + bl (x / 65536 / 256)) : Nat) : Int)
    omega
  · have h1 : 65536 ≤ x := by have := of_decide_eq_true h; omega
    have h3 : x / 65536 < 256 := by rw [e16] at h2; have := of_decide_eq_false h2; omega
    have hb := bl_8 h3
    refine ⟨_, runs_tab Tryz.underlying9 (by kernel_rfl) (x / 65536) (by rw [e16, u8_wrap]; omega) (by omega), iv ?_, trivial⟩
    rw [bl_shift (s := 16) h1]
    simp only [i64_in (x := (bl (x / 65536) : Int)) (by omega)]
    rw [i64_in (by omega)]
    show _ = ((16 + bl (x / 65536) : Nat) : Int)
    omega
  · have h1 : x < 65536 := by have := of_decide_eq_false h; omega
    have h3 : 256 ≤ x := by have := of_decide_eq_true h2; omega
    have hb := bl_8 (n := x / 256) (by omega)
    refine ⟨by decide, _, runs_tab Tryz.underlying9 (by kernel_rfl) (x / 256) (by rw [e8, u8_wrap]; omega) (by omega), iv ?_, trivial⟩
    rw [bl_shift (s := 8) h3]
    simp only [i64_in (x := ((0 : Int) + 8)) (by omega), i64_in (x := (bl (x / 256) : Int)) (by omega)]
    rw [i64_in (by omega)]
    show _ = ((8 + bl (x / 256) : Nat) : Int)
    omega
  · have h1 : x < 256 := by have := of_decide_eq_false h2; omega
    have hb := bl_8 h1
    refine ⟨_, runs_tab Tryz.underlying9 (by kernel_rfl) x (by rw [u8_wrap]; omega) (by omega), iv ?_, trivial⟩
    simp only [i64_in (x := (bl x : Int)) (by omega)]
    rw [i64_in (by omega)]
    omega
theorem bl_limbs {N n : Nat} (hu : IsUsed N n) (h0 : 0 < n) : bl N = 32 * (n - 1) + bl (dg N (n - 1)) ∧ 0 < bl (dg N (n - 1)) := by
  have hd : dg N (n - 1) ≠ 0 := by
    intro h
    have := lt_of_top (i := n - 1) (by rw [show n - 1 + 1 = n by omega]; exact hu.1) h
    have := hu.2 h0
    omega
  have hk : 0 < bl (dg N (n - 1)) := by unfold bl; rw [if_neg hd]; omega
  exact ⟨bl_of (isBits_top (by rw [show n - 1 + 1 = n by omega]; exact hu.1) hk (bl_bits _)), hk⟩
set_option smartUnfolding false in
set_option maxRecDepth 100000 in
theorem bits_own {N : Nat} (hN : N < BB ^ 32) (E : Env) (hE : E.P = Tryz.prog) (d : Key) : Own E 91 [SV.ptr d 0] [(d, Blk.row 121 32 (mA N))] (SV.c (.int .i64 (bl N))) [(d, Blk.row 121 32 (mA N))] := by
  obtain ⟨n, hn, hu⟩ := used_ex hN
  refine sx_own1 tt_ok mixed at91 E hE d (121, 32, mA N, mA N) [SV.ptr 1000 0] _ rfl rfl fun w b hO => ?_
  refine .inr ⟨_, _, _, used_own hu hN _ rfl _, ⟨rfl, trivial⟩, rfl, fun h => ?_, fun h => ?_⟩
  · have h0 : n = 0 := by have : (n : Int) = 0 := by simpa using h
                          omega
    subst h0
    have : N = 0 := by have := hu.1; simp at this; omega
    subst this
    exact ⟨rfl, rfl, trivial⟩
  · have h0 : 0 < n := by
      rcases Nat.eq_zero_or_pos n with e | e
      · subst e; simp at h
      · exact e
    have e1 : IntKind.i64.wrap ((n : Int) - 1) = ((n - 1 : Nat) : Int) := by rw [i64_in (by omega)]; omega
    have hg : (mA N)[(IntKind.i64.wrap ((n : Int) - 1)).toNat]? = some (.int .u32 ((dg N (n - 1) : Nat) : Int)) := by rw [e1]; exact mA_get (by omega)
    obtain ⟨hb, hb0⟩ := bl_limbs hu h0
    have hb2 : bl (dg N (n - 1)) ≤ 32 := bl_le (dg_lt _ _)
    refine ⟨by rw [e1]; omega, by rw [e1]; show ((n - 1 : Nat) : Int) < 32; omega, _, hg, .inl ⟨_, len32_pure _ (dg_lt _ _), iv ?_, rfl, trivial⟩⟩
    rw [e1, hb, i64_in (x := (32 : Int) * ((n - 1 : Nat) : Int)) (by omega), i64_in (by omega)]
    omega
set_option smartUnfolding false in
set_option maxRecDepth 100000 in
theorem bitsI_z {A : Array Value} {z : Int} (h : IsI A z) : Pure Tryz.prog 152 [SV.c (.agg A)] (.int .i64 (bl z.natAbs)) := by
  refine sx_pure tt_ok mixed at152 _ _ rfl rfl fun w => ?_
  exact ⟨h.size, .inl ⟨_, split_z h, mA_fits _, .inr ⟨_, _, _, bits_own h.lt _ rfl _, ⟨rfl, trivial⟩, rfl, rfl, trivial⟩⟩⟩
end Go.Proofs.YtnfmpddhcjkjbaaGreatDoor
