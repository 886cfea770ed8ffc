/- walks: whole numbers, first part; no condition. -/
import Derived.Test.YtnfmpddhcjkjbaaGreatDoorV2
namespace Go.Proofs.YtnfmpddhcjkjbaaGreatDoor
open Go Go.RowKit Go.SX
/-- the number that a sign and a magnitude denote -/
def zN (neg : Bool) (N : Nat) : Int := if neg then -(N : Int) else N
theorem zN_abs (neg : Bool) (N : Nat) : (zN neg N).natAbs = N := by cases neg <;> simp [zN]
theorem zN_neg (neg : Bool) (N : Nat) : (neg && !decide (N = 0)) = decide (zN neg N < 0) := by
  cases neg
  · simp [zN]
  · rw [Bool.eq_iff_iff]; simp [zN]; omega
/-- the cells of a number -/
def eA (z : Int) : Array Value := iA (decide (z < 0)) z.natAbs
/-- the cells A denote z -/
structure IsI (A : Array Value) (z : Int) : Prop where
  ex : ∃ neg N, N < BB ^ 32 ∧ A = iA neg N ∧ z = zN neg N
theorem IsI.size {A : Array Value} {z : Int} (h : IsI A z) : A.size = 33 := by
  obtain ⟨neg, N, -, rfl, -⟩ := h.ex; exact iA_size _ _
theorem IsI.fits {A : Array Value} {z : Int} (h : IsI A z) : Fits A 33 := by
  obtain ⟨neg, N, -, rfl, -⟩ := h.ex; exact iA_fits _ _
theorem IsI.lt {A : Array Value} {z : Int} (h : IsI A z) : z.natAbs < BB ^ 32 := by
  obtain ⟨neg, N, hN, -, rfl⟩ := h.ex; rw [zN_abs]; exact hN
theorem isI_e {z : Int} (h : z.natAbs < BB ^ 32) : IsI (eA z) z := ⟨_, _, h, rfl, by
  unfold zN
  by_cases e : z < 0
  · rw [if_pos (by simpa using e)]; omega
  · rw [if_neg (by simpa using e)]; omega⟩
theorem eA_fits (z : Int) : Fits (eA z) 33 := iA_fits _ _
theorem eA_size (z : Int) : (eA z).size = 33 := iA_size _ _
theorem split_z {A : Array Value} {z : Int} (h : IsI A z) : Pure Tryz.prog 90 [SV.c (.agg A)] (.tuple #[.bool (decide (z < 0)), .agg (mA z.natAbs)]) := by
  obtain ⟨neg, N, hN, rfl, rfl⟩ := h.ex
  have := split_pure neg N hN
  rw [zN_neg] at this
  rw [zN_abs]; exact this
theorem made_z (neg : Bool) (N : Nat) (hN : N < BB ^ 32) : Pure Tryz.prog 120 [SV.c (.bool neg), SV.c (.agg (mA N))] (.agg (eA (zN neg N))) := by
  have := made_pure neg N hN
  rw [zN_neg] at this
  unfold eA; rw [zN_abs]; exact this
theorem natAbs_zero {z : Int} : decide (z.natAbs = 0) = decide (z = 0) := by rw [Bool.eq_iff_iff]; simp
/-- the sign -/
def sgn (z : Int) : Int := if z < 0 then -1 else if z = 0 then 0 else 1
set_option smartUnfolding false in
set_option maxRecDepth 100000 in
theorem sign_z {A : Array Value} {z : Int} (h : IsI A z) : Pure Tryz.prog 119 [SV.c (.agg A)] (.int .i64 (sgn z)) := by
  refine sx_pure tt_ok mixed at119 _ _ rfl rfl fun w => ?_
  refine ⟨h.size, .inl ⟨_, split_z h, mA_fits _, fun h1 => ?_, fun h1 => ?_⟩⟩
  · have := of_decide_eq_true h1
    exact ⟨iv (by simp only [sgn, if_pos this]), trivial⟩
  · have h1 := of_decide_eq_false h1
    refine ⟨mA 0, some_eq mA_zero, _, eql_mag rfl h.lt zero_lt, fun h2 => ?_, fun h2 => ?_⟩
    · rw [natAbs_zero] at h2
      have := of_decide_eq_true h2
      exact ⟨iv (by simp only [sgn, if_neg h1, if_pos this]), trivial⟩
    · rw [natAbs_zero] at h2
      have := of_decide_eq_false h2
      exact ⟨iv (by simp only [sgn, if_neg h1, if_neg this]), trivial⟩
set_option smartUnfolding false in
set_option maxRecDepth 100000 in
theorem neg_z {A : Array Value} {z : Int} (h : IsI A z) : Pure Tryz.prog 126 [SV.c (.agg A)] (.agg (eA (-z))) := by
  refine sx_pure tt_ok mixed at126 _ _ rfl rfl fun w => ?_
  have e : zN (!decide (z < 0)) z.natAbs = -z := by
    unfold zN
    by_cases hz : z < 0
    · simp [hz]; omega
    · simp [hz]; omega
  exact ⟨h.size, .inl ⟨_, split_z h, mA_fits _, .inl ⟨_, made_z _ _ h.lt, by rw [e]; exact eA_fits _, by rw [e]; rfl, trivial⟩⟩⟩
/-- how two numbers compare -/
def cmpI (x y : Int) : Int := if x < y then -1 else if y < x then 1 else 0
theorem sgn_bd (z : Int) : -1 ≤ sgn z ∧ sgn z ≤ 1 := by unfold sgn; split <;> (try split) <;> omega
theorem cmpI_ne {x y : Int} (h : sgn x ≠ sgn y) : cmpI x y = if sgn x < sgn y then -1 else 1 := by
  unfold cmpI; unfold sgn at *
  repeat' split
  all_goals first | omega | (exfalso; apply h; repeat' split
                             all_goals omega)
theorem cmpI_eq {x y : Int} (h : sgn x = sgn y) : cmpI x y = sgn x * cmpS x.natAbs y.natAbs := by
  unfold cmpI cmpS; unfold sgn at *
  (repeat' split at h) <;> (repeat' split) <;> omega
theorem cmpS_bd (a b : Nat) : cmpS a b = -1 ∨ cmpS a b = 0 ∨ cmpS a b = 1 := by unfold cmpS; split <;> (try split) <;> simp
set_option smartUnfolding false in
set_option maxRecDepth 100000 in
theorem cmp_z {A B : Array Value} {x y : Int} (hA : IsI A x) (hB : IsI B y) : Pure Tryz.prog 135 [SV.c (.agg A), SV.c (.agg B)] (.int .i64 (cmpI x y)) := by
  refine sx_pure tt_ok mixed at135 _ _ rfl rfl fun w => ?_
  refine ⟨hA.size, hB.size, .inl ⟨_, sign_z hA, .inl ⟨_, sign_z hB, by kernel_rfl, fun h => ⟨fun h2 => ?_, fun h2 => ?_⟩, fun h => .inl ⟨_, split_z hA, mA_fits _, .inl ⟨_, split_z hB, mA_fits _, .inr ⟨_, _, _, compare_own hA.lt hB.lt _ rfl _ _ (by decide), ⟨rfl, rfl, trivial⟩, rfl, ?_⟩⟩⟩⟩⟩⟩
  · have hne : sgn x ≠ sgn y := by simpa using h
    exact ⟨iv (by rw [cmpI_ne hne, if_pos (of_decide_eq_true h2)]), trivial⟩
  · have hne : sgn x ≠ sgn y := by simpa using h
    exact ⟨iv (by rw [cmpI_ne hne, if_neg (of_decide_eq_false h2)]), trivial⟩
  · have he : sgn x = sgn y := by simpa using h
    refine ⟨iv ?_, trivial⟩
    rw [cmpI_eq he]
    have := sgn_bd x
    rcases cmpS_bd x.natAbs y.natAbs with h1 | h1 | h1 <;> rw [h1] <;> exact i64_in (by omega)
/-- the number of bits -/
def bl (n : Nat) : Nat := if n = 0 then 0 else n.log2 + 1
theorem bl_bits (n : Nat) : IsBits n (bl n) := by
  unfold bl
  by_cases h : n = 0
  · rw [if_pos h, h]; exact isBits_zero
  · rw [if_neg h]; exact ⟨Nat.lt_log2_self, fun _ => by simpa using Nat.log2_self_le h⟩
theorem bl_of {n k : Nat} (h : IsBits n k) : bl n = k := IsBits.unique (bl_bits n) h
theorem bl_shift {n s : Nat} (h : 2 ^ s ≤ n) : bl n = s + bl (n / 2 ^ s) := by
  obtain ⟨h1, h2⟩ := bl_bits (n / 2 ^ s)
  have hp : 0 < 2 ^ s := Nat.pow_pos (by omega)
  have hq : 0 < n / 2 ^ s := Nat.div_pos h hp
  generalize hk : bl (n / 2 ^ s) = k at *
  have hk0 : 0 < k := by
    rcases Nat.eq_zero_or_pos k with e | e
    · rw [e] at h1; simp at h1; omega
    · exact e
  refine bl_of ⟨?_, fun _ => ?_⟩
  · rw [Nat.pow_add, Nat.mul_comm]; exact (Nat.div_lt_iff_lt_mul hp).1 h1
  · rw [show s + k - 1 = s + (k - 1) by omega, Nat.pow_add, Nat.mul_comm]; exact (Nat.le_div_iff_mul_le hp).1 (h2 hk0)
theorem bl_le {n k : Nat} (h : n < 2 ^ k) : bl n ≤ k := by
  obtain ⟨h1, h2⟩ := bl_bits n
  rcases Nat.lt_or_ge k (bl n) with hlt | hge
  · have := h2 (by omega)
    have h3 : 2 ^ k ≤ 2 ^ (bl n - 1) := Nat.pow_le_pow_right (by omega) (by omega)
    omega
  · exact hge
theorem runs_index {E : Env} {t : TypeId} (hu : E.P.underlying t = some .string) {s : ByteArray} {k : IntKind} {n : Int} {b : UInt8} (h0 : 0 ≤ n) (hb : s.data[n.toNat]? = some b) : Runs E (Instr.index t (.string s) (.int k n)) (.int .u8 (b.toNat : Int)) := fun w _ => by
  have hs : s[n.toNat]? = some b := by
    have hlt := (Array.getElem?_eq_some_iff.1 hb).1
    obtain ⟨_, hv⟩ := Array.getElem?_eq_some_iff.1 hb
    rw [getElem?_pos s n.toNat hlt]
    exact congrArg some hv
  simp only [Instr.index, asIntOf, Sem.run_bind, Sem.run_pure, Result.andThen_ok, run_underlying hu, if_pos h0, hs]
end Go.Proofs.YtnfmpddhcjkjbaaGreatDoor
