/- Plain: shifts, short and long division on limbs; no condition. -/
import Derived.Test.YtnfmpddhcjkjbaaGreatDoorMulP
namespace Go.Proofs.YtnfmpddhcjkjbaaGreatDoor

/-! ### bits of limbs -/
theorem dg_bit (N i j : Nat) : (dg N i).testBit j = (decide (j < 32) && N.testBit (32 * i + j)) := by
  unfold dg
  rw [BB_pow, show BB = 2 ^ 32 from rfl, Nat.testBit_mod_two_pow, Nat.testBit_div_two_pow, Nat.add_comm]
theorem lt32_bit {x j : Nat} (h : x < 4294967296) (hj : 32 ≤ j) : x.testBit j = false := Nat.testBit_lt_two_pow (Nat.lt_of_lt_of_le h (by rw [show 4294967296 = 2 ^ 32 from rfl]; exact Nat.pow_le_pow_right (by omega) hj))
/-- a limb of a number that is shifted to the left -/
theorem dg_shl (N s i : Nat) (hs : s < 32) : dg (N * 2 ^ s) i = (dg N i * 2 ^ s) % 4294967296 ||| (if 0 < i ∧ 0 < s then dg N (i - 1) / 2 ^ (32 - s) else 0) := by
  apply Nat.eq_of_testBit_eq
  intro j
  rw [dg_bit, Nat.testBit_or, show 4294967296 = 2 ^ 32 from rfl, Nat.testBit_mod_two_pow, Nat.testBit_mul_two_pow, Nat.testBit_mul_two_pow, dg_bit]
  by_cases hj : j < 32
  · by_cases hi : 0 < i
    · by_cases h0 : 0 < s
      · rw [if_pos ⟨hi, h0⟩, Nat.testBit_div_two_pow, dg_bit]
        by_cases hjs : s ≤ j
        · have e1 : s ≤ 32 * i + j := by omega
          have e2 : ¬ (j + (32 - s) < 32) := by omega
          have e3 : 32 * i + j - s = 32 * i + (j - s) := by omega
          simp [hj, hjs, e1, e2, e3, show j - s < 32 by omega]
        · have e1 : s ≤ 32 * i + j := by omega
          have e2 : j + (32 - s) < 32 := by omega
          have e3 : 32 * i + j - s = 32 * (i - 1) + (j + (32 - s)) := by omega
          simp [hj, hjs, e1, e2, e3]
      · have h0 : s = 0 := by omega
        subst h0
        simp [hj]
    · have hi : i = 0 := by omega
      subst hi
      by_cases hjs : s ≤ j
      · simp [hj, hjs, show j - s < 32 by omega]
      · simp [hjs]
  · rw [show (if 0 < i ∧ 0 < s then dg N (i - 1) / 2 ^ (32 - s) else 0).testBit j = false from by
      refine lt32_bit ?_ (by omega)
      split
      · exact Nat.lt_of_le_of_lt (Nat.div_le_self _ _) (dg_lt _ _)
      · omega]
    simp [hj]
/-- a limb of a number that is shifted to the right -/
theorem dg_shr (N k s i : Nat) (hs : s < 32) : dg (N / 2 ^ (32 * k + s)) i = dg N (i + k) / 2 ^ s ||| (if 0 < s then (dg N (i + k + 1) * 2 ^ (32 - s)) % 4294967296 else 0) := by
  apply Nat.eq_of_testBit_eq
  intro j
  rw [dg_bit, Nat.testBit_or, Nat.testBit_div_two_pow, Nat.testBit_div_two_pow, dg_bit]
  by_cases h0 : 0 < s
  · rw [if_pos h0, show 4294967296 = 2 ^ 32 from rfl, Nat.testBit_mod_two_pow, Nat.testBit_mul_two_pow, dg_bit]
    by_cases hj : j < 32
    · by_cases hjs : j + s < 32
      · have e2 : ¬ (32 - s ≤ j) := by omega
        have e3 : 32 * i + j + (32 * k + s) = 32 * (i + k) + (j + s) := by omega
        simp [hj, hjs, e2, e3]
      · have e2 : 32 - s ≤ j := by omega
        have e3 : 32 * i + j + (32 * k + s) = 32 * (i + k + 1) + (j - (32 - s)) := by omega
        simp [hj, hjs, e2, e3, show j - (32 - s) < 32 by omega]
    · simp [hj, show ¬ (j + s < 32) by omega]
  · have h0 : s = 0 := by omega
    subst h0
    simp [show 32 * i + j + 32 * k = 32 * (i + k) + j by omega]
/-- twice a number and a bit -/
theorem dg_double (N b i : Nat) (hb : b ≤ 1) : dg (2 * N + b) i = (dg N i * 2) % 4294967296 ||| (if i = 0 then b else dg N (i - 1) / 2147483648) := by
  have e1 : dg (2 * N + b) i = dg (2 * N) i ||| (if i = 0 then b else 0) := by
    apply Nat.eq_of_testBit_eq
    intro j
    have e : 2 * N + b = 2 ^ 1 * N ||| b := (Nat.two_pow_add_eq_or_of_lt (show b < 2 ^ 1 by omega) _)
    rw [dg_bit, Nat.testBit_or, dg_bit, e, Nat.testBit_or]
    by_cases hi : i = 0
    · subst hi
      have hbj : b.testBit j = (decide (j < 32) && b.testBit j) := by
        by_cases hj : j < 32
        · simp [hj]
        · simp [hj, lt32_bit (x := b) (j := j) (by omega) (by omega)]
      simp only [Nat.mul_zero, Nat.zero_add, if_true, Nat.pow_one]
      conv => rhs; rw [hbj]
      cases decide (j < 32) <;> simp
    · have hbz : b.testBit (32 * i + j) = false := Nat.testBit_lt_two_pow (Nat.lt_of_le_of_lt hb (by rw [show 32 * i + j = (32 * i + j - 1) + 1 by omega, Nat.pow_succ]; have := Nat.pow_pos (n := 32 * i + j - 1) (show 0 < 2 by omega); omega))
      simp [hi, hbz]
  have e2 := dg_shl N 1 i (by omega)
  rw [Nat.pow_one, Nat.mul_comm N 2] at e2
  rw [e1, e2, Nat.or_assoc]
  congr 1
  by_cases hi : i = 0
  · simp [hi]
  · simp [hi, show 0 < i by omega]
theorem or_disj {x y s : Nat} (h : y < 2 ^ s) : (x * 2 ^ s) ||| y = x * 2 ^ s + y := by rw [Nat.mul_comm]; exact (Nat.two_pow_add_eq_or_of_lt h _).symm
/-- one more bit of a number -/
theorem dg_setbit (N k i : Nat) (h : N.testBit k = false) : dg (N + 2 ^ k) i = if i = k / 32 then dg N i ||| 2 ^ (k % 32) else dg N i := by
  have e : N + 2 ^ k = N ||| 2 ^ k := by
    apply Nat.eq_of_testBit_eq
    intro j
    rw [Nat.testBit_or, Nat.testBit_two_pow, Nat.add_comm]
    rcases Nat.lt_trichotomy j k with hjk | rfl | hjk
    · rw [Nat.testBit_two_pow_add_gt hjk]; simp [show k ≠ j by omega]
    · rw [Nat.testBit_two_pow_add_eq, h]; simp
    · have h2 : k ≠ j := by omega
      simp only [h2, decide_false, Bool.or_false]
      have hN : N = N % 2 ^ k + 2 ^ (k + 1) * (N / 2 ^ (k + 1)) := by
        have h3 := Nat.mod_add_div N (2 ^ (k + 1))
        have h4 : N % 2 ^ (k + 1) = N % 2 ^ k := by
          have h5 : N / 2 ^ k % 2 = 0 := by
            rw [Nat.testBit_eq_decide_div_mod_eq] at h
            have := of_decide_eq_false h
            omega
          rw [Nat.mod_pow_succ, h5]; omega
        omega
      have hl := Nat.mod_lt N (Nat.pow_pos (n := k) (show 0 < 2 by omega))
      have hb : ∀ x, x < 2 ^ (k + 1) → (x + 2 ^ (k + 1) * (N / 2 ^ (k + 1))).testBit j = (N / 2 ^ (k + 1)).testBit (j - (k + 1)) := by
        intro x hx
        rw [Nat.add_comm, Nat.testBit_two_pow_mul_add _ hx, if_neg (by omega)]
      have hp : 2 ^ (k + 1) = 2 ^ k + 2 ^ k := by rw [Nat.pow_succ]; omega
      have e1 : 2 ^ k + N = (2 ^ k + N % 2 ^ k) + 2 ^ (k + 1) * (N / 2 ^ (k + 1)) := by omega
      rw [e1, hb _ (by omega)]
      conv => rhs; rw [hN]
      rw [hb _ (by omega)]
  apply Nat.eq_of_testBit_eq
  intro j
  rw [e, dg_bit, Nat.testBit_or, Nat.testBit_two_pow]
  by_cases hi : i = k / 32
  · rw [if_pos hi, Nat.testBit_or, dg_bit, Nat.testBit_two_pow]
    by_cases hj : j < 32
    · have : (k = 32 * i + j) ↔ (k % 32 = j) := by omega
      simp [hj, this]
    · simp [hj, show ¬ (k % 32 = j) by omega]
  · rw [if_neg hi, dg_bit]
    by_cases hj : j < 32
    · simp [hj, show ¬ (k = 32 * i + j) by omega]
    · simp [hj]

/-! ### short division -/
theorem short_q (N x k : Nat) (hx : 0 < x) : dg (N / x) k = (N / BB ^ (k + 1) % x * BB + dg N k) / x := by
  have h1 := div_succ N k
  have hd := dg_lt N k
  have e : N / x / BB ^ k = BB * (N / BB ^ (k + 1) / x) + (N / BB ^ (k + 1) % x * BB + dg N k) / x := by
    rw [Nat.div_div_eq_div_mul, Nat.mul_comm x, ← Nat.div_div_eq_div_mul, h1]
    have h2 := Nat.div_add_mod (N / BB ^ (k + 1)) x
    generalize N / BB ^ (k + 1) / x = qa at *
    generalize N / BB ^ (k + 1) % x = r at *
    rw [← h2, show BB * (x * qa + r) + dg N k = x * (BB * qa) + (r * BB + dg N k) by rw [Nat.mul_add, ← Nat.mul_assoc, ← Nat.mul_assoc, Nat.mul_comm BB x, Nat.mul_comm BB r]; omega]
    rw [Nat.mul_add_div hx]
  have hlt : (N / BB ^ (k + 1) % x * BB + dg N k) / x < BB := by
    rw [Nat.div_lt_iff_lt_mul hx]
    have hr := Nat.mod_lt (N / BB ^ (k + 1)) hx
    generalize N / BB ^ (k + 1) % x = r at *
    have : (r + 1) * BB ≤ x * BB := Nat.mul_le_mul_right _ hr
    rw [Nat.add_mul, Nat.one_mul] at this
    rw [Nat.mul_comm BB x]; omega
  unfold dg at *
  rw [e, Nat.mul_add_mod, Nat.mod_eq_of_lt hlt]
theorem short_r (N x k : Nat) : N / BB ^ k % x = (N / BB ^ (k + 1) % x * BB + dg N k) % x := by
  rw [div_succ N k, Nat.mul_comm BB, Nat.add_mod, Nat.mul_mod]
  conv => rhs; rw [Nat.add_mod, Nat.mul_mod, Nat.mod_mod]
theorem dg_div_hi {N x n i : Nat} (h : N < BB ^ n) (hi : n ≤ i) : dg (N / x) i = 0 := dg_of_lt (Nat.lt_of_le_of_lt (Nat.div_le_self _ _) h) hi

/-! ### bit by bit -/
theorem bit_r (N M i : Nat) : N / 2 ^ i % M = (2 * (N / 2 ^ (i + 1) % M) + (N / 2 ^ i % 2)) % M := by
  have h : N / 2 ^ i = 2 * (N / 2 ^ (i + 1)) + N / 2 ^ i % 2 := by
    have := Nat.div_add_mod (N / 2 ^ i) 2
    rw [Nat.div_div_eq_div_mul, ← Nat.pow_succ] at this
    exact this.symm
  generalize N / 2 ^ (i + 1) = A at *
  generalize N / 2 ^ i % 2 = b at *
  rw [h, Nat.add_mod, Nat.mul_mod]
  conv => rhs; rw [Nat.add_mod, Nat.mul_mod, Nat.mod_mod]
/-- the part of a number from bit i on -/
def hiP (Q i : Nat) : Nat := Q / 2 ^ i * 2 ^ i
theorem hiP_step (Q i : Nat) : hiP Q i = hiP Q (i + 1) + (Q / 2 ^ i % 2) * 2 ^ i := by
  unfold hiP
  have := Nat.div_add_mod (Q / 2 ^ i) 2
  rw [Nat.div_div_eq_div_mul, ← Nat.pow_succ] at this
  conv => lhs; rw [← this]
  rw [Nat.add_mul]
  congr 1
  rw [Nat.pow_succ, Nat.mul_comm 2, Nat.mul_assoc, Nat.mul_comm 2]
theorem hiP_bit (Q i : Nat) : (hiP Q (i + 1)).testBit i = false := by
  unfold hiP
  rw [Nat.testBit_mul_two_pow, decide_eq_false (by omega)]; rfl
theorem hiP_zero (Q : Nat) : hiP Q 0 = Q := by simp [hiP]
theorem hiP_le (Q i : Nat) : hiP Q i ≤ Q := Nat.div_mul_le_self _ _
theorem bit_q (N M i : Nat) (hM : 0 < M) : (N / M) / 2 ^ i % 2 = if M ≤ 2 * (N / 2 ^ (i + 1) % M) + (N / 2 ^ i % 2) then 1 else 0 := by
  have h : N / 2 ^ i = 2 * (N / 2 ^ (i + 1)) + N / 2 ^ i % 2 := by
    have := Nat.div_add_mod (N / 2 ^ i) 2
    rw [Nat.div_div_eq_div_mul, ← Nat.pow_succ] at this
    exact this.symm
  have hb := Nat.mod_lt (N / 2 ^ i) (show 0 < 2 by omega)
  have h2 := Nat.div_add_mod (N / 2 ^ (i + 1)) M
  have h3 := Nat.mod_lt (N / 2 ^ (i + 1)) hM
  rw [Nat.div_div_eq_div_mul, Nat.mul_comm M, ← Nat.div_div_eq_div_mul]
  generalize N / 2 ^ i = X at *
  generalize X % 2 = b at *
  subst h
  generalize N / 2 ^ (i + 1) / M = qa at *
  generalize N / 2 ^ (i + 1) % M = r at *
  rw [← h2, show 2 * (M * qa + r) + b = M * (2 * qa) + (2 * r + b) by rw [Nat.mul_add, ← Nat.mul_assoc, ← Nat.mul_assoc, Nat.mul_comm 2 M]; omega, Nat.mul_add_div hM]
  by_cases hle : M ≤ 2 * r + b
  · rw [if_pos hle]
    have : (2 * r + b) / M = 1 := by
      apply Nat.div_eq_of_lt_le <;> omega
    rw [this]; omega
  · rw [if_neg hle, Nat.div_eq_of_lt (by omega)]; omega
end Go.Proofs.YtnfmpddhcjkjbaaGreatDoor
