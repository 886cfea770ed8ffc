/- Plain: numbers by limbs; no condition. -/
import Derived.Test.YtnfmpddhcjkjbaaGreatDoorProg
namespace Go.Proofs.YtnfmpddhcjkjbaaGreatDoor

def BB : Nat := 4294967296
theorem BB_eq : BB = 4294967296 := rfl
theorem BB_pos : 0 < BB := by decide
theorem BB_one : 1 < BB := by decide
theorem pow_pos' (i : Nat) : 0 < BB ^ i := Nat.pow_pos BB_pos

/-- limb i of N -/
def dg (N i : Nat) : Nat := N / BB ^ i % BB
/-- the number of the first k limbs -/
def nv (f : Nat → Nat) : Nat → Nat
  | 0 => 0
  | k + 1 => nv f k + f k * BB ^ k

theorem dg_lt (N i : Nat) : dg N i < BB := Nat.mod_lt _ BB_pos
theorem nv_congr {f g : Nat → Nat} : ∀ {k : Nat}, (∀ i, i < k → f i = g i) → nv f k = nv g k
  | 0, _ => rfl
  | k + 1, h => by simp only [nv, nv_congr (k := k) fun i hi => h i (by omega), h k (by omega)]
theorem nv_lt {f : Nat → Nat} : ∀ {k : Nat}, (∀ i, i < k → f i < BB) → nv f k < BB ^ k
  | 0, _ => by simp [nv]
  | k + 1, h => by
    have ih := nv_lt (k := k) fun i hi => h i (by omega)
    have hk := h k (by omega)
    have : (f k + 1) * BB ^ k ≤ BB * BB ^ k := Nat.mul_le_mul_right _ (by omega)
    simp only [nv, Nat.pow_succ]
    rw [Nat.add_mul, Nat.one_mul] at this
    rw [Nat.mul_comm (BB ^ k) BB]
    omega
theorem nv_dg (N : Nat) : ∀ k, nv (dg N) k = N % BB ^ k
  | 0 => by simp [nv, Nat.mod_one]
  | k + 1 => by rw [Nat.mod_pow_succ, ← nv_dg N k]; simp only [nv, dg]; rw [Nat.mul_comm]
theorem nv_add (f : Nat → Nat) (k : Nat) : ∀ m, nv f (k + m) = nv f k + BB ^ k * nv (fun i => f (k + i)) m
  | 0 => by simp [nv]
  | m + 1 => by
    rw [← Nat.add_assoc]
    simp only [nv]
    rw [nv_add f k m, Nat.mul_add, Nat.pow_add, Nat.add_assoc]
    congr 2
    exact Nat.mul_left_comm _ _ _
theorem dg_nv {f : Nat → Nat} {n i : Nat} (h : ∀ j, j < n → f j < BB) (hi : i < n) : dg (nv f n) i = f i := by
  have e : n = i + (1 + (n - i - 1)) := by omega
  have h1 : nv f n = nv f i + BB ^ i * (f i + BB * nv (fun j => f (i + (1 + j))) (n - i - 1)) := by
    conv => lhs; rw [e]
    rw [nv_add, nv_add]
    simp [nv]
  unfold dg
  rw [h1, Nat.add_mul_div_left _ _ (pow_pos' i), Nat.div_eq_of_lt (nv_lt fun j hj => h j (by omega)), Nat.zero_add, Nat.add_mul_mod_self_left, Nat.mod_eq_of_lt (h i hi)]
theorem nv_dg_full {N n : Nat} (h : N < BB ^ n) : nv (dg N) n = N := by rw [nv_dg, Nat.mod_eq_of_lt h]
theorem dg_ext {A C n : Nat} (ha : A < BB ^ n) (hc : C < BB ^ n) (h : ∀ i, i < n → dg A i = dg C i) : A = C := by
  rw [← nv_dg_full ha, ← nv_dg_full hc]; exact nv_congr h
theorem nv_zero {f : Nat → Nat} : ∀ {k : Nat}, (∀ i, i < k → f i = 0) → nv f k = 0
  | 0, _ => rfl
  | k + 1, h => by simp only [nv, nv_zero (k := k) fun i hi => h i (by omega), h k (by omega), Nat.zero_mul]
theorem dg_zero (i : Nat) : dg 0 i = 0 := by simp [dg]
theorem div_succ (N i : Nat) : N / BB ^ i = BB * (N / BB ^ (i + 1)) + dg N i := by
  unfold dg
  rw [Nat.pow_succ, ← Nat.div_div_eq_div_mul]
  exact (Nat.div_add_mod _ _).symm
theorem dg_of_lt {N i n : Nat} (h : N < BB ^ n) (hn : n ≤ i) : dg N i = 0 := by
  unfold dg
  rw [Nat.div_eq_of_lt (Nat.lt_of_lt_of_le h (Nat.pow_le_pow_right BB_pos hn))]; rfl

/-- compare, limb by limb from the top -/
theorem cmp_step {A C i : Nat} (h : A / BB ^ (i + 1) = C / BB ^ (i + 1)) (e : dg A i = dg C i) : A / BB ^ i = C / BB ^ i := by
  rw [div_succ A i, div_succ C i, h, e]
theorem cmp_lt {A C i : Nat} (h : A / BB ^ (i + 1) = C / BB ^ (i + 1)) (e : dg A i < dg C i) : A < C := by
  have h1 : A / BB ^ i < C / BB ^ i := by rw [div_succ A i, div_succ C i, h]; omega
  refine Nat.lt_of_not_le fun hle => ?_
  have := Nat.div_le_div_right (c := BB ^ i) hle
  omega

/-- one limb of a sum: with carries -/
theorem add_step {f a b : Nat → Nat} {i k k' : Nat} (h : nv f i + k * BB ^ i = nv a i + nv b i) (e : f i + k' * BB = a i + b i + k) :
    nv f (i + 1) + k' * BB ^ (i + 1) = nv a (i + 1) + nv b (i + 1) := by
  have e2 : f i * BB ^ i + k' * BB ^ (i + 1) = a i * BB ^ i + b i * BB ^ i + k * BB ^ i := by
    have := congrArg (· * BB ^ i) e
    simp only [Nat.add_mul] at this
    rw [Nat.pow_succ, Nat.mul_comm (BB ^ i) BB, ← Nat.mul_assoc]
    exact this
  simp only [nv]
  omega
/-- one limb of a difference: with borrows -/
theorem sub_step {f a b : Nat → Nat} {i k k' : Nat} (h : nv f i + nv b i = nv a i + k * BB ^ i) (e : f i + b i + k = a i + k' * BB) :
    nv f (i + 1) + nv b (i + 1) = nv a (i + 1) + k' * BB ^ (i + 1) := by
  have e2 : f i * BB ^ i + b i * BB ^ i + k * BB ^ i = a i * BB ^ i + k' * BB ^ (i + 1) := by
    have := congrArg (· * BB ^ i) e
    simp only [Nat.add_mul] at this
    rw [Nat.pow_succ, Nat.mul_comm (BB ^ i) BB, ← Nat.mul_assoc]
    exact this
  simp only [nv]
  omega
/-- one limb of a row of a product -/
theorem mul_step {f c b : Nat → Nat} {x i k k' : Nat} (h : nv f i + k * BB ^ i = nv c i + x * nv b i) (e : f i + k' * BB = x * b i + c i + k) :
    nv f (i + 1) + k' * BB ^ (i + 1) = nv c (i + 1) + x * nv b (i + 1) := by
  have e2 : f i * BB ^ i + k' * BB ^ (i + 1) = x * (b i * BB ^ i) + c i * BB ^ i + k * BB ^ i := by
    have := congrArg (· * BB ^ i) e
    simp only [Nat.add_mul] at this
    rw [Nat.pow_succ, Nat.mul_comm (BB ^ i) BB, ← Nat.mul_assoc, ← Nat.mul_assoc]
    exact this
  simp only [nv, Nat.mul_add]
  omega

/-- n is the number of limbs in use -/
def IsUsed (N n : Nat) : Prop := N < BB ^ n ∧ (0 < n → BB ^ (n - 1) ≤ N)
theorem IsUsed.unique {N n m : Nat} (h : IsUsed N n) (k : IsUsed N m) : n = m := by
  rcases Nat.lt_trichotomy n m with e | e | e
  · have h1 := k.2 (by omega)
    have h2 := Nat.pow_le_pow_right (n := BB) BB_pos (show n ≤ m - 1 by omega)
    have := h.1
    omega
  · exact e
  · have h1 := h.2 (by omega)
    have h2 := Nat.pow_le_pow_right (n := BB) BB_pos (show m ≤ n - 1 by omega)
    have := k.1
    omega
theorem isUsed_zero : IsUsed 0 0 := ⟨by simp, fun h => absurd h (by omega)⟩
theorem lt_of_top {N i : Nat} (h : N < BB ^ (i + 1)) (e : dg N i = 0) : N < BB ^ i := by
  have h1 : N / BB ^ (i + 1) = 0 := Nat.div_eq_of_lt h
  have h2 := div_succ N i
  rw [h1, e] at h2
  rcases Nat.lt_or_ge N (BB ^ i) with h3 | h3
  · exact h3
  · have := Nat.div_pos h3 (pow_pos' i); omega
theorem top_le {N i : Nat} (e : dg N i ≠ 0) : BB ^ i ≤ N := by
  rcases Nat.lt_or_ge N (BB ^ i) with h3 | h3
  · exact absurd (dg_of_lt h3 (Nat.le_refl _)) e
  · exact h3
theorem used_of {N n : Nat} (h : N < BB ^ n) (e : n = 0 ∨ dg N (n - 1) ≠ 0) : IsUsed N n := ⟨h, fun hn => by
  rcases e with e | e
  · omega
  · exact top_le e⟩

/-- k is the length in bits -/
def IsBits (N k : Nat) : Prop := N < 2 ^ k ∧ (0 < k → 2 ^ (k - 1) ≤ N)
theorem IsBits.unique {N n m : Nat} (h : IsBits N n) (k : IsBits N m) : n = m := by
  rcases Nat.lt_trichotomy n m with e | e | e
  · have h1 := k.2 (by omega)
    have h2 := Nat.pow_le_pow_right (n := 2) (by omega) (show n ≤ m - 1 by omega)
    have := h.1
    omega
  · exact e
  · have h1 := h.2 (by omega)
    have h2 := Nat.pow_le_pow_right (n := 2) (by omega) (show m ≤ n - 1 by omega)
    have := k.1
    omega
theorem isBits_zero : IsBits 0 0 := ⟨by simp, fun h => absurd h (by omega)⟩
theorem BB_pow (i : Nat) : BB ^ i = 2 ^ (32 * i) := by rw [Nat.pow_mul]; rfl
/-- the bits of a number of n + 1 limbs are those of its first limb and 32 n -/
theorem isBits_top {N n k : Nat} (hN : N < BB ^ (n + 1)) (hk : 0 < k) (h : IsBits (dg N n) k) : IsBits N (32 * n + k) := by
  have e : N / BB ^ n = dg N n := by rw [div_succ N n, Nat.div_eq_of_lt hN]; omega
  have hm : N = BB ^ n * dg N n + N % BB ^ n := by rw [← e]; exact (Nat.div_add_mod _ _).symm
  have hr : N % BB ^ n < BB ^ n := Nat.mod_lt _ (pow_pos' n)
  have h1 := h.1
  have h2 := h.2 hk
  generalize N % BB ^ n = r at hm hr
  refine ⟨?_, fun _ => ?_⟩
  · rw [Nat.pow_add, ← BB_pow]
    have : BB ^ n * (dg N n + 1) ≤ BB ^ n * 2 ^ k := Nat.mul_le_mul_left _ (by omega)
    rw [Nat.mul_add, Nat.mul_one] at this
    omega
  · rw [show 32 * n + k - 1 = 32 * n + (k - 1) by omega, Nat.pow_add, ← BB_pow]
    have : BB ^ n * 2 ^ (k - 1) ≤ BB ^ n * dg N n := Nat.mul_le_mul_left _ h2
    omega
end Go.Proofs.YtnfmpddhcjkjbaaGreatDoor
