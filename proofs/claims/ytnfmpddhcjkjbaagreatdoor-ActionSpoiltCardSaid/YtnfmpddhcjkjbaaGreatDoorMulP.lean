/- Plain: the product, row by row; no condition. -/
import Derived.Test.YtnfmpddhcjkjbaaGreatDoorDivK
namespace Go.Proofs.YtnfmpddhcjkjbaaGreatDoor

/-- the state of a product: i rows are in -/
structure MulO (N M m i : Nat) (f : Nat → Nat) : Prop where
  val : nv f (i + m) = (N % BB ^ i) * M
  zero : ∀ k, i + m ≤ k → f k = 0
  lt : ∀ k, f k < BB
/-- j limbs of row i are in, with the carry c -/
structure MulI (N M m i j : Nat) (f0 f : Nat → Nat) (c : Nat) : Prop where
  val : nv (fun k => f (i + k)) j + c * BB ^ j = nv (fun k => f0 (i + k)) j + dg N i * nv (dg M) j
  low : ∀ k, k < i → f k = f0 k
  high : ∀ k, i + j ≤ k → f k = f0 k
  lt : ∀ k, f k < BB
  carry : c < BB
theorem MulO.start (N M m : Nat) : MulO N M m 0 (fun _ => 0) := ⟨by simp [Nat.mod_one]; exact nv_zero fun _ _ => rfl, fun _ _ => rfl, fun _ => BB_pos⟩
theorem MulO.row {N M m i : Nat} {f : Nat → Nat} (h : MulO N M m i f) : MulI N M m i 0 f f 0 := ⟨by simp [nv], fun _ _ => rfl, fun _ _ => rfl, h.lt, BB_pos⟩
theorem mul_lt {x y z c : Nat} (hx : x < BB) (hy : y < BB) (hz : z < BB) (hc : c < BB) : x * y + z + c < BB * BB := by
  have h1 : x * y ≤ (BB - 1) * (BB - 1) := Nat.mul_le_mul (by omega) (by omega)
  have h2 : (BB - 1) * (BB - 1) + 2 * (BB - 1) + 1 = BB * BB := by decide
  omega
theorem MulI.step {N M m i j c : Nat} {f0 f : Nat → Nat} (h : MulI N M m i j f0 f c) :
    MulI N M m i (j + 1) f0 (fun k => if k = i + j then (dg N i * dg M j + f (i + j) + c) % BB else f k) ((dg N i * dg M j + f (i + j) + c) / BB) := by
  refine ⟨?_, fun k hk => ?_, fun k hk => ?_, fun k => ?_, ?_⟩
  · refine mul_step (k := c) ?_ ?_
    · rw [nv_congr (g := fun k => f (i + k)) (fun k hk => by simp only [if_neg (show ¬ i + k = i + j by omega)])]; exact h.val
    · simp only [if_true]
      rw [← h.high (i + j) (Nat.le_refl _), Nat.mul_comm _ BB]; exact Nat.mod_add_div _ _
  · simp only [if_neg (show ¬ k = i + j by omega)]; exact h.low k hk
  · simp only [if_neg (show ¬ k = i + j by omega)]; exact h.high k (by omega)
  · by_cases e : k = i + j
    · simp only [if_pos e]; exact Nat.mod_lt _ BB_pos
    · simp only [if_neg e]; exact h.lt k
  · exact Nat.div_lt_of_lt_mul (mul_lt (dg_lt _ _) (dg_lt _ _) (h.lt _) h.carry)
theorem MulI.done {N M m i c : Nat} {f0 f : Nat → Nat} (h : MulI N M m i m f0 f c) (h0 : MulO N M m i f0) (hM : M < BB ^ m) : MulO N M m (i + 1) (fun k => if k = i + m then c else f k) := by
  have hv := h.val
  rw [nv_dg_full hM] at hv
  refine ⟨?_, fun k hk => ?_, fun k => ?_⟩
  · have e1 : nv (fun k => if k = i + m then c else f k) (i + 1 + m) = nv f0 i + BB ^ i * (nv (fun k => f0 (i + k)) m + dg N i * M) := by
      rw [show i + 1 + m = i + (m + 1) by omega, nv_add]
      congr 1
      · exact nv_congr fun k hk => by simp only [if_neg (show ¬ k = i + m by omega)]; exact h.low k hk
      · congr 1
        rw [← hv]
        simp only [nv, if_true]
        congr 1
        exact nv_congr fun k hk => by simp only [if_neg (show ¬ i + k = i + m by omega)]
    have e2 : nv f0 i + BB ^ i * nv (fun k => f0 (i + k)) m = (N % BB ^ i) * M := by rw [← nv_add]; exact h0.val
    rw [e1, Nat.mul_add, ← Nat.add_assoc, e2, Nat.mod_pow_succ, Nat.add_mul]
    congr 1
    rw [← Nat.mul_assoc]; rfl
  · simp only [if_neg (show ¬ k = i + m by omega)]
    rw [h.high k (by omega)]; exact h0.zero k (by omega)
  · by_cases e : k = i + m
    · simp only [if_pos e]; exact h.carry
    · simp only [if_neg e]; exact h.lt k
theorem MulO.full {N M m n : Nat} {f : Nat → Nat} (h : MulO N M m n f) (hN : N < BB ^ n) (hle : n + m ≤ 64) : nv f 64 = N * M := by
  have e : nv f 64 = nv f (n + m) + BB ^ (n + m) * nv (fun k => f (n + m + k)) (64 - (n + m)) := by
    conv => lhs; rw [show 64 = (n + m) + (64 - (n + m)) by omega]
    exact nv_add _ _ _
  rw [e, nv_zero (f := fun k => f (n + m + k)) (fun k _ => h.zero _ (by omega)), h.val, Nat.mod_eq_of_lt hN, Nat.mul_zero, Nat.add_zero]
/-- the lower 32 limbs, and whether the others are zero -/
theorem mul_low {f : Nat → Nat} (h : ∀ k, f k < BB) {P : Nat} (e : nv f 64 = P) : (∀ k, k < 32 → f k = dg (P % BB ^ 32) k) ∧ (∀ k, k < 32 → f (32 + k) = dg (P / BB ^ 32) k) ∧ P / BB ^ 32 < BB ^ 32 := by
  have h1 : nv f 64 = nv f 32 + BB ^ 32 * nv (fun k => f (32 + k)) 32 := nv_add f 32 32
  have l1 : nv f 32 < BB ^ 32 := nv_lt fun k _ => h k
  have l2 : nv (fun k => f (32 + k)) 32 < BB ^ 32 := nv_lt fun k _ => h _
  have e1 : P % BB ^ 32 = nv f 32 := by rw [← e, h1, Nat.add_mul_mod_self_left, Nat.mod_eq_of_lt l1]
  have e2 : P / BB ^ 32 = nv (fun k => f (32 + k)) 32 := by rw [← e, h1, Nat.add_mul_div_left _ _ (pow_pos' 32), Nat.div_eq_of_lt l1, Nat.zero_add]
  refine ⟨fun k hk => ?_, fun k hk => ?_, by rw [e2]; exact l2⟩
  · rw [e1]; exact (dg_nv (fun j _ => h j) hk).symm
  · rw [e2]; exact (dg_nv (f := fun k => f (32 + k)) (fun j _ => h _) hk).symm
end Go.Proofs.YtnfmpddhcjkjbaaGreatDoor
