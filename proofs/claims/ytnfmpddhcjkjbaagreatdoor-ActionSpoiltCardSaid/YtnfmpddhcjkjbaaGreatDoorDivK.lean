/- Plain: long division by limbs; no condition. -/
import Derived.Test.YtnfmpddhcjkjbaaGreatDoorDig
namespace Go.Proofs.YtnfmpddhcjkjbaaGreatDoor

/-- an estimate that is too large -/
theorem kd_gt {U V U3 V2 P ul vl g : Nat} (hU : U = U3 * P + ul) (hV : V = V2 * P + vl) (hul : ul < P) (h : U3 < g * V2) : U < g * V := by
  have h1 : (U3 + 1) * P ≤ g * V2 * P := Nat.mul_le_mul_right _ h
  rw [Nat.add_mul, Nat.one_mul] at h1
  have h2 : g * V = g * V2 * P + g * vl := by rw [hV, Nat.mul_add, Nat.mul_assoc]
  omega
/-- an estimate that is at most one too large -/
theorem kd_le {U V U3 V2 P ul vl g : Nat} (hU : U = U3 * P + ul) (hV : V = V2 * P + vl) (hvl : vl < P) (h : g * V2 ≤ U3) (hg : g ≤ V2 + 1) : g * V ≤ U + V := by
  cases g with
  | zero => omega
  | succ g =>
    have h1 : g * (V2 + 1) ≤ (g + 1) * V2 := by
      rw [Nat.mul_add, Nat.add_mul]; omega
    have h2 : g * V ≤ g * (V2 + 1) * P := by
      rw [Nat.mul_assoc]
      refine Nat.mul_le_mul_left _ ?_
      rw [hV, Nat.add_mul]; omega
    have h3 : g * (V2 + 1) * P ≤ (g + 1) * V2 * P := Nat.mul_le_mul_right _ h1
    have h4 : (g + 1) * V2 * P ≤ U3 * P := Nat.mul_le_mul_right _ h
    rw [Nat.add_mul, Nat.one_mul]
    omega
/-- one limb of a difference of a multiple -/
theorem msub_step {f a b : Nat → Nat} {x i k k' : Nat} (h : nv f i + x * nv b i = nv a i + k * BB ^ i) (e : f i + x * b i + k = a i + k' * BB) :
    nv f (i + 1) + x * nv b (i + 1) = nv a (i + 1) + k' * BB ^ (i + 1) := by
  have e2 : f i * BB ^ i + x * (b i * BB ^ i) + k * BB ^ i = a i * BB ^ i + k' * BB ^ (i + 1) := by
    have := congrArg (· * BB ^ i) e
    simp only [Nat.add_mul] at this
    rw [Nat.pow_succ, Nat.mul_comm (BB ^ i) BB, ← Nat.mul_assoc, ← Nat.mul_assoc]
    exact this
  simp only [nv, Nat.mul_add]
  omega
/-- quotient and remainder, limb by limb: one step of the long division -/
theorem long_step {R V q d : Nat} (hR : R < V) (hd : d < BB) (h : q * V ≤ R * BB + d) (h2 : R * BB + d < q * V + V) : q < BB ∧ (R * BB + d) - q * V < V := by
  refine ⟨Nat.lt_of_not_le fun hq => ?_, by omega⟩
  have h3 : BB * V ≤ q * V := Nat.mul_le_mul_right _ hq
  have h4 : (R + 1) * BB ≤ V * BB := Nat.mul_le_mul_right _ hR
  rw [Nat.add_mul, Nat.one_mul] at h4
  rw [Nat.mul_comm BB V] at h3
  omega
/-- the top limbs of a number -/
theorem nv_top2 (f : Nat → Nat) (n : Nat) : nv f (n + 2) = (f (n + 1) * BB + f n) * BB ^ n + nv f n := by
  simp only [nv, Nat.pow_succ, Nat.add_mul]
  rw [Nat.mul_comm (BB ^ n) BB, ← Nat.mul_assoc]
  omega
theorem nv_top3 (f : Nat → Nat) (n : Nat) : nv f (n + 3) = ((f (n + 2) * BB + f (n + 1)) * BB + f n) * BB ^ n + nv f n := by
  have h1 : nv f (n + 3) = nv f (n + 2) + f (n + 2) * BB ^ (n + 2) := rfl
  have h2 : BB ^ (n + 2) = BB * (BB * BB ^ n) := by rw [Nat.pow_succ, Nat.pow_succ, Nat.mul_comm, Nat.mul_comm (BB ^ n)]
  rw [h1, nv_top2, h2]
  generalize BB ^ n = P
  simp only [Nat.add_mul, Nat.mul_assoc]
  omega
/-- division of shifted numbers -/
theorem shift_div {a b s : Nat} : (a * 2 ^ s) / (b * 2 ^ s) = a / b := Nat.mul_div_mul_right _ _ (Nat.pow_pos (by omega))
theorem shift_mod {a b s : Nat} : (a * 2 ^ s) % (b * 2 ^ s) = (a % b) * 2 ^ s := Nat.mul_mod_mul_right _ _ _
theorem divmod_unique {a b q r : Nat} (h : a = q * b + r) (hr : r < b) : q = a / b ∧ r = a % b := by
  subst h
  constructor
  · rw [Nat.mul_comm, Nat.mul_add_div (by omega), Nat.div_eq_of_lt hr]; omega
  · rw [Nat.mul_comm, Nat.mul_add_mod, Nat.mod_eq_of_lt hr]
end Go.Proofs.YtnfmpddhcjkjbaaGreatDoor
