/- Plain: decimal digits; no condition. -/
import Derived.Test.YtnfmpddhcjkjbaaGreatDoorProg
namespace Go.Proofs.YtnfmpddhcjkjbaaGreatDoor
/-- the digits of N, the last one first; none of 0 -/
def rdig (N : Nat) : List UInt8 := if h : N = 0 then [] else UInt8.ofNat (48 + N % 10) :: rdig (N / 10)
termination_by N
decreasing_by omega
theorem rdig_zero : rdig 0 = [] := by rw [rdig]; simp
theorem rdig_pos {N : Nat} (h : N ≠ 0) : rdig N = UInt8.ofNat (48 + N % 10) :: rdig (N / 10) := by rw [rdig]; simp [h]
theorem rdig_len : ∀ (k N : Nat), N < 10 ^ k → (rdig N).length ≤ k
  | 0, N, h => by simp at h; subst h; rw [rdig_zero]; simp
  | k + 1, N, h => by
    rcases Nat.eq_zero_or_pos N with e | e
    · subst e; rw [rdig_zero]; simp
    · rw [rdig_pos (by omega), List.length_cons]
      have := rdig_len k (N / 10) (by rw [Nat.pow_succ] at h; omega)
      omega
theorem rdig_len_ge : ∀ (k N : Nat), 10 ^ k ≤ N → k + 1 ≤ (rdig N).length
  | 0, N, h => by
    have : N ≠ 0 := by simp at h; omega
    rw [rdig_pos this]; simp
  | k + 1, N, h => by
    have hp : 0 < 10 ^ k := Nat.pow_pos (by omega)
    rw [Nat.pow_succ] at h
    rw [rdig_pos (by omega), List.length_cons]
    have := rdig_len_ge k (N / 10) (by omega)
    omega
/-- a digit -/
theorem digit_nat (n : Nat) : (UInt8.ofNat (48 + n % 10)).toNat = 48 + n % 10 := by
  rw [UInt8.toNat_ofNat']; omega
theorem rdig_isdig {N : Nat} : ∀ b ∈ rdig N, 48 ≤ b.toNat ∧ b.toNat ≤ 57 := by
  induction N using Nat.strongRecOn with
  | _ N ih =>
    intro b hb
    rcases Nat.eq_zero_or_pos N with e | e
    · subst e; rw [rdig_zero] at hb; cases hb
    · rw [rdig_pos (by omega)] at hb
      rcases List.mem_cons.1 hb with rfl | hb
      · rw [digit_nat]; omega
      · exact ih (N / 10) (by omega) b hb
/-- the digits, at least one -/
def fmtN (N : Nat) : List UInt8 := if N = 0 then [48] else (rdig N).reverse
def fmtZ (z : Int) : List UInt8 := if z < 0 then 45 :: fmtN z.natAbs else fmtN z.natAbs
def fmtS (z : Int) : ByteArray := ⟨(fmtZ z).toArray⟩
end Go.Proofs.YtnfmpddhcjkjbaaGreatDoor
