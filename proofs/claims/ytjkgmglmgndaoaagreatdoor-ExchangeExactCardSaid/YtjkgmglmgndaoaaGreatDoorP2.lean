/- Plain: decimal digits. Days as dates: the plain law; no condition. -/
import Derived.Test.YtjkgmglmgndaoaaGreatDoorProg
import Derived.Test.YtjkgmglmgndaoaaGreatDoorP1
namespace Go.Proofs.YtjkgmglmgndaoaaGreatDoor
/-- the digits of N, the last one first; none of 0 -/
def rdig (N : Nat) : List UInt8 := if h : N = 0 then [] else UInt8.ofNat (48 + N % 10) :: rdig (N / 10)
termination_by N
decreasing_by omega
theorem rdig_zero : rdig 0 = [] := by rw [rdig]; simp
theorem rdig_pos {N : Nat} (h : N ≠ 0) : rdig N = UInt8.ofNat (48 + N % 10) :: rdig (N / 10) := by rw [rdig]; simp [h]
theorem rdig_len : ∀ (k N : Nat), N < 10 ^ k → (rdig N).length ≤ k
  | 0, N, h => by simp at h; subst h; rw [rdig_zero]; simp
  | k + 1, N, h => by
    rcases Nat.eq_zero_or_pos N with e | e
    · subst e; rw [rdig_zero]; simp
    · rw [rdig_pos (by omega), List.length_cons]
      have := rdig_len k (N / 10) (by rw [Nat.pow_succ] at h; omega)
      omega
/-- a digit -/
theorem digit_nat (n : Nat) : (UInt8.ofNat (48 + n % 10)).toNat = 48 + n % 10 := by
  rw [UInt8.toNat_ofNat']; omega
theorem rdig_isdig {N : Nat} : ∀ b ∈ rdig N, 48 ≤ b.toNat ∧ b.toNat ≤ 57 := by
  induction N using Nat.strongRecOn with
  | _ N ih =>
    intro b hb
    rcases Nat.eq_zero_or_pos N with e | e
    · subst e; rw [rdig_zero] at hb; cases hb
    · rw [rdig_pos (by omega)] at hb
      rcases List.mem_cons.1 hb with rfl | hb
      · rw [digit_nat]; omega
      · exact ih (N / 10) (by omega) b hb
/-- the digits, at least one -/
def fmtN (N : Nat) : List UInt8 := if N = 0 then [48] else (rdig N).reverse
def fmtZ (z : Int) : List UInt8 := if z < 0 then 45 :: fmtN z.natAbs else fmtN z.natAbs
def fmtS (z : Int) : ByteArray := ⟨(fmtZ z).toArray⟩
end Go.Proofs.YtjkgmglmgndaoaaGreatDoor
namespace Go.SX
def leapN (y : Nat) : Bool := y % 4 == 0 && (y % 100 != 0 || y % 400 == 0)
def daysN (y : Nat) : Nat := if leapN y then 366 else 365
/-- the number of the first day of a year -/
def ysN (y : Nat) : Nat := 365 * (y - 2000) + (y - 2000 + 3) / 4 - (if 2100 < y then 1 else 0)
theorem ys_next {y : Nat} (h1 : 2000 ≤ y) (h2 : y ≤ 2199) : ysN (y + 1) = ysN y + daysN y := by
  have H : ∀ k, k < 200 → ysN (2000 + k + 1) = ysN (2000 + k) + daysN (2000 + k) := by decide +kernel
  have := H (y - 2000) (by omega)
  rw [show 2000 + (y - 2000) = y by omega] at this
  exact this
def yGo : Nat → Nat → Nat → Nat × Nat
  | 0, y, r => (y, r)
  | f + 1, y, r => if r < daysN y then (y, r) else yGo f (y + 1) (r - daysN y)
theorem ys_le : ∀ (d y : Nat), 2000 ≤ y → y + d ≤ 2200 → ysN y ≤ ysN (y + d)
  | 0, y, _, _ => Nat.le_refl _
  | d + 1, y, h1, h2 => by
    have h3 := ys_le d y h1 (by omega)
    have h4 := ys_next (y := y + d) (by omega) (by omega)
    rw [show y + (d + 1) = y + d + 1 by omega, h4]; omega
theorem yGo_is : ∀ (d f y r : Nat), 2000 ≤ y → y + d ≤ 2199 → d < f → r < daysN (y + d) → yGo f y (ysN (y + d) - ysN y + r) = (y + d, r)
  | 0, f + 1, y, r, _, _, _, hr => by
    rw [yGo, Nat.add_zero, Nat.sub_self, Nat.zero_add, if_pos (by simpa using hr)]
  | d + 1, f + 1, y, r, h1, h2, h3, hr => by
    have h4 := ys_next h1 (by omega)
    have h5 := ys_le d (y + 1) (by omega) (by omega)
    rw [show y + 1 + d = y + (d + 1) by omega] at h5
    rw [yGo, if_neg (by omega)]
    have := yGo_is d f (y + 1) r (by omega) (by omega) (by omega) (by rw [show y + 1 + d = y + (d + 1) by omega]; exact hr)
    rw [show y + 1 + d = y + (d + 1) by omega] at this
    exact (congrArg (yGo f (y + 1)) (show ysN (y + (d + 1)) - ysN y + r - daysN y = ysN (y + (d + 1)) - ysN (y + 1) + r by omega)).trans this
/-- the year of a day, and the day's number within it -/
def yearN (n : Nat) : Nat × Nat := yGo 200 2000 n
theorem yearN_is {y r n : Nat} (h1 : 2000 ≤ y) (h2 : y ≤ 2199) (hr : r < daysN y) (hn : ysN y + r = n) : yearN n = (y, r) := by
  have := yGo_is (y - 2000) 200 2000 r (by omega) (by omega) (by omega) (by rw [show 2000 + (y - 2000) = y by omega]; exact hr)
  rw [show 2000 + (y - 2000) = y by omega] at this
  have h0 : ysN 2000 = 0 := by decide
  exact (congrArg (yGo 200 2000) (show n = ysN y - ysN 2000 + r by omega)).trans this
theorem yearN_ex {n : Nat} (hn : n ≤ 73048) : 2000 ≤ (yearN n).1 ∧ (yearN n).1 ≤ 2199 ∧ (yearN n).2 < daysN (yearN n).1 ∧ ysN (yearN n).1 + (yearN n).2 = n := by
  have : ∀ k, k ≤ 199 → n < ysN (2000 + k + 1) → ∃ y r, 2000 ≤ y ∧ y ≤ 2000 + k ∧ r < daysN y ∧ ysN y + r = n := by
    intro k
    induction k with
    | zero =>
      intro _ h
      have h4 := ys_next (y := 2000) (by omega) (by omega)
      rw [show 2000 + 0 + 1 = 2000 + 1 from rfl, h4] at h
      have : ysN 2000 = 0 := by decide
      exact ⟨2000, n, by omega, by omega, by omega, by omega⟩
    | succ k ih =>
      intro hk h
      rcases Nat.lt_or_ge n (ysN (2000 + k + 1)) with h5 | h5
      · obtain ⟨y, r, h6, h7, h8, h9⟩ := ih (by omega) h5
        exact ⟨y, r, h6, by omega, h8, h9⟩
      · have h4 := ys_next (y := 2000 + (k + 1)) (by omega) (by omega)
        rw [show 2000 + k + 1 = 2000 + (k + 1) by omega] at h5
        exact ⟨2000 + (k + 1), n - ysN (2000 + (k + 1)), by omega, by omega, by omega, by omega⟩
  obtain ⟨y, r, h6, h7, h8, h9⟩ := this 199 (by omega) (by
    have : ysN (2000 + 199 + 1) = 73049 := by decide
    omega)
  rw [yearN_is h6 (by omega) h8 h9]
  exact ⟨h6, by omega, h8, h9⟩
def mlN (leap : Bool) (m : Nat) : Nat := if m = 2 then (if leap then 29 else 28) else if m = 4 ∨ m = 6 ∨ m = 9 ∨ m = 11 then 30 else 31
/-- the number of days of a year ahead of a month -/
def ahN (leap : Bool) (m : Nat) : Nat := match m with
  | 0 => 0
  | 1 => 0
  | 2 => 31
  | 3 => if leap then 60 else 59
  | 4 => if leap then 91 else 90
  | 5 => if leap then 121 else 120
  | 6 => if leap then 152 else 151
  | 7 => if leap then 182 else 181
  | 8 => if leap then 213 else 212
  | 9 => if leap then 244 else 243
  | 10 => if leap then 274 else 273
  | 11 => if leap then 305 else 304
  | 12 => if leap then 335 else 334
  | _ => if leap then 366 else 365
def mGo : Nat → Bool → Nat → Nat → Nat × Nat
  | 0, _, m, r => (m, r)
  | f + 1, leap, m, r => if r < mlN leap m then (m, r) else mGo f leap (m + 1) (r - mlN leap m)
/-- the month of a day of a year, and the day's number within it -/
def monN (leap : Bool) (r : Nat) : Nat × Nat := mGo 12 leap 1 r
theorem ah_next {leap : Bool} {m : Nat} (h1 : 1 ≤ m) (h2 : m ≤ 12) : ahN leap (m + 1) = ahN leap m + mlN leap m := by
  have H : ∀ l : Bool, ∀ k, k < 13 → 1 ≤ k → ahN l (k + 1) = ahN l k + mlN l k := by decide +kernel
  exact H leap m (by omega) h1
theorem monN_is {leap : Bool} {m r n : Nat} (h1 : 1 ≤ m) (h2 : m ≤ 12) (hr : r < mlN leap m) (hn : ahN leap m + r = n) : monN leap n = (m, r) := by
  have H : ∀ l : Bool, ∀ k, k < 13 → 1 ≤ k → ∀ r, r < mlN l k → monN l (ahN l k + r) = (k, r) := by decide +kernel
  rw [← hn]
  exact H leap m (by omega) h1 r hr
theorem monN_ex {leap : Bool} {n : Nat} (hn : n < (if leap then 366 else 365)) : 1 ≤ (monN leap n).1 ∧ (monN leap n).1 ≤ 12 ∧ (monN leap n).2 < mlN leap (monN leap n).1 ∧ ahN leap (monN leap n).1 + (monN leap n).2 = n := by
  have H : ∀ l : Bool, ∀ n, n < (if l then 366 else 365) → 1 ≤ (monN l n).1 ∧ (monN l n).1 ≤ 12 ∧ (monN l n).2 < mlN l (monN l n).1 ∧ ahN l (monN l n).1 + (monN l n).2 = n := by decide +kernel
  exact H leap n hn
/-- the month by the quick way -/
theorem mon_quick {leap : Bool} {n : Nat} (hn : n < (if leap then 366 else 365)) : (if 1 + n / 31 < 12 ∧ ahN leap (1 + n / 31 + 1) ≤ n then 1 + n / 31 + 1 else 1 + n / 31) = (monN leap n).1 := by
  have H : ∀ l : Bool, ∀ n, n < (if l then 366 else 365) → (if 1 + n / 31 < 12 ∧ ahN l (1 + n / 31 + 1) ≤ n then 1 + n / 31 + 1 else 1 + n / 31) = (monN l n).1 := by decide +kernel
  exact H leap n hn
/-- the date of a day -/
def civN (n : Nat) : Nat × Nat × Nat := ((yearN n).1, (monN (leapN (yearN n).1) (yearN n).2).1, (monN (leapN (yearN n).1) (yearN n).2).2 + 1)
theorem civN_bd {n : Nat} (hn : n ≤ 73048) : 2000 ≤ (civN n).1 ∧ (civN n).1 ≤ 2199 ∧ 1 ≤ (civN n).2.1 ∧ (civN n).2.1 ≤ 12 ∧ 1 ≤ (civN n).2.2 ∧ (civN n).2.2 ≤ 31 := by
  obtain ⟨h1, h2, h3, h4⟩ := yearN_ex hn
  obtain ⟨h5, h6, h7, h8⟩ := monN_ex (leap := leapN (yearN n).1) (n := (yearN n).2) h3
  refine ⟨h1, h2, h5, h6, by simp [civN], ?_⟩
  have : mlN (leapN (yearN n).1) (monN (leapN (yearN n).1) (yearN n).2).1 ≤ 31 := by
    unfold mlN
    repeat' split
    all_goals omega
  simp only [civN]
  omega
/-- two digits -/
def twN (k : Nat) : List UInt8 := [UInt8.ofNat (48 + k / 10), UInt8.ofNat (48 + k % 10)]
/-- the text of a day -/
def dayT (n : Nat) : List UInt8 := twN ((civN n).1 / 100) ++ (twN ((civN n).1 % 100) ++ (45 :: (twN (civN n).2.1 ++ (45 :: twN (civN n).2.2))))
end Go.SX
