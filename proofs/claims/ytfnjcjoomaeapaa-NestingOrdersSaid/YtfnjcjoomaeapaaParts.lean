/- Plain: the parts in their order; no condition. -/
import Derived.Test.YtfnjcjoomaeapaaGraph
namespace Go.Proofs.Ytfnjcjoomaeapaa

section
variable (R : Nat → Nat → Bool) (n : Nat)

def stepOk (lst : Nat → Bool) (i j : Nat) : Bool := !R i j || lst j || R j i
def readyTo (lst : Nat → Bool) (i : Nat) : Nat → Bool
  | 0 => !lst i
  | j + 1 => readyTo lst i j && stepOk R lst i j
def ready (lst : Nat → Bool) (i : Nat) : Bool := readyTo R lst i n
/-- the least fund that is ready, from i on, k at most -/
def nextFrom (lst : Nat → Bool) (i : Nat) : Nat → Option Nat
  | 0 => none
  | k + 1 => if ready R n lst i then some i else nextFrom lst (i + 1) k
def nextS (lst : Nat → Bool) : Option Nat := nextFrom R n lst 0 n
def partTo (i : Nat) : Nat → List Int
  | 0 => []
  | j + 1 => if R i j && R j i then partTo i j ++ [(j : Int)] else partTo i j
def lstTo (lst : Nat → Bool) (i j : Nat) : Nat → Bool := fun v => lst v || (decide (v < j) && (R i v && R v i))
def partsS : Nat → (Nat → Bool) → List (List Int)
  | 0, _ => []
  | k + 1, lst => match nextS R n lst with
    | none => []
    | some i => partTo R i n :: partsS k (lstTo R lst i n)

end
section
variable {R : Nat → Nat → Bool} {n : Nat}

theorem readyTo_lst {lst : Nat → Bool} {i : Nat} : ∀ {j : Nat}, readyTo R lst i j = true → lst i = false
  | 0, h => by simpa [readyTo] using h
  | j + 1, h => by simp [readyTo] at h; exact readyTo_lst h.1
theorem readyTo_ok {lst : Nat → Bool} {i : Nat} : ∀ {k : Nat}, readyTo R lst i k = true → ∀ j, j < k → stepOk R lst i j = true
  | 0, _, j, hj => by omega
  | k + 1, h, j, hj => by
    simp [readyTo] at h
    by_cases e : j = k
    · subst e; exact h.2
    · exact readyTo_ok h.1 j (by omega)
theorem readyTo_mk {lst : Nat → Bool} {i : Nat} (h0 : lst i = false) : ∀ {k : Nat}, (∀ j, j < k → stepOk R lst i j = true) → readyTo R lst i k = true
  | 0, _ => by simp [readyTo, h0]
  | k + 1, h => by
    have h1 : readyTo R lst i k = true := readyTo_mk h0 (fun j hj => h j (by omega))
    simp only [readyTo, h1, h k (by omega), Bool.and_self]
theorem readyTo_down {lst : Nat → Bool} {i : Nat} : ∀ {k j : Nat}, j ≤ k → readyTo R lst i j = false → readyTo R lst i k = false
  | 0, j, hj, h => by have : j = 0 := by omega
                      subst this; exact h
  | k + 1, j, hj, h => by
    by_cases e : j = k + 1
    · subst e; exact h
    · simp [readyTo, readyTo_down (show j ≤ k by omega) h]

theorem nextFrom_none {lst : Nat → Bool} : ∀ {k i : Nat}, (∀ x, i ≤ x → x < i + k → ready R n lst x = false) → nextFrom R n lst i k = none
  | 0, _, _ => rfl
  | k + 1, i, h => by
    simp only [nextFrom, h i (Nat.le_refl _) (by omega), Bool.false_eq_true, if_false]
    exact nextFrom_none fun x h1 h2 => h x (by omega) (by omega)
theorem nextFrom_some {lst : Nat → Bool} {i0 : Nat} (hr : ready R n lst i0 = true) : ∀ {k i : Nat}, i ≤ i0 → i0 < i + k → (∀ x, i ≤ x → x < i0 → ready R n lst x = false) → nextFrom R n lst i k = some i0
  | 0, _, h1, h2, _ => by omega
  | k + 1, i, h1, h2, h => by
    by_cases e : i = i0
    · subst e; simp [nextFrom, hr]
    · simp only [nextFrom, h i (Nat.le_refl _) (by omega), Bool.false_eq_true, if_false]
      exact nextFrom_some hr (by omega) (by omega) fun x h3 h4 => h x (by omega) h4
theorem nextS_none {lst : Nat → Bool} (h : ∀ x, x < n → ready R n lst x = false) : nextS R n lst = none := nextFrom_none fun x _ h2 => h x (by omega)
theorem nextS_some {lst : Nat → Bool} {i0 : Nat} (hi : i0 < n) (hr : ready R n lst i0 = true) (h : ∀ x, x < i0 → ready R n lst x = false) : nextS R n lst = some i0 := nextFrom_some hr (Nat.zero_le _) (by omega) fun x _ h2 => h x h2
theorem nextFrom_spec {lst : Nat → Bool} {i0 : Nat} : ∀ {k i : Nat}, nextFrom R n lst i k = some i0 → i ≤ i0 ∧ i0 < i + k ∧ ready R n lst i0 = true
  | 0, _, h => by cases h
  | k + 1, i, h => by
    unfold nextFrom at h
    split at h
    · cases h; exact ⟨Nat.le_refl _, by omega, by assumption⟩
    · have := nextFrom_spec h; exact ⟨by omega, by omega, this.2.2⟩
theorem nextS_spec {lst : Nat → Bool} {i0 : Nat} (h : nextS R n lst = some i0) : i0 < n ∧ ready R n lst i0 = true := by
  have := nextFrom_spec h; exact ⟨by omega, this.2.2⟩

theorem partTo_len (i : Nat) : ∀ j, (partTo R i j).length ≤ j
  | 0 => Nat.le_refl _
  | j + 1 => by unfold partTo; have := partTo_len i j; split <;> simp <;> omega
theorem lstTo_zero (lst : Nat → Bool) (i : Nat) : lstTo R lst i 0 = lst := by funext v; simp [lstTo]
theorem lstTo_hit {lst : Nat → Bool} {i j : Nat} (h : (R i j && R j i) = true) : upd (lstTo R lst i j) j = lstTo R lst i (j + 1) := by
  funext v
  unfold upd lstTo
  by_cases e : v = j
  · subst e; simp [h]
  · have : decide (v < j + 1) = decide (v < j) := by simp; omega
    simp [e, this]
theorem lstTo_miss {lst : Nat → Bool} {i j : Nat} (h : (R i j && R j i) = false) : lstTo R lst i j = lstTo R lst i (j + 1) := by
  funext v
  unfold lstTo
  by_cases e : v = j
  · subst e; simp [h]
  · have : decide (v < j + 1) = decide (v < j) := by simp; omega
    simp [this]
theorem lstTo_cnt {lst : Nat → Bool} {i n : Nat} (hi : i < n) (hn : n ≤ 8) (hl : lst i = false) (hr : R i i = true) : cnt (lstTo R lst i n) < cnt lst :=
  countP_lt_of _ (fun x _ hx => by simp [lstTo] at hx; simp [hx.1]) ⟨i, by simp; omega, by simp [hl], by simp [lstTo, hi, hr]⟩

end
end Go.Proofs.Ytfnjcjoomaeapaa
