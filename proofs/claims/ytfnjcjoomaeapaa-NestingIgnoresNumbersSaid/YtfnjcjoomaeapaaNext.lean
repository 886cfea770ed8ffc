/- Plain: there is always a part that can be listed next; how many funds are listed; no condition. -/
import Derived.Test.YtfnjcjoomaeapaaGnd
namespace Go.Proofs.Ytfnjcjoomaeapaa

def lcount (lst : Nat → Bool) (m : Nat) : Nat := (List.range m).countP lst
theorem lcount_succ (lst : Nat → Bool) (m : Nat) : lcount lst (m + 1) = lcount lst m + (if lst m then 1 else 0) := by
  unfold lcount; rw [List.range_succ, List.countP_append]; simp [List.countP_cons]
theorem lcount_le (lst : Nat → Bool) : ∀ m, lcount lst m ≤ m
  | 0 => Nat.le_refl _
  | m + 1 => by rw [lcount_succ]; have := lcount_le lst m; split <;> omega
theorem lcount_full {lst : Nat → Bool} : ∀ {m : Nat}, lcount lst m = m → ∀ v, v < m → lst v = true
  | 0, _, v, hv => by omega
  | m + 1, h, v, hv => by
    rw [lcount_succ] at h
    have := lcount_le lst m
    have h1 : lst m = true := by
      cases hm : lst m with
      | true => rfl
      | false => simp [hm] at h; omega
    have h2 : lcount lst m = m := by simp [h1] at h; omega
    by_cases e : v = m
    · subst e; exact h1
    · exact lcount_full h2 v (by omega)
theorem lcount_lt {lst : Nat → Bool} : ∀ {m : Nat}, lcount lst m < m → ∃ v, v < m ∧ lst v = false
  | 0, h => by omega
  | m + 1, h => by
    rw [lcount_succ] at h
    cases hm : lst m with
    | false => exact ⟨m, by omega, hm⟩
    | true =>
      simp [hm] at h
      obtain ⟨v, h1, h2⟩ := lcount_lt (lst := lst) (m := m) (by omega)
      exact ⟨v, by omega, h2⟩
theorem lcount_false : ∀ m, lcount (fun _ => false) m = 0
  | 0 => rfl
  | m + 1 => by rw [lcount_succ, lcount_false m]; rfl

section
variable {R : Nat → Nat → Bool} {n : Nat}

def ClosedL (R : Nat → Nat → Bool) (n : Nat) (lst : Nat → Bool) : Prop := ∀ a b, a < n → b < n → lst a = true → R a b = true → R b a = true → lst b = true
theorem ClosedL.none : ClosedL R n (fun _ => false) := fun _ _ _ _ h => by cases h
theorem ClosedL.add (htr : ∀ a b c, R a b = true → R b c = true → R a c = true) {lst : Nat → Bool} (h : ClosedL R n lst) (i : Nat) : ClosedL R n (lstTo R lst i n) := by
  intro a b ha hb hl h1 h2
  simp only [lstTo, Bool.or_eq_true, Bool.and_eq_true, decide_eq_true_eq] at hl ⊢
  rcases hl with hl | ⟨_, h3, h4⟩
  · exact .inl (h a b ha hb hl h1 h2)
  · exact .inr ⟨hb, htr _ _ _ h3 h1, htr _ _ _ h2 h4⟩
theorem lcount_add {lst : Nat → Bool} (h : ClosedL R n lst) {i : Nat} (hi : i < n) (hl : lst i = false) : ∀ m, m ≤ n → lcount (lstTo R lst i n) m = lcount lst m + (partTo R i m).length
  | 0, _ => rfl
  | m + 1, hm => by
    rw [lcount_succ, lcount_succ, lcount_add h hi hl m (by omega), show partTo R i (m + 1) = if R i m && R m i then partTo R i m ++ [(m : Int)] else partTo R i m from rfl]
    by_cases hc : (R i m && R m i) = true
    · have hlm : lst m = false := by
        cases hlm : lst m with
        | false => rfl
        | true =>
          simp at hc
          have := h m i (by omega) hi hlm hc.2 hc.1
          rw [this] at hl; cases hl
      have h1 : lstTo R lst i n m = true := by simp at hc; simp [lstTo, hc, show m < n by omega]
      rw [if_pos hc, h1, hlm]; simp only [if_true, Bool.false_eq_true, if_false, List.length_append, List.length_cons, List.length_nil]; omega
    · have h1 : lstTo R lst i n m = lst m := by
        have : (R i m && R m i) = false := by simpa using hc
        simp only [lstTo, this, Bool.and_false, Bool.or_false]
      rw [if_neg hc, h1]; omega

def rcnt (R : Nat → Nat → Bool) (n i : Nat) : Nat := (List.range n).countP (fun j => R i j)
theorem nextFrom_none_inv {lst : Nat → Bool} : ∀ {k i : Nat}, nextFrom R n lst i k = none → ∀ x, i ≤ x → x < i + k → ready R n lst x = false
  | 0, i, _, x, h1, h2 => by omega
  | k + 1, i, h, x, h1, h2 => by
    unfold nextFrom at h
    split at h
    · cases h
    · rename_i hr
      by_cases e : x = i
      · subst e; simpa using hr
      · exact nextFrom_none_inv h x (by omega) (by omega)
theorem nextFrom_first {lst : Nat → Bool} {i0 : Nat} : ∀ {k i : Nat}, nextFrom R n lst i k = some i0 → ∀ x, i ≤ x → x < i0 → ready R n lst x = false
  | 0, _, h, _, _, _ => by cases h
  | k + 1, i, h, x, h1, h2 => by
    unfold nextFrom at h
    split at h
    · cases h; omega
    · rename_i hr
      by_cases e : x = i
      · subst e; simpa using hr
      · exact nextFrom_first h x (by omega) h2
theorem some_ready (hre : ∀ a, R a a = true) (htr : ∀ a b c, R a b = true → R b c = true → R a c = true) {lst : Nat → Bool} : ∀ (c i : Nat), rcnt R n i ≤ c → i < n → lst i = false → ∃ x, x < n ∧ ready R n lst x = true
  | c, i, hc, hi, hl => by
    by_cases hr : ready R n lst i = true
    · exact ⟨i, hi, hr⟩
    · have : ∃ j, j < n ∧ stepOk R lst i j = false := by
        refine Classical.byContradiction fun hno => hr (readyTo_mk hl fun j hj => ?_)
        cases hs : stepOk R lst i j with
        | true => rfl
        | false => exact absurd ⟨j, hj, hs⟩ hno
      obtain ⟨j, hj, hs⟩ := this
      simp only [stepOk, Bool.or_eq_false_iff, Bool.not_eq_false'] at hs
      have hlt : rcnt R n j < rcnt R n i := countP_lt_of _ (fun x _ hx => htr _ _ _ hs.1.1 hx) ⟨i, by simp; exact hi, hre i, hs.2⟩
      cases c with
      | zero => omega
      | succ c => exact some_ready hre htr c j (by omega) hj hs.1.2
theorem progress (hre : ∀ a, R a a = true) (htr : ∀ a b c, R a b = true → R b c = true → R a c = true) {lst : Nat → Bool} (h : ∃ v, v < n ∧ lst v = false) : ∃ i0, i0 < n ∧ nextS R n lst = some i0 ∧ ready R n lst i0 = true ∧ ∀ x, x < i0 → ready R n lst x = false := by
  obtain ⟨v, hv, hl⟩ := h
  obtain ⟨x, hx, hr⟩ := some_ready hre htr (rcnt R n v) v (Nat.le_refl _) hv hl
  cases hn : nextS R n lst with
  | none => rw [nextFrom_none_inv hn x (Nat.zero_le _) (by omega)] at hr; cases hr
  | some i0 => exact ⟨i0, (nextS_spec hn).1, rfl, (nextS_spec hn).2, fun y hy => nextFrom_first hn y (Nat.zero_le _) hy⟩
theorem all_listed {lst : Nat → Bool} (h : ∀ v, v < n → lst v = true) : nextS R n lst = none := nextS_none fun x hx => readyTo_down (Nat.zero_le _) (by simp [readyTo, h x hx])

theorem partTo_has (i : Nat) : ∀ (j v : Nat), (v : Int) ∈ partTo R i j ↔ (v < j ∧ (R i v && R v i) = true)
  | 0, v => by simp [partTo]
  | j + 1, v => by
    unfold partTo
    split
    · rename_i hc
      rw [List.mem_append, partTo_has i j v]
      by_cases e : v = j
      · subst e; simp [hc]
      · have : ¬ ((v : Int) = (j : Int)) := by omega
        simp [this]; intro _; omega
    · rename_i hc
      rw [partTo_has i j v]
      by_cases e : v = j
      · subst e; simp [hc]
      · constructor
        · rintro ⟨h1, h2⟩; exact ⟨by omega, h2⟩
        · rintro ⟨h1, h2⟩; exact ⟨by omega, h2⟩

/-- the funds that are listed when the first j of a part are marked -/
def lstPart (lst : Nat → Bool) (part : List Int) (j : Nat) : Nat → Bool := fun v => lst v || decide ((v : Int) ∈ part.take j)
theorem lstPart_zero (lst : Nat → Bool) (part : List Int) : lstPart lst part 0 = lst := by funext v; simp [lstPart]
theorem lstPart_succ {lst : Nat → Bool} {part : List Int} {j i : Nat} (hj : j < part.length) (hi : gI part j = i) : upd (lstPart lst part j) i = lstPart lst part (j + 1) := by
  funext v
  unfold upd lstPart
  rw [List.take_succ_eq_append_getElem hj]
  have e : part[j] = (i : Int) := by rw [← hi]; simp [gI, hj]
  by_cases h : v = i
  · subst h; simp [e]
  · have : ¬ ((v : Int) = (i : Int)) := by omega
    simp [h, e, this]
theorem lstPart_all {lst : Nat → Bool} {i : Nat} : lstPart lst (partTo R i n) (partTo R i n).length = lstTo R lst i n := by
  funext v
  unfold lstPart lstTo
  rw [List.take_length]
  congr 1
  rw [Bool.eq_iff_iff]
  simp only [decide_eq_true_eq, partTo_has, Bool.and_eq_true, decide_eq_true_eq]
end

theorem rB_refl {n : Nat} {hs : List (List Int)} (a : Nat) : rB n hs a a = true := rB_iff.2 (.refl _ _)
theorem rB_trans {n : Nat} {hs : List (List Int)} (a b c : Nat) (h : rB n hs a b = true) (k : rB n hs b c = true) : rB n hs a c = true := rB_iff.2 ((rB_iff.1 h).trans (rB_iff.1 k))

end Go.Proofs.Ytfnjcjoomaeapaa
