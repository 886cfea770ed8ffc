/- Cells of lists; no condition. -/
import Derived.Test.YtnfmpddhcjkjbaaGreatDoorMp
namespace Go.SX
open Go Go.RowKit
/-- the cells of a list's elements, one behind the other -/
def cat {α : Type} (g : α → Array Value) : List α → Array Value
  | [] => #[]
  | x :: r => g x ++ cat g r
section
variable {α : Type} {g : α → Array Value} {s : Nat}
theorem cat_size (hg : ∀ x, (g x).size = s) : ∀ (l : List α), (cat g l).size = l.length * s
  | [] => by simp [cat]
  | x :: r => by rw [cat, Array.size_append, hg, cat_size hg r, List.length_cons, Nat.add_mul, Nat.one_mul, Nat.add_comm]
theorem cat_append : ∀ (l r : List α), cat g (l ++ r) = cat g l ++ cat g r
  | [], r => by simp [cat]
  | x :: l, r => by rw [List.cons_append, cat, cat, cat_append l r, Array.append_assoc]
theorem cat_one (x : α) : cat g [x] = g x := by simp [cat]
theorem cat_snoc (l : List α) (x : α) : cat g l ++ g x = cat g (l ++ [x]) := by rw [cat_append, cat_one]
theorem cat_get (hg : ∀ x, (g x).size = s) : ∀ (l : List α) (i : Nat) (x : α) (j : Nat), l[i]? = some x → j < s → (cat g l)[i * s + j]? = (g x)[j]?
  | [], i, x, j, h, _ => by simp at h
  | y :: r, 0, x, j, h, hj => by
    simp only [List.getElem?_cons_zero, Option.some.injEq] at h
    subst h
    rw [cat, Nat.zero_mul, Nat.zero_add, Array.getElem?_append_left (by rw [hg]; exact hj)]
  | y :: r, i + 1, x, j, h, hj => by
    rw [cat, Array.getElem?_append_right (by rw [hg, Nat.add_mul]; omega), hg]
    have e : (i + 1) * s + j - s = i * s + j := by rw [Nat.add_mul]; omega
    rw [e]
    exact cat_get hg r i x j (by simpa using h) hj
theorem cat_extract (hg : ∀ x, (g x).size = s) {l : List α} {i : Nat} {x : α} (h : l[i]? = some x) : (cat g l).extract (i * s) (i * s + s) = g x := by
  have hi := (List.getElem?_eq_some_iff.1 h).1
  have hb : (i + 1) * s ≤ l.length * s := Nat.mul_le_mul_right s hi
  rw [Nat.add_mul, Nat.one_mul] at hb
  apply Array.ext_getElem?
  intro j
  rw [Array.getElem?_extract]
  by_cases hj : j < s
  · rw [if_pos (by rw [cat_size hg]; omega), cat_get hg l i x j h hj]
  · rw [if_neg (by rw [cat_size hg]; omega), Array.getElem?_eq_none (by rw [hg]; omega)]
theorem cat_all {p : Value → Bool} (hp : ∀ x, (g x).all p = true) : ∀ (l : List α), (cat g l).all p = true
  | [] => by simp [cat]
  | x :: r => by rw [cat, Array.all_append, hp, cat_all hp r]; rfl
theorem cat_map {β : Type} (f : β → α) : ∀ (l : List β), cat g (l.map f) = cat (fun x => g (f x)) l
  | [] => rfl
  | x :: r => by rw [List.map_cons, cat, cat, cat_map f r]
end
end Go.SX
namespace Go.SX
open Go Go.RowKit
section
variable {α : Type} {g : α → Array Value} {s : Nat}
/-- a cell of an element of a list that came in -/
theorem lst_at {E : VE} (hE : VOk E) {b o i j : Nat} {xs : List α} {x : α} {ty : TypeId} {ti : TI} {v : Value} (h : ∀ w, OldW E.toEnv w → ∀ j u, (cat g xs)[j]? = some u → w.cell? ⟨b, o + j, none⟩ = some u) (hg : ∀ x, (g x).size = s) (hx : xs[i]? = some x) (hv : (g x)[j]? = some v) (hi : E.tt ty = some ti) (hr : ti.row = false) {p : Nat} (hp : p = o + i * s + j) : Runs E.toEnv (Instr.loadAt ty (.pointer (some ⟨b, p, none⟩))) v := by
  have hj : j < s := by rw [← hg x]; exact (Array.getElem?_eq_some_iff.1 hv).1
  exact lst_cell hE h hi hr ((cat_get hg xs i x j hx hj).trans hv) (by omega)
/-- an element of a list that came in -/
theorem lst_elem {E : VE} (hE : VOk E) {b o i : Nat} {xs : List α} {x : α} {ty : TypeId} {ti : TI} (h : ∀ w, OldW E.toEnv w → ∀ j u, (cat g xs)[j]? = some u → w.cell? ⟨b, o + j, none⟩ = some u) (hg : ∀ x, (g x).size = s) (hx : xs[i]? = some x) (hi : E.tt ty = some ti) (hr : ti.row = true) (hs : ti.size = s) {p : Nat} (hp : p = o + i * s) : Runs E.toEnv (Instr.loadAt ty (.pointer (some ⟨b, p, none⟩))) (.agg (g x)) := by
  have hlt := (List.getElem?_eq_some_iff.1 hx).1
  have hb : (i + 1) * s ≤ xs.length * s := Nat.mul_le_mul_right s hlt
  rw [Nat.add_mul, Nat.one_mul] at hb
  have := lst_row hE (off := i * s) h hi hr (by rw [cat_size hg, hs]; exact hb) hp
  rw [hs, cat_extract hg hx] at this
  exact this
end
/-- a list's value: empty, or a block of its own -/
def IsL (x : Value) (n : Nat) : Prop := (x = .slice none 0 0 ∧ n = 0) ∨ ∃ g cap, x = .slice (some ⟨g, 0, none⟩) n cap
theorem IsL.nil : IsL (.slice none 0 0) 0 := .inl ⟨rfl, rfl⟩
theorem IsL.some {g n cap : Nat} : IsL (.slice (some ⟨g, 0, none⟩) n cap) n := .inr ⟨g, cap, rfl⟩
theorem IsL.len {x : Value} {n : Nat} (h : IsL x n) : ∃ a cap, x = .slice a n cap := by
  rcases h with ⟨rfl, rfl⟩ | ⟨g, cap, rfl⟩
  · exact ⟨_, _, rfl⟩
  · exact ⟨_, _, rfl⟩
end Go.SX
