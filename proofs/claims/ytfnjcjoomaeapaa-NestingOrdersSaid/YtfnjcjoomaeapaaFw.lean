/- Plain: reachability by three nested loops; grids in memory; no condition. -/
import Derived.Test.YtfnjcjoomaeapaaMem
import Derived.Test.YtfnjcjoomaeapaaGraph
namespace Go.Proofs.Ytfnjcjoomaeapaa
open Go.RowKit

def Dk (E : Nat → Nat → Prop) : Nat → Nat → Nat → Prop
  | 0, i, j => i = j ∨ E i j
  | k + 1, i, j => Dk E k i j ∨ (Dk E k i k ∧ Dk E k k j)

theorem Dk.trans {E : Nat → Nat → Prop} : ∀ {k i j m : Nat}, m < k → Dk E k i m → Dk E k m j → Dk E k i j
  | 0, _, _, _, h, _, _ => by omega
  | k + 1, i, j, m, h, h1, h2 => by
    by_cases e : m = k
    · subst e
      have a : Dk E m i m := by rcases h1 with h1 | h1; exact h1; exact h1.1
      have b : Dk E m m j := by rcases h2 with h2 | h2; exact h2; exact h2.2
      exact .inr ⟨a, b⟩
    · have hm : m < k := by omega
      rcases h1 with h1 | h1 <;> rcases h2 with h2 | h2
      · exact .inl (Dk.trans hm h1 h2)
      · exact .inr ⟨Dk.trans hm h1 h2.1, h2.2⟩
      · exact .inr ⟨h1.1, Dk.trans hm h1.2 h2⟩
      · exact .inr ⟨h1.1, h2.2⟩
theorem Dk.up {E : Nat → Nat → Prop} {i j : Nat} (h : Dk E 0 i j) : ∀ k, Dk E k i j
  | 0 => h
  | k + 1 => .inl (Dk.up h k)
theorem Dk.of_rch {E : Nat → Nat → Prop} {n : Nat} (hE : ∀ a b, E a b → a < n ∧ b < n) {i j : Nat} (h : Rch E i j) : Dk E n i j := by
  obtain ⟨k, hk⟩ := h
  induction k generalizing i with
  | zero => cases hk; exact Dk.up (.inl rfl) n
  | succ k ih =>
    obtain ⟨m, hm, hp⟩ := hk
    exact Dk.trans (hE _ _ hm).2 (Dk.up (.inr hm) n) (ih hp)

def upd2 (g : Nat → Nat → Bool) (i j : Nat) (b : Bool) : Nat → Nat → Bool := fun a c => if a = i ∧ c = j then b else g a c

structure FwMid (E : Nat → Nat → Prop) (n k i j : Nat) (g : Nat → Nat → Bool) : Prop where
  sound : ∀ a b, a < n → b < n → g a b = true → Rch E a b
  comp : ∀ a b, a < n → b < n → Dk E k a b → g a b = true
  part : ∀ a b, a < n → b < n → (a < i ∨ (a = i ∧ b < j)) → Dk E (k + 1) a b → g a b = true

theorem FwMid.step {E : Nat → Nat → Prop} {n k i j : Nat} {g : Nat → Nat → Bool} (h : FwMid E n k i j g) (hk : k < n) (hi : i < n) (hj : j < n) : FwMid E n k i (j + 1) (upd2 g i j (g i j || (g i k && g k j))) := by
  refine ⟨fun a b ha hb hg => ?_, fun a b ha hb hd => ?_, fun a b ha hb hp hd => ?_⟩
  · unfold upd2 at hg
    split at hg
    · rename_i e
      obtain ⟨rfl, rfl⟩ := e
      cases h1 : g a b with
      | true => exact h.sound a b ha hb h1
      | false =>
        simp [h1] at hg
        exact (h.sound a k ha hk hg.1).trans (h.sound k b hk hb hg.2)
    · exact h.sound a b ha hb hg
  · unfold upd2
    split
    · rename_i e
      obtain ⟨rfl, rfl⟩ := e
      simp [h.comp a b ha hb hd]
    · exact h.comp a b ha hb hd
  · unfold upd2
    split
    · rename_i e
      obtain ⟨rfl, rfl⟩ := e
      rcases hd with hd | hd
      · simp [h.comp a b ha hb hd]
      · simp [h.comp a k ha hk hd.1, h.comp k b hk hb hd.2]
    · rename_i e
      refine h.part a b ha hb ?_ hd
      rcases hp with hp | ⟨rfl, hp⟩
      · exact .inl hp
      · exact .inr ⟨rfl, by have : b ≠ j := fun x => e ⟨rfl, x⟩
                            omega⟩
theorem FwMid.row {E : Nat → Nat → Prop} {n k i : Nat} {g : Nat → Nat → Bool} (h : FwMid E n k i n g) : FwMid E n k (i + 1) 0 g :=
  ⟨h.sound, h.comp, fun a b ha hb hp hd => h.part a b ha hb (by rcases hp with hp | ⟨_, hp⟩; (by_cases e : a = i; exact .inr ⟨e, hb⟩; exact .inl (by omega)); omega) hd⟩
theorem FwMid.phase {E : Nat → Nat → Prop} {n k : Nat} {g : Nat → Nat → Bool} (h : FwMid E n k n 0 g) : FwMid E n (k + 1) 0 0 g :=
  ⟨h.sound, fun a b ha hb hd => h.part a b ha hb (.inl ha) hd, fun a b ha hb hp hd => by omega⟩
theorem FwMid.start {E : Nat → Nat → Prop} {n : Nat} {g : Nat → Nat → Bool} (h : ∀ a b, a < n → b < n → (g a b = true ↔ (a = b ∨ E a b))) : FwMid E n 0 0 0 g :=
  ⟨fun a b ha hb hg => by
    rcases (h a b ha hb).1 hg with rfl | he
    · exact .refl _ _
    · exact .edge he, fun a b ha hb hd => (h a b ha hb).2 hd, fun a b ha hb hp hd => by omega⟩
theorem FwMid.done {E : Nat → Nat → Prop} {n : Nat} {g : Nat → Nat → Bool} (hE : ∀ a b, E a b → a < n ∧ b < n) (h : FwMid E n n 0 0 g) {a b : Nat} (ha : a < n) (hb : b < n) : g a b = true ↔ Rch E a b :=
  ⟨h.sound a b ha hb, fun hr => h.comp a b ha hb (Dk.of_rch hE hr)⟩

/-- a square of bools in memory, its first k rows made -/
structure GridAt (w : World) (lo B : Nat) (rb : Nat → Nat) (n k : Nat) (g : Nat → Nat → Bool) : Prop where
  top : ∀ i, i < n → ∃ x, w.cell? ⟨B, i, none⟩ = some x
  topf : ∀ i, w.frozen? ⟨B, i, none⟩ = false
  row : ∀ i, i < k → w.cell? ⟨B, i, none⟩ = some (.slice (some ⟨rb i, 0, none⟩) n n)
  cell : ∀ i j, i < k → j < n → w.cell? ⟨rb i, j, none⟩ = some (.bool (g i j))
  free : ∀ i j, i < k → w.frozen? ⟨rb i, j, none⟩ = false
  blo : lo ≤ B ∧ B < w.heap.size
  rlo : ∀ i, i < k → lo ≤ rb i ∧ rb i < w.heap.size ∧ rb i ≠ B
  inj : ∀ i j, i < k → j < k → rb i = rb j → i = j

theorem GridAt.kept {w w' : World} {lo B : Nat} {rb : Nat → Nat} {n k : Nat} {g : Nat → Nat → Bool} {row : Option Nat} (h : GridAt w lo B rb n k g) (hg : w.grownBy w' row) (hr : ∀ q, row = some q → q < lo ∨ w.heap.size ≤ q) : GridAt w' lo B rb n k g := by
  have hne : ∀ q, lo ≤ q → q < w.heap.size → some q ≠ row := fun q h1 h2 e => by rcases hr q e.symm with h | h <;> omega
  have hbl : ∀ q, lo ≤ q → q < w.heap.size → w'.heap[q]? = w.heap[q]? := fun q h1 h2 => hg.block q h2 (hne q h1 h2)
  refine ⟨fun i hi => ?_, fun i => ?_, fun i hi => ?_, fun i j hi hj => ?_, fun i j hi => ?_, ⟨h.blo.1, Nat.lt_of_lt_of_le h.blo.2 hg.size⟩, fun i hi => ⟨(h.rlo i hi).1, Nat.lt_of_lt_of_le (h.rlo i hi).2.1 hg.size, (h.rlo i hi).2.2⟩, h.inj⟩
  · rw [World.cell?_of_block (w := w) (hbl B h.blo.1 h.blo.2)]; exact h.top i hi
  · rw [World.frozen?_of_block (w := w) (hbl B h.blo.1 h.blo.2)]; exact h.topf i
  · rw [World.cell?_of_block (w := w) (hbl B h.blo.1 h.blo.2)]; exact h.row i hi
  · rw [World.cell?_of_block (w := w) (hbl _ (h.rlo i hi).1 (h.rlo i hi).2.1)]; exact h.cell i j hi hj
  · rw [World.frozen?_of_block (w := w) (hbl _ (h.rlo i hi).1 (h.rlo i hi).2.1)]; exact h.free i j hi

theorem GridAt.congr {w : World} {lo B : Nat} {rb : Nat → Nat} {n k : Nat} {g g' : Nat → Nat → Bool} (h : GridAt w lo B rb n k g) (he : ∀ i j, i < k → j < n → g i j = g' i j) : GridAt w lo B rb n k g' :=
  ⟨h.top, h.topf, h.row, fun i j hi hj => by rw [← he i j hi hj]; exact h.cell i j hi hj, h.free, h.blo, h.rlo, h.inj⟩

theorem cell_setCell {w : World} {p q : Addr} {v u : Value} (h : w.cell? p = some v) (hq : q.spot = none) : (w.setCell q u).cell? p = if p = q then some u else some v := by
  by_cases e : p = q
  · subst e; rw [if_pos rfl]; exact World.cell?_setCell_same _ _ _ h
  · rw [if_neg e]; exact (World.cell?_setCell_other _ _ _ _ (by exact fun x => e x.symm)).trans h

theorem GridAt.set {w : World} {lo B : Nat} {rb : Nat → Nat} {n k : Nat} {g : Nat → Nat → Bool} (h : GridAt w lo B rb n k g) {i j : Nat} (hi : i < k) (b : Bool) : GridAt (w.setCell ⟨rb i, j, none⟩ (.bool b)) lo B rb n k (upd2 g i j b) := by
  have hs : (w.setCell ⟨rb i, j, none⟩ (.bool b)).heap.size = w.heap.size := by simp [World.setCell]
  refine ⟨fun x hx => ?_, fun x => ?_, fun x hx => ?_, fun x y hx hy => ?_, fun x y hx => ?_, ⟨h.blo.1, by rw [hs]; exact h.blo.2⟩, fun x hx => by rw [hs]; exact h.rlo x hx, h.inj⟩
  · obtain ⟨v, hv⟩ := h.top x hx
    rw [cell_setCell hv rfl]; split <;> exact ⟨_, rfl⟩
  · exact (World.frozen?_setCell _ _ _ _).trans (h.topf x)
  · rw [cell_setCell (h.row x hx) rfl, if_neg (fun e => (h.rlo i hi).2.2 (congrArg Addr.block e).symm)]
  · rw [cell_setCell (h.cell x y hx hy) rfl]
    unfold upd2
    by_cases e : x = i ∧ y = j
    · obtain ⟨rfl, rfl⟩ := e; simp
    · rw [if_neg, if_neg e]
      intro e2
      exact e ⟨h.inj x i hx hi (congrArg Addr.block e2), congrArg Addr.off e2⟩
  · exact (World.frozen?_setCell _ _ _ _).trans (h.free x y hx)

/-- a row more: made, then stored at its place -/
theorem GridAt.add {w w' : World} {lo B : Nat} {rb : Nat → Nat} {n k : Nat} {g : Nat → Nat → Bool} (h : GridAt w lo B rb n k g) (hk : k < n) (hg : w.grownBy w' none) {q : Nat} (hq : w.heap.size ≤ q) (hq2 : q < w'.heap.size)
    (hc : ∀ j, j < n → w'.cell? ⟨q, j, none⟩ = some (.bool false)) (hf : ∀ j, w'.frozen? ⟨q, j, none⟩ = false) :
    GridAt (w'.setCell ⟨B, k, none⟩ (.slice (some ⟨q, 0, none⟩) n n)) lo B (fun i => if i = k then q else rb i) n (k + 1) (fun i j => if i = k then false else g i j) := by
  have h' := h.kept hg (fun q e => by cases e)
  have hs : (w'.setCell ⟨B, k, none⟩ (.slice (some ⟨q, 0, none⟩) n n)).heap.size = w'.heap.size := by simp [World.setCell]
  have hqB : q ≠ B := by have := h.blo.2; omega
  have hlo : lo ≤ q := by have := h.blo; omega
  have hqr : ∀ i, i < k → rb i ≠ q := fun i hi => by have := (h.rlo i hi).2.1; omega
  refine ⟨fun x hx => ?_, fun x => ?_, fun x hx => ?_, fun x y hx hy => ?_, fun x y hx => ?_, ⟨h.blo.1, by rw [hs]; exact h'.blo.2⟩, fun x hx => ?_, fun x y hx hy e => ?_⟩
  · obtain ⟨v, hv⟩ := h'.top x hx
    rw [cell_setCell hv rfl]; split <;> exact ⟨_, rfl⟩
  · exact (World.frozen?_setCell _ _ _ _).trans (h'.topf x)
  · by_cases e : x = k
    · subst e
      obtain ⟨v, hv⟩ := h'.top x hk
      rw [cell_setCell hv rfl, if_pos rfl, if_pos rfl]
    · rw [cell_setCell (h'.row x (by omega)) rfl, if_neg (fun e2 => e (congrArg Addr.off e2)), if_neg e]
  · by_cases e : x = k
    · subst e
      simp only [if_true]
      rw [cell_setCell (hc y hy) rfl, if_neg (fun e2 => hqB (congrArg Addr.block e2))]
    · simp only [if_neg e]
      rw [cell_setCell (h'.cell x y (by omega) hy) rfl, if_neg (fun e2 => (h'.rlo x (by omega)).2.2 (congrArg Addr.block e2))]
  · refine (World.frozen?_setCell _ _ _ _).trans ?_
    by_cases e : x = k
    · subst e; simp only [if_true]; exact hf y
    · simp only [if_neg e]; exact h'.free x y (by omega)
  · rw [hs]
    by_cases e : x = k
    · subst e; simp only [if_true]; exact ⟨hlo, hq2, hqB⟩
    · simp only [if_neg e]; exact h'.rlo x (by omega)
  · by_cases e1 : x = k <;> by_cases e2 : y = k
    · omega
    · simp only [if_pos e1, if_neg e2] at e; exact absurd e.symm (hqr y (by omega))
    · simp only [if_neg e1, if_pos e2] at e; exact absurd e (hqr x (by omega))
    · simp only [if_neg e1, if_neg e2] at e; exact h.inj x y (by omega) (by omega) e

end Go.Proofs.Ytfnjcjoomaeapaa
