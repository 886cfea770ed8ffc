/- Plain: what a fund reaches; no condition. -/
import Derived.Test.YtfnjcjoomaeapaaLib
namespace Go.Proofs.Ytfnjcjoomaeapaa

def Pth (E : Nat → Nat → Prop) : Nat → Nat → Nat → Prop
  | 0, i, j => i = j
  | k + 1, i, j => ∃ m, E i m ∧ Pth E k m j
def Rch (E : Nat → Nat → Prop) (i j : Nat) : Prop := ∃ k, Pth E k i j

theorem Rch.refl (E : Nat → Nat → Prop) (i : Nat) : Rch E i i := ⟨0, rfl⟩
theorem Rch.head {E : Nat → Nat → Prop} {i m j : Nat} (h : E i m) (k : Rch E m j) : Rch E i j := by
  obtain ⟨n, hn⟩ := k; exact ⟨n + 1, m, h, hn⟩
theorem Rch.edge {E : Nat → Nat → Prop} {i j : Nat} (h : E i j) : Rch E i j := .head h (.refl E j)
theorem Rch.trans {E : Nat → Nat → Prop} {i m j : Nat} (h : Rch E i m) (k : Rch E m j) : Rch E i j := by
  obtain ⟨n, hn⟩ := h
  induction n generalizing i with
  | zero => cases hn; exact k
  | succ n ih => obtain ⟨x, hx, hp⟩ := hn; exact .head hx (ih hp)
theorem Rch.ind {E : Nat → Nat → Prop} {P : Nat → Prop} (step : ∀ a b, P a → E a b → P b) {i j : Nat} (h : Rch E i j) (hi : P i) : P j := by
  obtain ⟨n, hn⟩ := h
  induction n generalizing i with
  | zero => cases hn; exact hi
  | succ n ih => obtain ⟨x, hx, hp⟩ := hn; exact ih (step _ _ hi hx) hp

def upd (m : Nat → Bool) (i : Nat) : Nat → Bool := fun v => if v = i then true else m v
def cnt (m : Nat → Bool) : Nat := (List.range 8).countP (fun v => !m v)

theorem countP_le_of {α : Type} {p q : α → Bool} (l : List α) (h : ∀ x ∈ l, p x = true → q x = true) : l.countP p ≤ l.countP q := List.countP_mono_left h
theorem countP_lt_of {α : Type} {p q : α → Bool} : ∀ (l : List α), (∀ x ∈ l, p x = true → q x = true) → (∃ x ∈ l, q x = true ∧ p x = false) → l.countP p < l.countP q
  | [], _, h => by obtain ⟨x, hx, _⟩ := h; cases hx
  | a :: l, h, hx => by
    simp only [List.countP_cons]
    have hl : l.countP p ≤ l.countP q := countP_le_of l fun x hx => h x (List.mem_cons_of_mem _ hx)
    obtain ⟨x, hx, hq, hp⟩ := hx
    rcases List.mem_cons.1 hx with rfl | hx
    · simp [hq, hp]; omega
    · have := countP_lt_of l (fun x hx => h x (List.mem_cons_of_mem _ hx)) ⟨x, hx, hq, hp⟩
      by_cases ha : p a = true
      · simp [ha, h a List.mem_cons_self ha]; omega
      · simp [ha]; split <;> omega
theorem cnt_mono {m m' : Nat → Bool} (h : ∀ v, m v = true → m' v = true) : cnt m' ≤ cnt m :=
  countP_le_of _ fun x _ hx => by cases hm : m x <;> simp_all
theorem cnt_upd {m : Nat → Bool} {i : Nat} (hi : i < 8) (hm : m i = false) : cnt (upd m i) < cnt m :=
  countP_lt_of _ (fun x _ hx => by unfold upd at hx; split at hx <;> simp_all) ⟨i, by simp; omega, by simp [hm], by simp [upd]⟩

structure DfsPost (E : Nat → Nat → Prop) (m m' : Nat → Bool) (i : Nat) : Prop where
  keep : ∀ v, m v = true → m' v = true
  self : m' i = true
  new : ∀ v, m' v = true → m v = true ∨ Rch E i v
  closed : ∀ v, m' v = true → m v = false → ∀ u, E v u → m' u = true

/-- in the midst of fund i: its first j neighbours are done -/
structure DfsMid (E : Nat → Nat → Prop) (m mk : Nat → Bool) (i j : Nat) : Prop where
  keep : ∀ v, m v = true → mk v = true
  self : mk i = true
  new : ∀ v, mk v = true → m v = true ∨ Rch E i v
  closed : ∀ v, mk v = true → m v = false → v ≠ i → ∀ u, E v u → mk u = true
  done : ∀ u, u < j → E i u → mk u = true

theorem DfsMid.start {E : Nat → Nat → Prop} {m : Nat → Bool} {i : Nat} : DfsMid E m (upd m i) i 0 :=
  ⟨fun v h => by unfold upd; split <;> simp_all, by simp [upd], fun v h => by
    unfold upd at h; split at h
    · subst_vars; exact .inr (.refl _ _)
    · exact .inl h, fun v h hm hne => by simp [upd, hne, hm] at h, fun u hu => by omega⟩

theorem DfsMid.skip {E : Nat → Nat → Prop} {m mk : Nat → Bool} {i j : Nat} (h : DfsMid E m mk i j) (hE : ¬ E i j) : DfsMid E m mk i (j + 1) :=
  ⟨h.keep, h.self, h.new, h.closed, fun u hu he => by
    by_cases e : u = j
    · subst e; exact absurd he hE
    · exact h.done u (by omega) he⟩

theorem DfsMid.step {E : Nat → Nat → Prop} {m mk m' : Nat → Bool} {i j : Nat} (h : DfsMid E m mk i j) (hE : E i j) (hp : DfsPost E mk m' j) : DfsMid E m m' i (j + 1) :=
  ⟨fun v hv => hp.keep v (h.keep v hv), hp.keep _ h.self, fun v hv => by
    rcases hp.new v hv with h1 | h1
    · exact h.new v h1
    · exact .inr (.head hE h1),
   fun v hv hm hne u hu => by
    by_cases e : mk v = true
    · exact hp.keep u (h.closed v e hm hne u hu)
    · exact hp.closed v hv (by simpa using e) u hu,
   fun u hu he => by
    by_cases e : u = j
    · subst e; exact hp.self
    · exact hp.keep u (h.done u (by omega) he)⟩

theorem DfsMid.post {E : Nat → Nat → Prop} {m mk : Nat → Bool} {i j : Nat} (h : DfsMid E m mk i j) (hall : ∀ u, E i u → u < j) : DfsPost E m mk i :=
  ⟨h.keep, h.self, h.new, fun v hv hm u hu => by
    by_cases e : v = i
    · subst e; exact h.done u (hall u hu) hu
    · exact h.closed v hv hm e u hu⟩

theorem DfsPost.same {E : Nat → Nat → Prop} {m : Nat → Bool} {i : Nat} (h : m i = true) : DfsPost E m m i :=
  ⟨fun _ h => h, h, fun _ h => .inl h, fun v h1 h2 => by simp [h1] at h2⟩

/-- from nothing: just what is reached -/
theorem DfsPost.all {E : Nat → Nat → Prop} {m' : Nat → Bool} {i : Nat} (h : DfsPost E (fun _ => false) m' i) (v : Nat) : m' v = true ↔ Rch E i v := by
  constructor
  · intro hv; rcases h.new v hv with h1 | h1
    · cases h1
    · exact h1
  · intro hr; exact hr.ind (P := fun v => m' v = true) (fun a b ha he => h.closed a ha rfl b he) h.self

def Edge (n : Nat) (hs : List (List Int)) (i j : Nat) : Prop := i < n ∧ j < n ∧ 0 < Hd hs i j
open Classical in
noncomputable def rB (n : Nat) (hs : List (List Int)) (i j : Nat) : Bool := decide (Rch (Edge n hs) i j)
theorem rB_iff {n : Nat} {hs : List (List Int)} {i j : Nat} : rB n hs i j = true ↔ Rch (Edge n hs) i j := by simp [rB]

end Go.Proofs.Ytfnjcjoomaeapaa
