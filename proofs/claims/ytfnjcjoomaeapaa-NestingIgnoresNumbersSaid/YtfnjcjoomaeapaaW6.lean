/- walks: parts -/
import Derived.Test.YtfnjcjoomaeapaaW5
import Derived.Test.YtfnjcjoomaeapaaParts
namespace Go.Proofs.Ytfnjcjoomaeapaa
open Go.RowKit

theorem blk_set {w : World} {B : Nat} {cs : Array Value} {t : TypeId} (h : w.heap[B]? = some (.cells cs t (0, 0))) (o : Nat) (v : Value) :
    (w.setCell ⟨B, o, none⟩ v).heap[B]? = some (.cells (cs.setIfInBounds o v) t (0, 0)) := by
  simp [World.setCell, Array.getElem?_modify, h]

/-- the block of all marks: the first k rows are filled -/
def AllAt (w : World) (B : Nat) (R : Nat → Nat → Bool) (k : Nat) : Prop :=
  ∃ cs : Array Value, w.heap[B]? = some (.cells cs 56 (0, 0)) ∧ cs.size = 64 ∧ ∀ i, i < k → ∀ j, j < 8 → cs[i * 8 + j]? = some (.bool (R i j))

theorem AllAt.cell {w : World} {B : Nat} {R : Nat → Nat → Bool} {k : Nat} (h : AllAt w B R k) {i j : Nat} (hi : i < k) (hj : j < 8) : w.cell? ⟨B, i * 8 + j, none⟩ = some (.bool (R i j)) := by
  obtain ⟨cs, hb, hs, hc⟩ := h
  rw [heap_cell hb]; exact hc i hi j hj
theorem AllAt.kept {w w' : World} {B : Nat} {R : Nat → Nat → Bool} {k : Nat} {row : Option Nat} (h : AllAt w B R k) (hg : w.grownBy w' row) (hne : some B ≠ row) : AllAt w' B R k := by
  obtain ⟨cs, hb, hs, hc⟩ := h
  exact ⟨cs, by rw [hg.block B (Array.getElem?_eq_some_iff.1 hb).1 hne]; exact hb, hs, hc⟩
theorem AllAt.any {w : World} {B : Nat} {R : Nat → Nat → Bool} {k : Nat} (h : AllAt w B R k) {c : Nat} (hc : c < 64) : ∃ v, w.cell? ⟨B, c, none⟩ = some v := by
  obtain ⟨cs, hb, hs, _⟩ := h
  rw [heap_cell hb]
  exact ⟨cs[c], Array.getElem?_eq_getElem (by omega)⟩
theorem AllAt.free {w : World} {B : Nat} {R : Nat → Nat → Bool} {k : Nat} (h : AllAt w B R k) (c : Nat) : w.frozen? ⟨B, c, none⟩ = false := by
  obtain ⟨cs, hb, _⟩ := h
  exact heap_free hb c
theorem AllAt.lt {w : World} {B : Nat} {R : Nat → Nat → Bool} {k : Nat} (h : AllAt w B R k) : B < w.heap.size := by
  obtain ⟨cs, hb, _⟩ := h
  exact (Array.getElem?_eq_some_iff.1 hb).1
theorem MarksAt.kept {w w' : World} {B : Nat} {m : Nat → Bool} {row : Option Nat} (h : MarksAt w B m) (hg : w.grownBy w' row) (hne : some B ≠ row) : MarksAt w' B m := by
  unfold MarksAt at *
  rw [hg.block B (Array.getElem?_eq_some_iff.1 h).1 hne]; exact h
theorem AllAt.store {w : World} {B : Nat} {R : Nat → Nat → Bool} {i : Nat} (h : AllAt w B R i) (hi : i < 8) :
    AllAt ((((((((w.setCell ⟨B, i * 8, none⟩ (.bool (R i 0))).setCell ⟨B, i * 8 + 1, none⟩ (.bool (R i 1))).setCell ⟨B, i * 8 + 2, none⟩ (.bool (R i 2))).setCell ⟨B, i * 8 + 3, none⟩ (.bool (R i 3))).setCell ⟨B, i * 8 + 4, none⟩ (.bool (R i 4))).setCell ⟨B, i * 8 + 5, none⟩ (.bool (R i 5))).setCell ⟨B, i * 8 + 6, none⟩ (.bool (R i 6))).setCell ⟨B, i * 8 + 7, none⟩ (.bool (R i 7))) B R (i + 1) := by
  obtain ⟨cs, hb, hs, hc⟩ := h
  refine ⟨_, blk_set (blk_set (blk_set (blk_set (blk_set (blk_set (blk_set (blk_set hb _ _) _ _) _ _) _ _) _ _) _ _) _ _) _ _, by simp [hs], fun x hx j hj => ?_⟩
  by_cases e : x = i
  · subst e
    have : j = 0 ∨ j = 1 ∨ j = 2 ∨ j = 3 ∨ j = 4 ∨ j = 5 ∨ j = 6 ∨ j = 7 := by omega
    rcases this with rfl | rfl | rfl | rfl | rfl | rfl | rfl | rfl <;> simp [Array.getElem?_setIfInBounds, hs] <;> omega
  · rw [Array.getElem?_setIfInBounds_ne (by omega), Array.getElem?_setIfInBounds_ne (by omega), Array.getElem?_setIfInBounds_ne (by omega), Array.getElem?_setIfInBounds_ne (by omega),
      Array.getElem?_setIfInBounds_ne (by omega), Array.getElem?_setIfInBounds_ne (by omega), Array.getElem?_setIfInBounds_ne (by omega), Array.getElem?_setIfInBounds_ne (by omega)]
    exact hc x (by omega) j hj

/-- the parts so far -/
def RowsOwn (w : World) (v : Value) (hs : List (List Int)) (lo : Nat) : Prop :=
  ∃ rs : List Value, Own w 22 v rs ∧ rs.length = hs.length ∧ (∀ k, v.ownBlock = some k → lo ≤ k) ∧
    ∀ i, i < hs.length → ∃ r, rs[i]? = some r ∧ IntsAt w r (gR hs i) ∧ (∀ k, r.ownBlock = some k → lo ≤ k ∧ k < w.heap.size ∧ some k ≠ v.ownBlock)

theorem RowsOwn.nil (w : World) (lo : Nat) : RowsOwn w (.slice none 0 0) [] lo := ⟨[], Own.nil w 22, rfl, fun k hk => by simp [Value.ownBlock] at hk, fun i hi => by simp at hi⟩

theorem RowsOwn.kept {w w' : World} {v : Value} {hs : List (List Int)} {lo : Nat} {row : Option Nat} (h : RowsOwn w v hs lo) (hg : w.grownBy w' row) (hrow : ∀ k, row = some k → k < lo ∨ w.heap.size ≤ k) : RowsOwn w' v hs lo := by
  obtain ⟨rs, ho, hl, hlo, hr⟩ := h
  have hne : ∀ k, lo ≤ k → k < w.heap.size → some k ≠ row := fun k h1 h2 e => by rcases hrow k e.symm with h | h <;> omega
  refine ⟨rs, ho.kept hg ?_, hl, hlo, fun i hi => ?_⟩
  · cases hv : v.ownBlock with
    | none => exact .inl rfl
    | some k => exact .inr (hne k (hlo k hv) (ho.lt hv))
  · obtain ⟨r, h1, h2, h3⟩ := hr i hi
    refine ⟨r, h1, h2.kept hg ?_, fun k hk => ⟨(h3 k hk).1, Nat.lt_of_lt_of_le (h3 k hk).2.1 hg.size, (h3 k hk).2.2⟩⟩
    cases hv : r.ownBlock with
    | none => exact .inl rfl
    | some k => exact .inr (hne k (h3 k hv).1 (h3 k hv).2.1)

/-- one part more -/
theorem RowsOwn.push {w w' : World} {v v' r : Value} {hs : List (List Int)} {xs : List Int} {lo : Nat} {rs : List Value} (ho : Own w 22 v rs) (hl : rs.length = hs.length) (hlo : ∀ k, v.ownBlock = some k → lo ≤ k)
    (hr : ∀ i, i < hs.length → ∃ r, rs[i]? = some r ∧ IntsAt w r (gR hs i) ∧ (∀ k, r.ownBlock = some k → lo ≤ k ∧ k < w.heap.size ∧ some k ≠ v.ownBlock))
    (hx : IntsAt w r xs) (hxb : ∀ k, r.ownBlock = some k → lo ≤ k ∧ k < w.heap.size ∧ some k ≠ v.ownBlock) (hsz : lo ≤ w.heap.size)
    (ho' : Own w' 22 v' (rs ++ [r])) (hg : w.grownBy w' v.ownBlock) (hf : FreshOr w v v') : RowsOwn w' v' (hs ++ [xs]) lo := by
  have hne : ∀ k, k < w.heap.size → some k ≠ v.ownBlock → some k ≠ v'.ownBlock := fun k h1 h2 h3 => by
    rcases hf with e | ⟨q, e, hq⟩
    · exact h2 (h3.trans e)
    · rw [e] at h3; cases h3; omega
  refine ⟨rs ++ [r], ho', by simp [hl], fun k hk => ?_, fun i hi => ?_⟩
  · rcases hf with e | ⟨q, e, hq⟩
    · exact hlo k (e ▸ hk)
    · rw [e] at hk; cases hk; omega
  · by_cases e : i = hs.length
    · subst e
      refine ⟨r, by rw [← hl]; simp, ?_, fun k hk => ⟨(hxb k hk).1, Nat.lt_of_lt_of_le (hxb k hk).2.1 hg.size, hne k (hxb k hk).2.1 (hxb k hk).2.2⟩⟩
      have : gR (hs ++ [xs]) hs.length = xs := by simp [gR]
      rw [this]
      refine hx.kept hg ?_
      cases hv : r.ownBlock with
      | none => exact .inl rfl
      | some k => exact .inr (hxb k hv).2.2
    · have hi' : i < hs.length := by simp at hi; omega
      obtain ⟨q, h1, h2, h3⟩ := hr i hi'
      refine ⟨q, ?_, ?_, fun k hk => ⟨(h3 k hk).1, Nat.lt_of_lt_of_le (h3 k hk).2.1 hg.size, hne k (h3 k hk).2.1 (h3 k hk).2.2⟩⟩
      · rw [List.getElem?_append_left (by omega)]; exact h1
      · have : gR (hs ++ [xs]) i = gR hs i := by simp [gR, List.getElem?_append_left hi']
        rw [this]
        refine h2.kept hg ?_
        cases hv : q.ownBlock with
        | none => exact .inl rfl
        | some k => exact .inr (h3 k hv).2.2

theorem RowsOwn.rows {w : World} {v : Value} {hs : List (List Int)} {lo : Nat} (h : RowsOwn w v hs lo) (hl : hs.length ≤ 9223372036854775807) : RowsAt w v hs := by
  obtain ⟨rs, ho, hlen, hlo, hr⟩ := h
  obtain ⟨a, cap, hv, hc⟩ := ho.shape
  refine ⟨a, cap, by rw [hv, hlen], hl, fun i hi => ?_⟩
  obtain ⟨b, ha, _, hb, hcell⟩ := hc i (by omega)
  obtain ⟨r, h1, h2, _⟩ := hr i hi
  refine ⟨b, 0, r, ha, hb, ?_, h2⟩
  rw [hcell]
  rw [List.getElem?_eq_getElem (by omega)] at h1
  exact h1

end Go.Proofs.Ytfnjcjoomaeapaa
