/- Slices that a call owns: an append of one element, and how what is owned is read. -/
import Derived.Test.YtfnjcjoomaeapaaLib
namespace Go.Proofs.Ytfnjcjoomaeapaa
open Go.RowKit

def Own (w : World) (e : TypeId) (v : Value) (xs : List Value) : Prop := w.ownsRow 0 e 1 v xs.length xs

/-- the new value's block is the old one's or a new one -/
def FreshOr (w : World) (v v' : Value) : Prop := v'.ownBlock = v.ownBlock ∨ ∃ k, v'.ownBlock = some k ∧ w.heap.size ≤ k

theorem run_push {P : Program} (w : World) (t ty e : TypeId) (i : TypeInfo) (z : Value) (bytes : Nat) (ht : P.underlying t = some (.slice e)) (hi : P.info? e = some i) (hz : i.zero = some z)
    (hsize : i.size = 1) (hby : i.bytes = bytes) (hzs : z.cells.size = 1) (v : Value) (xs : List Value) (hown : Own w e v xs)
    (a : Addr) (c : Nat) (u : Value) (hu : w.cell? a = some u) (h1 : u.oneCell' = true)
    (h63 : xs.length + 1 ≤ maxLen) (hbytes : (xs.length + 1) * bytes ≤ 140737488355328) :
    ∃ v' w', (Builtin.append_ #[t, t] ty #[v, .slice (some a) 1 c]).run P w = .ok v' w' ∧ Own w' e v' (xs ++ [u]) ∧ w.grownBy w' v.ownBlock ∧ FreshOr w v v' := by
  have hnews : ∀ j x, [u][j]? = some x → w.cell? (a.add j) = some x := by
    intro j x hx
    rcases j with _ | j
    · simp at hx; subst hx
      have : a.add 0 = a := by unfold Addr.add; cases a; simp
      rw [this]; exact hu
    · simp at hx
  have hone : ∀ x ∈ [u], x.oneCell' = true := by intro x hx; simp at hx; subst hx; exact h1
  obtain ⟨v', w', hr, ho, hg, _⟩ := run_append_own (P := P) w 0 t ty e i z 1 bytes ht hi hz hsize hby hzs (by omega) v xs.length xs hown a 1 c [u] rfl hnews hone h63 hbytes (Nat.zero_le _)
  refine ⟨v', w', hr, by simpa [Own] using ho, hg, ?_⟩
  rcases hown.2 with ⟨rfl, hn⟩ | ⟨g, cap, cur, rfl, hbg, hgg, hnc, hcm, hcs, htake⟩
  · have hx : xs = [] := List.eq_nil_of_length_eq_zero hn
    subst hx
    obtain ⟨v2, w2, hr2, ho2, _, _⟩ := run_append_own (P := P) w w.heap.size t ty e i z 1 bytes ht hi hz hsize hby hzs (by omega) (.slice none 0 0) 0 [] (World.ownsRow_nil _ _ _ _) a 1 c [u] rfl hnews hone (by simpa using h63) (by simpa using hbytes) (Nat.le_refl _)
    rw [hr2] at hr
    injection hr with e1 e2
    subst e1; subst e2
    cases hv : v2.ownBlock with
    | none => exact .inl hv
    | some k => exact .inr ⟨k, hv, (ho2.lt k hv).1⟩
  · by_cases hroom : xs.length + 1 ≤ cap
    · have hr2 := run_append_room (P := P) w t ty e i ht hi g xs.length cap cur hgg a 1 c [u] (by simp [hsize]) hnews hone hroom (by simp [hsize, hcs]; omega)
      rw [hr2] at hr
      injection hr with e1 e2
      subst e1
      exact .inl rfl
    · have holds : ∀ j x, xs[j]? = some x → w.cell? ((⟨g, 0, none⟩ : Addr).add j) = some x := hown.cells (g := g) rfl
      have hr2 := run_append_grow (P := P) w t ty e i z ht hi hz ⟨g, 0, none⟩ xs.length cap xs (by simp [hsize]) holds a 1 c [u] (by simp [hsize]) hnews (by omega) (by unfold maxLen at h63; omega) (growslice_fits (by omega) (by rw [hby]; exact hbytes))
      rw [hr2] at hr
      injection hr with e1 e2
      subst e1
      exact .inr ⟨_, rfl, Nat.le_refl _⟩

theorem wpList_push {P : Program} (w : World) {ops : Array Oper} {rest : List Oper} {o : Oper} {a : Act} {Q : Exit → Act → World → Prop} (hgd : o.guard = none) (s x : Operand) (t : TypeId)
    (ho : o.op = .call { callee := .builtin .append, args := #[s, x], argTypes := #[t, t] })
    (e : TypeId) (i : TypeInfo) (z : Value) (bytes : Nat) (ht : P.underlying t = some (.slice e)) (hi : P.info? e = some i) (hz : i.zero = some z)
    (hsize : i.size = 1) (hby : i.bytes = bytes) (hzs : z.cells.size = 1) (v : Value) (xs : List Value) (hs : a.eval s = v) (hown : Own w e v xs)
    (ad : Addr) (c : Nat) (u : Value) (hx : a.eval x = .slice (some ad) 1 c) (hu : w.cell? ad = some u) (h1 : u.oneCell' = true)
    (h63 : xs.length + 1 ≤ maxLen) (hbytes : (xs.length + 1) * bytes ≤ 140737488355328)
    (h : ∀ v' w', Own w' e v' (xs ++ [u]) → w.grownBy w' v.ownBlock → FreshOr w v v' → wpList P ops Q rest (a.put o.dst v') w') : wpList P ops Q (o :: rest) a w := by
  refine wpList_plain hgd fun K hK => ?_
  obtain ⟨v', w', hr, h2, h3, h4⟩ := run_push (P := P) w t o.type e i z bytes ht hi hz hsize hby hzs v xs hown ad c u hu h1 h63 hbytes
  unfold Oper.wp execOp
  simp only [ho, resolve, invoke, builtin, Sem.run_bind, Sem.run_pure, Result.andThen_ok, List.map_toArray, List.map_cons, List.map_nil, hs, hx, hr]
  exact hK _ _ (h v' w' h2 h3 h4)

theorem Own.nil (w : World) (e : TypeId) : Own w e (.slice none 0 0) [] := World.ownsRow_nil w 0 e 1
theorem Own.alloc {w : World} {e : TypeId} {v : Value} {xs : List Value} (h : Own w e v xs) (o : Obj) : Own (w.alloc o) e v xs := World.ownsRow.alloc h o
theorem Own.kept {w w' : World} {e : TypeId} {v : Value} {xs : List Value} {row : Option Nat} (h : Own w e v xs) (hg : w.grownBy w' row) (hne : v.ownBlock = none ∨ v.ownBlock ≠ row) : Own w' e v xs := World.ownsRow.kept h hg hne
theorem Own.lt {w : World} {e : TypeId} {v : Value} {xs : List Value} (h : Own w e v xs) {k : Nat} (hk : v.ownBlock = some k) : k < w.heap.size := (World.ownsRow.lt h k hk).2
theorem Own.drew {a b : World} {e : TypeId} {v : Value} {xs : List Value} (h : Own a e v xs) (d : Drew a b) : Own b e v xs := by
  obtain ⟨n, rfl⟩ := d; exact h

/-- how what is owned is read -/
theorem Own.shape {w : World} {e : TypeId} {v : Value} {xs : List Value} (h : Own w e v xs) :
    ∃ a cap, v = .slice a xs.length cap ∧ (∀ i, (hi : i < xs.length) → ∃ b, a = some ⟨b, 0, none⟩ ∧ v.ownBlock = some b ∧ b < w.heap.size ∧ w.cell? ⟨b, 0 + i, none⟩ = some xs[i]) := by
  rcases h.2 with ⟨rfl, hn⟩ | ⟨g, cap, cur, rfl, hbg, hgg, hnc, hcm, hcs, htake⟩
  · exact ⟨none, 0, by simp [hn], fun i hi => by omega⟩
  · refine ⟨some ⟨g, 0, none⟩, cap, rfl, fun i hi => ⟨g, rfl, rfl, World.ownsRow.lt h g rfl |>.2, ?_⟩⟩
    have := World.ownsRow.cells h (g := g) rfl i xs[i] (List.getElem?_eq_getElem hi)
    rw [show (⟨g, 0, none⟩ : Addr).add i = ⟨g, 0 + i, none⟩ by unfold Addr.add; split <;> simp_all] at this
    exact this

theorem Own.ints {w : World} {v : Value} {xs : List Int} (h : Own w 3 v (xs.map (Value.int .i64))) (hl : xs.length ≤ 9223372036854775807) : IntsAt w v xs := by
  obtain ⟨a, cap, hv, hc⟩ := h.shape
  refine ⟨a, cap, by simpa using hv, hl, fun i hi => ?_⟩
  obtain ⟨b, ha, _, hb, hcell⟩ := hc i (by simpa using hi)
  refine ⟨b, 0, ha, hb, ?_⟩
  rw [hcell]
  simp [gI, hi]

theorem Own.bools {w : World} {v : Value} {xs : List Bool} (h : Own w 4 v (xs.map Value.bool)) (hl : xs.length ≤ 9223372036854775807) : BoolsAt w v xs := by
  obtain ⟨a, cap, hv, hc⟩ := h.shape
  refine ⟨a, cap, by simpa using hv, hl, fun i hi => ?_⟩
  obtain ⟨b, ha, _, hb, hcell⟩ := hc i (by simpa using hi)
  refine ⟨b, 0, ha, hb, ?_⟩
  rw [hcell]
  simp [gB, hi]

theorem IntsAt.kept {w w' : World} {v : Value} {xs : List Int} {row : Option Nat} (h : IntsAt w v xs) (hg : w.grownBy w' row) (hne : v.ownBlock = none ∨ v.ownBlock ≠ row) : IntsAt w' v xs := by
  obtain ⟨a, c, rfl, hl, hx⟩ := h
  refine ⟨a, c, rfl, hl, fun i hi => ?_⟩
  obtain ⟨b, off, ha, hb, hc⟩ := hx i hi
  subst ha
  refine ⟨b, off, rfl, Nat.lt_of_lt_of_le hb hg.size, hg.cell hc ?_⟩
  simpa [Value.ownBlock] using hne

theorem heap_alloc_get (w : World) (o : Obj) (k : Nat) : (w.alloc o).heap[k]? = if k = w.heap.size then some o else w.heap[k]? := by
  show (w.heap.push o)[k]? = _
  rw [Array.getElem?_push]
theorem heap_new' (w : World) (o : Obj) (k : Nat) (h : k = w.heap.size) : (w.alloc o).heap[k]? = some o := by
  rw [heap_alloc_get, if_pos h]
theorem heap_old' (w : World) (o : Obj) (k : Nat) (h : k < w.heap.size) : (w.alloc o).heap[k]? = w.heap[k]? := by
  rw [heap_alloc_get, if_neg (by omega)]
theorem cell_new1 (w : World) (v : Value) (t : TypeId) : (w.alloc (.cells #[v] t)).cell? ⟨w.heap.size, 0, none⟩ = some v := by
  rw [World.cell?_alloc_at _ _ _ _ rfl]; rfl
theorem gb_new {a b c : World} {row row2 : Option Nat} (h : a.grownBy b row) (k : b.grownBy c row2) (hr : ∀ q, row2 = some q → a.heap.size ≤ q) : a.grownBy c row :=
  ⟨k.os.trans h.os, k.tape.trans h.tape, k.output.trans h.output, Nat.le_trans h.size k.size, fun i hi hne => (k.block i (Nat.lt_of_lt_of_le hi h.size) (fun e => by have := hr i e.symm; omega)).trans (h.block i hi hne)⟩
theorem Own.oneCell {w : World} {e : TypeId} {v : Value} {xs : List Value} (h : Own w e v xs) : v.oneCell' = true := by
  rcases h.2 with ⟨rfl, _⟩ | ⟨g, cap, cur, rfl, _⟩ <;> rfl
theorem FreshOr.ge {w : World} {v v' : Value} {lo : Nat} (h : FreshOr w v v') (hlo : ∀ k, v.ownBlock = some k → lo ≤ k) (hs : lo ≤ w.heap.size) : ∀ k, v'.ownBlock = some k → lo ≤ k := by
  intro k hk
  rcases h with e | ⟨q, e, hq⟩
  · exact hlo k (e ▸ hk)
  · rw [e] at hk; cases hk; omega
theorem ExtW.alloc (w : World) (o : Obj) : ExtW w (w.alloc o) := ExtW.of_below ((Below.refl _ _).alloc (Nat.le_refl _) o)
theorem ExtW.grown {w w' : World} (hg : w.grownBy w' none) : ExtW w w' := ⟨hg.size, fun a v h => hg.cell h (by simp)⟩

theorem Try.info3 : (Try.prog.info? 3).map (fun i => (i.zero, i.size, i.bytes)) = some (some (.int .i64 0), 1, 8) := by kernel_rfl
theorem Try.info4 : (Try.prog.info? 4).map (fun i => (i.zero, i.size, i.bytes)) = some (some (.bool false), 1, 1) := by kernel_rfl
theorem Try.info22 : (Try.prog.info? 22).map (fun i => (i.zero, i.size, i.bytes)) = some (some (.slice none 0 0), 1, 24) := by kernel_rfl
theorem Try.info34 : (Try.prog.info? 34).map (fun i => (i.zero, i.size, i.bytes)) = some (some (.slice none 0 0), 1, 24) := by kernel_rfl

end Go.Proofs.Ytfnjcjoomaeapaa
