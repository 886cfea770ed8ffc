/- Memory: the funds that are made -/
import Derived.Test.YtfnjcjoomaeapaaW16
import Derived.Test.YtfnjcjoomaeapaaFw
namespace Go.Proofs.Ytfnjcjoomaeapaa
open Go.RowKit

/-- n cells of one value in a block that is not frozen -/
structure UZ (w : World) (q n : Nat) (z : Value) : Prop where
  cell : ∀ j, j < n → w.cell? ⟨q, j, none⟩ = some z
  free : ∀ j, w.frozen? ⟨q, j, none⟩ = false
  lt : q < w.heap.size
theorem UZ.mk' {w : World} {e : TypeId} {z : Value} {q n : Nat} (h : w.ownsRow 0 e 1 (.slice (some ⟨q, 0, none⟩) n n) n (madeCells #[z] (n * 1)).toList) : UZ w q n z :=
  ⟨fun j hj => by rw [World.ownsRow.cellAt h j (by omega), toList_madeCells_one]; simp [hj], World.ownsRow.frozenAt h, (World.ownsRow.lt h _ rfl).2⟩
theorem UZ.g {w w' : World} {q n : Nat} {z : Value} (h : UZ w q n z) (hg : w.grownBy w' none) : UZ w' q n z :=
  ⟨fun j hj => hg.cell (h.cell j hj) (by simp), fun j => by rw [World.frozen?_of_block (w := w) (hg.block q h.lt (by simp))]; exact h.free j, Nat.lt_of_lt_of_le h.lt hg.size⟩
theorem UZ.s {w : World} {q n b o : Nat} {z v : Value} (h : UZ w q n z) (hne : q ≠ b) : UZ (w.setCell ⟨b, o, none⟩ v) q n z :=
  ⟨fun j hj => by rw [cell_setCell (h.cell j hj) rfl, if_neg (fun e => hne (congrArg Addr.block e))], fun j => (World.frozen?_setCell _ _ _ _).trans (h.free j), by simpa [World.setCell] using h.lt⟩

/-- the funds in the making: the units, the first j rows of what is held -/
structure NG (w0 w wj : World) (bt : Nat) (L : Value) (l : List Int) (n Bx Bu Bh : Nat) (R : Nat → Nat) (j : Nat) (U : Nat → Int) (H : Nat → Nat → Int) : Prop where
  tape : TapeEnv w0 wj bt L l
  gr : w.grownBy wj (some bt)
  res : wj.heap[w.heap.size]? = some (.cells #[.slice none 0 0, .slice none 0 0] 25 (0, 0))
  box : wj.heap[Bx]? = some (.cells #[.slice (some ⟨Bu, 0, none⟩) n n, .slice (some ⟨Bh, 0, none⟩) n n] 25 (0, 0))
  unit : ∀ k, k < n → wj.cell? ⟨Bu, k, none⟩ = some (.int .i64 (U k))
  ufree : ∀ k, wj.frozen? ⟨Bu, k, none⟩ = false
  row : ∀ k, k < j → wj.cell? ⟨Bh, k, none⟩ = some (.slice (some ⟨R k, 0, none⟩) n n)
  nil : ∀ k, j ≤ k → k < n → wj.cell? ⟨Bh, k, none⟩ = some (.slice none 0 0)
  hfree : ∀ k, wj.frozen? ⟨Bh, k, none⟩ = false
  ent : ∀ k i, k < j → i < n → wj.cell? ⟨R k, i, none⟩ = some (.int .i64 (H k i))
  efree : ∀ k i, k < j → wj.frozen? ⟨R k, i, none⟩ = false
  ne : Bx ≠ Bu ∧ Bx ≠ Bh ∧ Bu ≠ Bh
  lo : w.heap.size < Bx ∧ w.heap.size < Bu ∧ w.heap.size < Bh
  hi : Bx < wj.heap.size ∧ Bu < wj.heap.size ∧ Bh < wj.heap.size
  rlo : ∀ k, k < j → w.heap.size < R k ∧ R k < wj.heap.size ∧ R k ≠ Bx ∧ R k ≠ Bu ∧ R k ≠ Bh
  inj : ∀ i k, i < j → k < j → R i = R k → i = k
  lt : bt < w.heap.size

theorem NG.kept {w0 w wj wk : World} {bt : Nat} {L : Value} {l : List Int} {n Bx Bu Bh : Nat} {R : Nat → Nat} {j : Nat} {U : Nat → Int} {H : Nat → Nat → Int} (h : NG w0 w wj bt L l n Bx Bu Bh R j U H)
    (ht : TapeEnv w0 wk bt L l) (hg : wj.grownBy wk (some bt)) : NG w0 w wk bt L l n Bx Bu Bh R j U H := by
  have hb : ∀ q, w.heap.size ≤ q → q < wj.heap.size → wk.heap[q]? = wj.heap[q]? := fun q h1 h2 => hg.block q h2 (by have := h.lt; simp; omega)
  have hc : ∀ q o, w.heap.size ≤ q → q < wj.heap.size → wk.cell? ⟨q, o, none⟩ = wj.cell? ⟨q, o, none⟩ := fun q o h1 h2 => World.cell?_of_block (w := wj) (hb q h1 h2)
  have hf : ∀ q o, w.heap.size ≤ q → q < wj.heap.size → wk.frozen? ⟨q, o, none⟩ = wj.frozen? ⟨q, o, none⟩ := fun q o h1 h2 => World.frozen?_of_block (w := wj) (hb q h1 h2)
  have hs := hg.size
  obtain ⟨a1, a2, a3⟩ := h.lo
  obtain ⟨b1, b2, b3⟩ := h.hi
  refine ⟨ht, grownBy_trans h.gr hg, ?_, ?_, fun k hk => ?_, fun k => ?_, fun k hk => ?_, fun k hk hn => ?_, fun k => ?_, fun k i hk hi => ?_, fun k i hk => ?_, h.ne, h.lo, ⟨by omega, by omega, by omega⟩, fun k hk => ?_, h.inj, h.lt⟩
  · rw [hb _ (Nat.le_refl _) (by omega)]; exact h.res
  · rw [hb _ (by omega) b1]; exact h.box
  · rw [hc _ _ (by omega) b2]; exact h.unit k hk
  · rw [hf _ _ (by omega) b2]; exact h.ufree k
  · rw [hc _ _ (by omega) b3]; exact h.row k hk
  · rw [hc _ _ (by omega) b3]; exact h.nil k hk hn
  · rw [hf _ _ (by omega) b3]; exact h.hfree k
  · have r := h.rlo k hk; rw [hc _ _ (by omega) r.2.1]; exact h.ent k i hk hi
  · have r := h.rlo k hk; rw [hf _ _ (by omega) r.2.1]; exact h.efree k i hk
  · have r := h.rlo k hk; exact ⟨r.1, by omega, r.2.2⟩

theorem NG.new {w0 w wj wk : World} {bt : Nat} {L : Value} {l : List Int} {n Bx Bu Bh : Nat} {R : Nat → Nat} {j : Nat} {U : Nat → Int} {H : Nat → Nat → Int} (h : NG w0 w wj bt L l n Bx Bu Bh R j U H)
    (hg : wj.grownBy wk none) : NG w0 w wk bt L l n Bx Bu Bh R j U H :=
  h.kept (h.tape.grown hg (by simp) (fun q e => by cases e)) (gb_up hg)
where
  gb_up {a b : World} {q : Nat} (hg : a.grownBy b none) : a.grownBy b (some q) := ⟨hg.os, hg.tape, hg.output, hg.size, fun i hi _ => hg.block i hi (by simp)⟩

/-- what a store at a block of the funds leaves -/
theorem NG.set {w0 w wj : World} {bt : Nat} {L : Value} {l : List Int} {n Bx Bu Bh : Nat} {R : Nat → Nat} {j : Nat} {U : Nat → Int} {H : Nat → Nat → Int} (h : NG w0 w wj bt L l n Bx Bu Bh R j U H)
    {b o : Nat} (v : Value) (hb : w.heap.size < b) (hx : b ≠ Bx) {U' : Nat → Int} {H' : Nat → Nat → Int} {j' : Nat} {R' : Nat → Nat}
    (hu : ∀ k, k < n → (wj.setCell ⟨b, o, none⟩ v).cell? ⟨Bu, k, none⟩ = some (.int .i64 (U' k)))
    (hr : ∀ k, k < j' → (wj.setCell ⟨b, o, none⟩ v).cell? ⟨Bh, k, none⟩ = some (.slice (some ⟨R' k, 0, none⟩) n n))
    (hn : ∀ k, j' ≤ k → k < n → (wj.setCell ⟨b, o, none⟩ v).cell? ⟨Bh, k, none⟩ = some (.slice none 0 0))
    (he : ∀ k i, k < j' → i < n → (wj.setCell ⟨b, o, none⟩ v).cell? ⟨R' k, i, none⟩ = some (.int .i64 (H' k i)))
    (hef : ∀ k i, k < j' → wj.frozen? ⟨R' k, i, none⟩ = false)
    (hrl : ∀ k, k < j' → w.heap.size < R' k ∧ R' k < wj.heap.size ∧ R' k ≠ Bx ∧ R' k ≠ Bu ∧ R' k ≠ Bh)
    (hin : ∀ i k, i < j' → k < j' → R' i = R' k → i = k) :
    NG w0 w (wj.setCell ⟨b, o, none⟩ v) bt L l n Bx Bu Bh R' j' U' H' := by
  have hs : (wj.setCell ⟨b, o, none⟩ v).heap.size = wj.heap.size := by simp [World.setCell]
  have hlt := h.lt
  have hlo := h.tape.lo
  have hg := grownBy_setCell wj ⟨b, o, none⟩ v
  have hbk : ∀ q, q < wj.heap.size → q ≠ b → (wj.setCell ⟨b, o, none⟩ v).heap[q]? = wj.heap[q]? := fun q h1 h2 => hg.block q h1 (by simp; exact fun e => h2 e)
  have hgs := h.gr.size
  obtain ⟨a1, a2, a3⟩ := h.lo
  obtain ⟨b1, b2, b3⟩ := h.hi
  refine ⟨h.tape.grown hg (by simp; omega) (fun q e => by cases e; show _ ≤ b; omega), ?_, ?_, ?_, hu, fun k => (World.frozen?_setCell _ _ _ _).trans (h.ufree k), hr, hn, fun k => (World.frozen?_setCell _ _ _ _).trans (h.hfree k), he, fun k i hk => (World.frozen?_setCell _ _ _ _).trans (hef k i hk), h.ne, h.lo, by rw [hs]; exact h.hi, fun k hk => by rw [hs]; exact hrl k hk, hin, hlt⟩
  · exact gb_new h.gr hg (fun q e => by cases e; show _ ≤ b; omega)
  · rw [hbk _ (by omega) (by omega)]; exact h.res
  · rw [hbk _ b1 (by omega)]; exact h.box

theorem NG.setUnit {w0 w wj : World} {bt : Nat} {L : Value} {l : List Int} {n Bx Bu Bh : Nat} {R : Nat → Nat} {j : Nat} {U : Nat → Int} {H : Nat → Nat → Int} (h : NG w0 w wj bt L l n Bx Bu Bh R j U H)
    (k : Nat) (v : Int) : NG w0 w (wj.setCell ⟨Bu, k, none⟩ (.int .i64 v)) bt L l n Bx Bu Bh R j (fun x => if x = k then v else U x) H := by
  refine h.set _ h.lo.2.1 (fun e => h.ne.1 e.symm) (fun x hx => ?_) (fun x hx => ?_) (fun x hx hn => ?_) (fun x i hx hi => ?_) h.efree h.rlo h.inj
  · rw [cell_setCell (h.unit x hx) rfl]
    by_cases e : x = k
    · subst e; simp
    · rw [if_neg (fun e2 => e (congrArg Addr.off e2)), if_neg e]
  · rw [cell_setCell (h.row x hx) rfl, if_neg (fun e => h.ne.2.2 (congrArg Addr.block e).symm)]
  · rw [cell_setCell (h.nil x hx hn) rfl, if_neg (fun e => h.ne.2.2 (congrArg Addr.block e).symm)]
  · rw [cell_setCell (h.ent x i hx hi) rfl, if_neg (fun e => (h.rlo x hx).2.2.2.1 (congrArg Addr.block e))]

theorem NG.setEnt {w0 w wj : World} {bt : Nat} {L : Value} {l : List Int} {n Bx Bu Bh : Nat} {R : Nat → Nat} {j : Nat} {U : Nat → Int} {H : Nat → Nat → Int} (h : NG w0 w wj bt L l n Bx Bu Bh R j U H)
    {k : Nat} (hk : k < j) (c : Nat) (v : Int) : NG w0 w (wj.setCell ⟨R k, c, none⟩ (.int .i64 v)) bt L l n Bx Bu Bh R j U (fun x y => if x = k ∧ y = c then v else H x y) := by
  have r := h.rlo k hk
  refine h.set _ r.1 r.2.2.1 (fun x hx => ?_) (fun x hx => ?_) (fun x hx hn => ?_) (fun x i hx hi => ?_) h.efree h.rlo h.inj
  · rw [cell_setCell (h.unit x hx) rfl, if_neg (fun e => r.2.2.2.1 (congrArg Addr.block e).symm)]
  · rw [cell_setCell (h.row x hx) rfl, if_neg (fun e => r.2.2.2.2 (congrArg Addr.block e).symm)]
  · rw [cell_setCell (h.nil x hx hn) rfl, if_neg (fun e => r.2.2.2.2 (congrArg Addr.block e).symm)]
  · rw [cell_setCell (h.ent x i hx hi) rfl]
    by_cases e : x = k ∧ i = c
    · obtain ⟨rfl, rfl⟩ := e; simp
    · rw [if_neg (fun e2 => e ⟨h.inj x k hx hk (congrArg Addr.block e2), congrArg Addr.off e2⟩), if_neg e]

theorem NG.addRow {w0 w wj : World} {bt : Nat} {L : Value} {l : List Int} {n Bx Bu Bh : Nat} {R : Nat → Nat} {j : Nat} {U : Nat → Int} {H : Nat → Nat → Int} (h : NG w0 w wj bt L l n Bx Bu Bh R j U H)
    (hj : j < n) {q : Nat} (hq : UZ wj q n (.int .i64 0)) (h1 : w.heap.size < q) (h2 : q ≠ Bx ∧ q ≠ Bu ∧ q ≠ Bh) (h3 : ∀ k, k < j → R k ≠ q) :
    NG w0 w (wj.setCell ⟨Bh, j, none⟩ (.slice (some ⟨q, 0, none⟩) n n)) bt L l n Bx Bu Bh (fun x => if x = j then q else R x) (j + 1) U (fun x y => if x = j then 0 else H x y) := by
  refine h.set _ h.lo.2.2 (fun e => h.ne.2.1 e.symm) (fun x hx => ?_) (fun x hx => ?_) (fun x hx hn => ?_) (fun x i hx hi => ?_) (fun x i hx => ?_) (fun x hx => ?_) (fun i k hi hk e => ?_)
  · rw [cell_setCell (h.unit x hx) rfl, if_neg (fun e => h.ne.2.2 (congrArg Addr.block e))]
  · by_cases e : x = j
    · subst e
      rw [cell_setCell (h.nil x (Nat.le_refl _) hj) rfl, if_pos rfl, if_pos rfl]
    · rw [cell_setCell (h.row x (by omega)) rfl, if_neg (fun e2 => e (congrArg Addr.off e2)), if_neg e]
  · rw [cell_setCell (h.nil x (by omega) hn) rfl, if_neg (fun e => by have := congrArg Addr.off e; simp at this; omega)]
  · by_cases e : x = j
    · subst e
      simp only [if_true]
      rw [cell_setCell (hq.cell i hi) rfl, if_neg (fun e => h2.2.2 (congrArg Addr.block e))]
    · simp only [if_neg e]
      rw [cell_setCell (h.ent x i (by omega) hi) rfl, if_neg (fun e => (h.rlo x (by omega)).2.2.2.2 (congrArg Addr.block e))]
  · by_cases e : x = j
    · simp only [if_pos e]; exact hq.free i
    · simp only [if_neg e]; exact h.efree x i (by omega)
  · by_cases e : x = j
    · simp only [if_pos e]; exact ⟨h1, hq.lt, h2⟩
    · simp only [if_neg e]; exact h.rlo x (by omega)
  · by_cases e1 : i = j <;> by_cases e2 : k = j
    · omega
    · simp only [if_pos e1, if_neg e2] at e; exact absurd e.symm (h3 k (by omega))
    · simp only [if_neg e1, if_pos e2] at e; exact absurd e (h3 i (by omega))
    · simp only [if_neg e1, if_neg e2] at e; exact h.inj i k (by omega) (by omega) e

/-- the sum of the first k of column c -/
def cs (H : Nat → Nat → Int) (c : Nat) : Nat → Int
  | 0 => 0
  | k + 1 => cs H c k + H k c
theorem cs_congr {H H' : Nat → Nat → Int} {c k : Nat} (h : ∀ x, x < k → H x c = H' x c) : cs H c k = cs H' c k := by
  induction k with
  | zero => rfl
  | succ k ih => unfold cs; rw [ih (fun x hx => h x (by omega)), h k (by omega)]
theorem cs_zero {H : Nat → Nat → Int} {c i : Nat} : ∀ {k : Nat}, i ≤ k → (∀ x, i ≤ x → x < k → H x c = 0) → cs H c k = cs H c i
  | 0, h, _ => by have : i = 0 := by omega
                  subst this; rfl
  | k + 1, h, hz => by
    by_cases e : i = k + 1
    · subst e; rfl
    · rw [cs, hz k (by omega) (by omega), cs_zero (k := k) (by omega) (fun x h1 h2 => hz x h1 (by omega))]; omega

def UBd (n : Nat) (U : Nat → Int) : Prop := ∀ k, k < n → 0 ≤ U k ∧ U k ≤ 1000100
def HBd (n : Nat) (H : Nat → Nat → Int) : Prop := ∀ x y, x < n → y < n → 0 ≤ H x y ∧ H x y ≤ 1000100
structure OInv (n c : Nat) (U : Nat → Int) (H : Nat → Nat → Int) : Prop where
  bd : HBd n H
  col : ∀ y, y < c → cs H y n ≤ U y
  zero : ∀ x y, x < n → c ≤ y → y < n → H x y = 0
structure FInv (n c i : Nat) (left : Int) (U : Nat → Int) (H : Nat → Nat → Int) : Prop where
  bd : HBd n H
  col : ∀ y, y < c → cs H y n ≤ U y
  zero : ∀ x y, x < n → c < y → y < n → H x y = 0
  here : ∀ x, i ≤ x → x < n → H x c = 0
  sum : cs H c i ≤ U c
  rest : cs H c i + left ≤ U c
  lb : -1 ≤ left ∧ left ≤ 1000100
theorem OInv.start {n c : Nat} {U : Nat → Int} {H : Nat → Nat → Int} (h : OInv n c U H) (hu : UBd n U) (hc : c < n) {left : Int} (hl : left = U c ∨ left = U c - 1) : FInv n c 0 left U H := by
  have := hu c hc
  exact ⟨h.bd, h.col, fun x y h1 h2 h3 => h.zero x y h1 (by omega) h3, fun x _ h2 => h.zero x c h2 (Nat.le_refl _) hc, by simp [cs]; omega, by simp [cs]; omega, by omega⟩
theorem FInv.skip {n c i : Nat} {left : Int} {U : Nat → Int} {H : Nat → Nat → Int} (h : FInv n c i left U H) (hi : i < n) : FInv n c (i + 1) left U H := by
  have e : cs H c (i + 1) = cs H c i := by rw [cs, h.here i (Nat.le_refl _) hi]; omega
  exact ⟨h.bd, h.col, h.zero, fun x h1 h2 => h.here x (by omega) h2, by rw [e]; exact h.sum, by rw [e]; exact h.rest, h.lb⟩
theorem FInv.put {n c i : Nat} {left : Int} {U : Nat → Int} {H : Nat → Nat → Int} (h : FInv n c i left U H) {v : Int} (hv : 0 ≤ v ∧ v ≤ left) : FInv n c (i + 1) (left - v) U (fun x y => if x = i ∧ y = c then v else H x y) := by
  have e : cs (fun x y => if x = i ∧ y = c then v else H x y) c (i + 1) = cs H c i + v := by
    rw [cs, cs_congr (H' := H) (fun x hx => by simp; omega)]; simp
  have hr := h.rest
  have hl := h.lb
  refine ⟨fun x y hx hy => ?_, fun y hy => ?_, fun x y h1 h2 h3 => ?_, fun x h1 h2 => ?_, ?_, ?_, by omega⟩
  · by_cases e : x = i ∧ y = c
    · simp only [if_pos e]; omega
    · simp only [if_neg e]; exact h.bd x y hx hy
  · rw [cs_congr (H' := H) (fun x _ => by simp; omega)]; exact h.col y hy
  · rw [if_neg (by omega)]; exact h.zero x y h1 h2 h3
  · rw [if_neg (by omega)]; exact h.here x (by omega) h2
  · rw [e]; omega
  · rw [e]; omega
theorem FInv.done {n c i : Nat} {left : Int} {U : Nat → Int} {H : Nat → Nat → Int} (h : FInv n c i left U H) (hi : i ≤ n) : OInv n (c + 1) U H := by
  refine ⟨h.bd, fun y hy => ?_, fun x y h1 h2 h3 => h.zero x y h1 (by omega) h3⟩
  by_cases e : y = c
  · subst e; rw [cs_zero hi h.here]; exact h.sum
  · exact h.col y (by omega)

def listU (n : Nat) (U : Nat → Int) : List Int := (List.range n).map U
def listH (n : Nat) (H : Nat → Nat → Int) : List (List Int) := (List.range n).map fun x => listU n (H x)
theorem listU_len (n : Nat) (U : Nat → Int) : (listU n U).length = n := by simp [listU]
theorem listH_len (n : Nat) (H : Nat → Nat → Int) : (listH n H).length = n := by simp [listH]
theorem gI_listU {n k : Nat} {U : Nat → Int} (h : k < n) : gI (listU n U) k = U k := by simp [gI, listU, h]
theorem gR_listH {n k : Nat} {H : Nat → Nat → Int} (h : k < n) : gR (listH n H) k = listU n (H k) := by simp [gR, listH, h]
theorem Hd_listH {n k i : Nat} {H : Nat → Nat → Int} (h : k < n) (hi : i < n) : Hd (listH n H) k i = H k i := by unfold Hd; rw [gR_listH h, gI_listU hi]
theorem colSum_listH {n c : Nat} {H : Nat → Nat → Int} (hc : c < n) : ∀ {k : Nat}, k ≤ n → colSum (listH n H) c k = cs H c k
  | 0, _ => rfl
  | k + 1, h => by unfold colSum cs; rw [colSum_listH hc (by omega), Hd_listH (by omega) hc]
theorem made_shape {n : Nat} {U : Nat → Int} {H : Nat → Nat → Int} (hn : n ≤ 8) (hu : UBd n U) (h : HBd n H) : Shape (listU n U) (listH n H) := by
  refine ⟨by rw [listU_len]; exact hn, by rw [listU_len, listH_len], fun i hi => ?_⟩
  rw [listU_len] at hi ⊢
  rw [gR_listH hi, listU_len, gI_listU hi]
  have := hu i hi
  refine ⟨rfl, by omega, by unfold M15; omega, fun j hj => ?_⟩
  rw [Hd_listH hi hj]
  have := h i j hi hj
  exact ⟨by omega, by unfold M15; omega⟩
theorem made_held {n : Nat} {U : Nat → Int} {H : Nat → Nat → Int} (h : OInv n n U H) : Held (listU n U) (listH n H) := by
  intro j hj
  rw [listU_len] at hj ⊢
  rw [colSum_listH hj (Nat.le_refl _), gI_listU hj]
  exact h.col j hj
theorem NG.ints {w0 w wj wk : World} {bt : Nat} {L : Value} {l : List Int} {n Bx Bu Bh : Nat} {R : Nat → Nat} {U : Nat → Int} {H : Nat → Nat → Int} (h : NG w0 w wj bt L l n Bx Bu Bh R n U H) (hn : n ≤ 8) (hg : wj.grownBy wk (some w.heap.size)) :
    IntsAt wk (.slice (some ⟨Bu, 0, none⟩) n n) (listU n U) := by
  refine ⟨_, n, by rw [listU_len], by rw [listU_len]; omega, fun i hi => ?_⟩
  rw [listU_len] at hi
  exact ⟨Bu, 0, rfl, Nat.lt_of_lt_of_le h.hi.2.1 hg.size, by rw [gI_listU hi, Nat.zero_add]; exact hg.cell (h.unit i hi) (by have := h.lo; simp; omega)⟩
theorem NG.rows {w0 w wj wk : World} {bt : Nat} {L : Value} {l : List Int} {n Bx Bu Bh : Nat} {R : Nat → Nat} {U : Nat → Int} {H : Nat → Nat → Int} (h : NG w0 w wj bt L l n Bx Bu Bh R n U H) (hn : n ≤ 8) (hg : wj.grownBy wk (some w.heap.size)) :
    RowsAt wk (.slice (some ⟨Bh, 0, none⟩) n n) (listH n H) := by
  refine ⟨_, n, by rw [listH_len], by rw [listH_len]; omega, fun i hi => ?_⟩
  rw [listH_len] at hi
  refine ⟨Bh, 0, _, rfl, Nat.lt_of_lt_of_le h.hi.2.2 hg.size, by rw [Nat.zero_add]; exact hg.cell (h.row i hi) (by have := h.lo; simp; omega), ?_⟩
  rw [gR_listH hi]
  refine ⟨_, n, by rw [listU_len], by rw [listU_len]; omega, fun k hk => ?_⟩
  rw [listU_len] at hk
  exact ⟨R i, 0, rfl, Nat.lt_of_lt_of_le (h.rlo i hi).2.1 hg.size, by rw [gI_listU hk, Nat.zero_add]; exact hg.cell (h.ent i k hi hk) (by have := h.rlo i hi; simp; omega)⟩

def valAt (w : World) (a : Addr) : Value := (w.cell? a).getD undef
theorem valAt_of {w : World} {a : Addr} {v : Value} (h : w.cell? a = some v) : w.cell? a = some (valAt w a) := by unfold valAt; rw [h]; rfl

def NGU (w0 w wj : World) (bt : Nat) (L : Value) (l : List Int) (n Bx Bu Bh : Nat) (R : Nat → Nat) (j : Nat) : Prop :=
  ∃ U, UBd n U ∧ NG w0 w wj bt L l n Bx Bu Bh R j U (fun _ _ => 0)
section
variable {w0 w wj wk : World} {bt : Nat} {L : Value} {l : List Int} {n Bx Bu Bh : Nat} {R : Nat → Nat} {j : Nat}
theorem NGU.tape (h : NGU w0 w wj bt L l n Bx Bu Bh R j) : TapeEnv w0 wj bt L l := by obtain ⟨U, _, h⟩ := h; exact NG.tape h
theorem NGU.btlt (h : NGU w0 w wj bt L l n Bx Bu Bh R j) : bt < wj.heap.size := h.tape.lt
theorem NGU.kept (h : NGU w0 w wj bt L l n Bx Bu Bh R j) (ht : TapeEnv w0 wk bt L l) (hg : wj.grownBy wk (some bt)) : NGU w0 w wk bt L l n Bx Bu Bh R j := by
  obtain ⟨U, hu, h⟩ := h; exact ⟨U, hu, NG.kept h ht hg⟩
theorem NGU.new (h : NGU w0 w wj bt L l n Bx Bu Bh R j) (hg : wj.grownBy wk none) : NGU w0 w wk bt L l n Bx Bu Bh R j := by
  obtain ⟨U, hu, h⟩ := h; exact ⟨U, hu, NG.new h hg⟩
theorem NGU.store (h : NGU w0 w wj bt L l n Bx Bu Bh R j) {k : Nat} {v : Int} (hv : 0 ≤ v ∧ v ≤ 1000100) : NGU w0 w (wj.setCell ⟨Bu, k, none⟩ (.int .i64 v)) bt L l n Bx Bu Bh R j := by
  obtain ⟨U, hu, h⟩ := h
  refine ⟨_, fun x hx => ?_, NG.setUnit h k v⟩
  by_cases e : x = k
  · simp only [if_pos e]; exact hv
  · simp only [if_neg e]; exact hu x hx
theorem NGU.s6 (h : NGU w0 w wj bt L l n Bx Bu Bh R j) (hj : j < n) :
    NGU w0 w wj bt L l n Bx Bu Bh R j ∧ wj.cell? ⟨Bx, 0, none⟩ = some (.slice (some ⟨Bu, 0, none⟩) n n) ∧ wj.cell? ⟨Bu, j, none⟩ = some (valAt wj ⟨Bu, j, none⟩) ∧ wj.frozen? ⟨Bu, j, none⟩ = false := by
  refine ⟨h, ?_⟩
  obtain ⟨U, hu, h⟩ := h
  exact ⟨by rw [heap_cell (NG.box h)]; rfl, valAt_of (h.unit j hj), h.ufree j⟩
theorem NGU.s7 (h : NGU w0 w wj bt L l n Bx Bu Bh R j) (hj : j < n) :
    NGU w0 w wj bt L l n Bx Bu Bh R j ∧ wj.cell? ⟨Bx, 1, none⟩ = some (.slice (some ⟨Bh, 0, none⟩) n n) ∧ wj.cell? ⟨Bh, j, none⟩ = some (.slice none 0 0) ∧ wj.frozen? ⟨Bh, j, none⟩ = false := by
  refine ⟨h, ?_⟩
  obtain ⟨U, hu, h⟩ := h
  exact ⟨by rw [heap_cell (NG.box h)]; rfl, h.nil j (Nat.le_refl _) hj, h.hfree j⟩
theorem NGU.row7 (h : NGU w0 w wj bt L l n Bx Bu Bh R j) (hj : j < n) (hg : wj.grownBy wk none) {q : Nat} (hq0 : wj.heap.size ≤ q) (hq : UZ wk q n (.int .i64 0)) :
    ∃ R', NGU w0 w (wk.setCell ⟨Bh, j, none⟩ (.slice (some ⟨q, 0, none⟩) n n)) bt L l n Bx Bu Bh R' (j + 1) := by
  obtain ⟨U, hu, h⟩ := h
  have h1 := h.hi
  have h2 := h.lo
  have := NG.addRow (NG.new h hg) hj hq (by omega) ⟨by omega, by omega, by omega⟩ (fun k hk => by have := (h.rlo k hk).2.1; omega)
  have e : (fun x y => if x = j then (0 : Int) else (fun _ _ => 0) x y) = (fun (_ _ : Nat) => (0 : Int)) := by funext x y; simp
  rw [e] at this
  exact ⟨fun x => if x = j then q else R x, U, hu, this⟩
end

/-- what a made slice of ints reads -/
theorem ints_new (W : World) (xs : List Int) (cs : Array Value) (t : TypeId) (hc : cs = (xs.map (Value.int .i64)).toArray) (hl : xs.length ≤ 9223372036854775807) {k : Nat} (hk : k = xs.length) :
    IntsAt (W.alloc (.cells cs t)) (.slice (some ⟨W.heap.size, 0, none⟩) k k) xs := by
  subst hk
  refine ⟨_, _, rfl, hl, fun i hi => ⟨W.heap.size, 0, rfl, by simp, ?_⟩⟩
  rw [World.cell?_alloc_at _ _ _ _ rfl, hc]
  simp [gI, hi]
theorem tape_ne {w0 W : World} {bt : Nat} {L : Value} {l : List Int} {cs : Array Value} {t : TypeId} (h : TapeEnv w0 (W.alloc (.cells cs t)) bt L l) (hc : cs.size ≠ 2) : bt ≠ W.heap.size := by
  rintro rfl
  obtain ⟨a, _, hb⟩ := h.tape
  rw [heap_new' _ _ _ rfl] at hb
  simp at hb
  exact hc (by rw [hb.1]; rfl)
theorem pick5 (w0 W : World) (bt : Nat) (L : Value) (l : List Int) (a b : Int) (t : TypeId) (h : TapeEnv w0 (W.alloc (.cells #[.int .i64 10, .int .i64 100, .int .i64 a, .int .i64 b, .int .i64 0] t)) bt L l) 
    (ha : 0 ≤ a ∧ a ≤ 1000100) (hb : 0 ≤ b ∧ b ≤ 1000100) :
    Calls Try.prog 17 #[.pointer (some ⟨bt, 0, none⟩), .slice (some ⟨W.heap.size, 0, none⟩) 5 5] (W.alloc (.cells #[.int .i64 10, .int .i64 100, .int .i64 a, .int .i64 b, .int .i64 0] t)) (NextPost w0 bt L l (fun v => 0 ≤ v ∧ v ≤ 1000100) (W.alloc (.cells #[.int .i64 10, .int .i64 100, .int .i64 a, .int .i64 b, .int .i64 0] t))) := by
  refine pick_any w0 bt L l _ [10, 100, a, b, 0] _ _ h (ints_new W _ _ t (by rfl) (by simp) rfl) (by simp [Value.ownBlock]; exact fun e => tape_ne h (by simp) e.symm) (by simp) (fun i hi => ?_)
  have : i = 0 ∨ i = 1 ∨ i = 2 ∨ i = 3 ∨ i = 4 := by simp at hi; omega
  rcases this with rfl | rfl | rfl | rfl | rfl <;> simp [gI] <;> assumption
theorem pick3 (w0 W : World) (bt : Nat) (L : Value) (l : List Int) (m a b : Int) (t : TypeId) (h : TapeEnv w0 (W.alloc (.cells #[.int .i64 m, .int .i64 a, .int .i64 b] t)) bt L l) 
    (hm : 0 ≤ m) (ha : 0 ≤ a ∧ a ≤ m) (hb : 0 ≤ b ∧ b ≤ m) :
    Calls Try.prog 17 #[.pointer (some ⟨bt, 0, none⟩), .slice (some ⟨W.heap.size, 0, none⟩) 3 3] (W.alloc (.cells #[.int .i64 m, .int .i64 a, .int .i64 b] t)) (NextPost w0 bt L l (fun v => 0 ≤ v ∧ v ≤ m) (W.alloc (.cells #[.int .i64 m, .int .i64 a, .int .i64 b] t))) := by
  refine pick_any w0 bt L l _ [m, a, b] _ _ h (ints_new W _ _ t (by rfl) (by simp) rfl) (by simp [Value.ownBlock]; exact fun e => tape_ne h (by simp) e.symm) (by simp) (fun i hi => ?_)
  have : i = 0 ∨ i = 1 ∨ i = 2 := by simp at hi; omega
  rcases this with rfl | rfl | rfl <;> simp [gI] <;> omega
end Go.Proofs.Ytfnjcjoomaeapaa
