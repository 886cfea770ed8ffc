/- Memory: the turned nest in the making; no condition. -/
import Derived.Test.YtfnjcjoomaeapaaMade
import Derived.Test.YtfnjcjoomaeapaaTurn
namespace Go.Proofs.Ytfnjcjoomaeapaa
open Go.RowKit

structure TN (wb w : World) (n Bx Bu Bh : Nat) (R : Nat → Nat) (S : Nat → Bool) (U : Nat → Int) (H : Nat → Nat → Int) : Prop where
  bel : Below wb.heap.size wb w
  b0 : w.cell? ⟨Bx, 0, none⟩ = some (.slice (some ⟨Bu, 0, none⟩) n n)
  b1 : w.cell? ⟨Bx, 1, none⟩ = some (.slice (some ⟨Bh, 0, none⟩) n n)
  unit : ∀ k, k < n → w.cell? ⟨Bu, k, none⟩ = some (.int .i64 (U k))
  ufree : ∀ k, w.frozen? ⟨Bu, k, none⟩ = false
  row : ∀ k, k < n → S k = true → w.cell? ⟨Bh, k, none⟩ = some (.slice (some ⟨R k, 0, none⟩) n n)
  nil : ∀ k, k < n → S k = false → w.cell? ⟨Bh, k, none⟩ = some (.slice none 0 0)
  hfree : ∀ k, w.frozen? ⟨Bh, k, none⟩ = false
  ent : ∀ k i, S k = true → i < n → w.cell? ⟨R k, i, none⟩ = some (.int .i64 (H k i))
  efree : ∀ k i, S k = true → w.frozen? ⟨R k, i, none⟩ = false
  ne : Bx ≠ Bu ∧ Bx ≠ Bh ∧ Bu ≠ Bh
  lo : wb.heap.size ≤ Bx ∧ wb.heap.size ≤ Bu ∧ wb.heap.size ≤ Bh
  hi : Bx < w.heap.size ∧ Bu < w.heap.size ∧ Bh < w.heap.size
  rlo : ∀ k, S k = true → wb.heap.size ≤ R k ∧ R k < w.heap.size ∧ R k ≠ Bx ∧ R k ≠ Bu ∧ R k ≠ Bh
  inj : ∀ i k, S i = true → S k = true → R i = R k → i = k

section
variable {wb w wk : World} {n Bx Bu Bh : Nat} {R : Nat → Nat} {S : Nat → Bool} {U : Nat → Int} {H : Nat → Nat → Int}
theorem TN.congr (h : TN wb w n Bx Bu Bh R S U H) {S' : Nat → Bool} {U' : Nat → Int} {H' : Nat → Nat → Int} (hS : ∀ k, k < n → S k = S' k) (hS2 : ∀ k, S' k = true → k < n) (hU : ∀ k, k < n → U k = U' k) (hH : ∀ k i, S' k = true → i < n → H k i = H' k i) :
    TN wb w n Bx Bu Bh R S' U' H' := by
  have e : ∀ k, S' k = true → S k = true := fun k hk => by rw [hS k (hS2 k hk)]; exact hk
  refine ⟨h.bel, h.b0, h.b1, fun k hk => by rw [← hU k hk]; exact h.unit k hk, h.ufree, fun k hk hs => h.row k hk (e k hs), fun k hk hs => h.nil k hk (by rw [hS k hk]; exact hs), h.hfree,
    fun k i hs hi => by rw [← hH k i hs hi]; exact h.ent k i (e k hs) hi, fun k i hs => h.efree k i (e k hs), h.ne, h.lo, h.hi, fun k hs => h.rlo k (e k hs), fun i k h1 h2 => h.inj i k (e i h1) (e k h2)⟩
theorem TN.new (h : TN wb w n Bx Bu Bh R S U H) (hg : w.grownBy wk none) : TN wb wk n Bx Bu Bh R S U H := by
  have hb : ∀ q, q < w.heap.size → wk.heap[q]? = w.heap[q]? := fun q h2 => hg.block q h2 (by simp)
  have hc : ∀ q o, q < w.heap.size → wk.cell? ⟨q, o, none⟩ = w.cell? ⟨q, o, none⟩ := fun q o h2 => World.cell?_of_block (w := w) (hb q h2)
  have hf : ∀ q o, q < w.heap.size → wk.frozen? ⟨q, o, none⟩ = w.frozen? ⟨q, o, none⟩ := fun q o h2 => World.frozen?_of_block (w := w) (hb q h2)
  have hs := hg.size
  obtain ⟨b1, b2, b3⟩ := h.hi
  refine ⟨h.bel.grown hg h.bel.size (fun q e => by cases e), ?_, ?_, fun k hk => ?_, fun k => ?_, fun k hk hs => ?_, fun k hk hn => ?_, fun k => ?_, fun k i hk hi => ?_, fun k i hk => ?_, h.ne, h.lo, ⟨by omega, by omega, by omega⟩, fun k hk => ?_, h.inj⟩
  · rw [hc _ _ b1]; exact h.b0
  · rw [hc _ _ b1]; exact h.b1
  · rw [hc _ _ b2]; exact h.unit k hk
  · rw [hf _ _ b2]; exact h.ufree k
  · rw [hc _ _ b3]; exact h.row k hk hs
  · rw [hc _ _ b3]; exact h.nil k hk hn
  · rw [hf _ _ b3]; exact h.hfree k
  · have r := h.rlo k hk; rw [hc _ _ r.2.1]; exact h.ent k i hk hi
  · have r := h.rlo k hk; rw [hf _ _ r.2.1]; exact h.efree k i hk
  · have r := h.rlo k hk; exact ⟨r.1, by omega, r.2.2⟩
theorem TN.setUnit (h : TN wb w n Bx Bu Bh R S U H) (k : Nat) (v : Int) : TN wb (w.setCell ⟨Bu, k, none⟩ (.int .i64 v)) n Bx Bu Bh R S (fun x => if x = k then v else U x) H := by
  have hs : (w.setCell ⟨Bu, k, none⟩ (.int .i64 v)).heap.size = w.heap.size := by simp [World.setCell]
  obtain ⟨n1, n2, n3⟩ := h.ne
  refine ⟨h.bel.setCell h.lo.2.1 _, ?_, ?_, fun x hx => ?_, fun x => (World.frozen?_setCell _ _ _ _).trans (h.ufree x), fun x hx hs => ?_, fun x hx hn => ?_, fun x => (World.frozen?_setCell _ _ _ _).trans (h.hfree x), fun x i hx hi => ?_, fun x i hx => (World.frozen?_setCell _ _ _ _).trans (h.efree x i hx), h.ne, h.lo, by rw [hs]; exact h.hi, by rw [hs]; exact h.rlo, h.inj⟩
  · rw [cell_setCell h.b0 rfl, if_neg (fun e => n1 (congrArg Addr.block e))]
  · rw [cell_setCell h.b1 rfl, if_neg (fun e => n1 (congrArg Addr.block e))]
  · rw [cell_setCell (h.unit x hx) rfl]
    by_cases e : x = k
    · subst e; simp
    · rw [if_neg (fun e2 => e (congrArg Addr.off e2)), if_neg e]
  · rw [cell_setCell (h.row x hx hs) rfl, if_neg (fun e => n3 (congrArg Addr.block e).symm)]
  · rw [cell_setCell (h.nil x hx hn) rfl, if_neg (fun e => n3 (congrArg Addr.block e).symm)]
  · rw [cell_setCell (h.ent x i hx hi) rfl, if_neg (fun e => (h.rlo x hx).2.2.2.1 (congrArg Addr.block e))]
theorem TN.setEnt (h : TN wb w n Bx Bu Bh R S U H) {k : Nat} (hk : S k = true) (c : Nat) (v : Int) : TN wb (w.setCell ⟨R k, c, none⟩ (.int .i64 v)) n Bx Bu Bh R S U (fun x y => if x = k ∧ y = c then v else H x y) := by
  have hs : (w.setCell ⟨R k, c, none⟩ (.int .i64 v)).heap.size = w.heap.size := by simp [World.setCell]
  have r := h.rlo k hk
  refine ⟨h.bel.setCell r.1 _, ?_, ?_, fun x hx => ?_, fun x => (World.frozen?_setCell _ _ _ _).trans (h.ufree x), fun x hx hs => ?_, fun x hx hn => ?_, fun x => (World.frozen?_setCell _ _ _ _).trans (h.hfree x), fun x i hx hi => ?_, fun x i hx => (World.frozen?_setCell _ _ _ _).trans (h.efree x i hx), h.ne, h.lo, by rw [hs]; exact h.hi, by rw [hs]; exact h.rlo, h.inj⟩
  · rw [cell_setCell h.b0 rfl, if_neg (fun e => r.2.2.1 (congrArg Addr.block e).symm)]
  · rw [cell_setCell h.b1 rfl, if_neg (fun e => r.2.2.1 (congrArg Addr.block e).symm)]
  · rw [cell_setCell (h.unit x hx) rfl, if_neg (fun e => r.2.2.2.1 (congrArg Addr.block e).symm)]
  · rw [cell_setCell (h.row x hx hs) rfl, if_neg (fun e => r.2.2.2.2 (congrArg Addr.block e).symm)]
  · rw [cell_setCell (h.nil x hx hn) rfl, if_neg (fun e => r.2.2.2.2 (congrArg Addr.block e).symm)]
  · rw [cell_setCell (h.ent x i hx hi) rfl]
    by_cases e : x = k ∧ i = c
    · obtain ⟨rfl, rfl⟩ := e; simp
    · rw [if_neg (fun e2 => e ⟨h.inj x k hx hk (congrArg Addr.block e2), congrArg Addr.off e2⟩), if_neg e]
theorem TN.addRow (h : TN wb w n Bx Bu Bh R S U H) {k : Nat} (hk : S k = false) (hkn : k < n) {q : Nat} (hq : UZ w q n (.int .i64 0)) (h1 : wb.heap.size ≤ q) (h2 : q ≠ Bx ∧ q ≠ Bu ∧ q ≠ Bh) (h3 : ∀ x, S x = true → R x ≠ q) :
    TN wb (w.setCell ⟨Bh, k, none⟩ (.slice (some ⟨q, 0, none⟩) n n)) n Bx Bu Bh (fun x => if x = k then q else R x) (fun x => if x = k then true else S x) U (fun x y => if x = k then 0 else H x y) := by
  have hs : (w.setCell ⟨Bh, k, none⟩ (.slice (some ⟨q, 0, none⟩) n n)).heap.size = w.heap.size := by simp [World.setCell]
  obtain ⟨n1, n2, n3⟩ := h.ne
  refine ⟨h.bel.setCell h.lo.2.2 _, ?_, ?_, fun x hx => ?_, fun x => (World.frozen?_setCell _ _ _ _).trans (h.ufree x), fun x hx hs => ?_, fun x hx hn => ?_, fun x => (World.frozen?_setCell _ _ _ _).trans (h.hfree x), fun x i hx hi => ?_, fun x i hx => ?_, h.ne, h.lo, by rw [hs]; exact h.hi, fun x hx => ?_, fun i x hi hx e => ?_⟩
  · rw [cell_setCell h.b0 rfl, if_neg (fun e => n2 (congrArg Addr.block e))]
  · rw [cell_setCell h.b1 rfl, if_neg (fun e => n2 (congrArg Addr.block e))]
  · rw [cell_setCell (h.unit x hx) rfl, if_neg (fun e => n3 (congrArg Addr.block e))]
  · by_cases e : x = k
    · subst e
      rw [cell_setCell (h.nil x hx hk) rfl, if_pos rfl, if_pos rfl]
    · simp only [if_neg e] at hs ⊢
      rw [cell_setCell (h.row x hx hs) rfl, if_neg (fun e2 => e (congrArg Addr.off e2))]
  · by_cases e : x = k
    · simp only [if_pos e] at hn; cases hn
    · simp only [if_neg e] at hn
      rw [cell_setCell (h.nil x hx hn) rfl, if_neg (fun e2 => e (congrArg Addr.off e2))]
  · by_cases e : x = k
    · subst e
      simp only [if_true]
      rw [cell_setCell (hq.cell i hi) rfl, if_neg (fun e => h2.2.2 (congrArg Addr.block e))]
    · simp only [if_neg e] at hx ⊢
      rw [cell_setCell (h.ent x i hx hi) rfl, if_neg (fun e => (h.rlo x hx).2.2.2.2 (congrArg Addr.block e))]
  · by_cases e : x = k
    · simp only [if_pos e]; exact (World.frozen?_setCell _ _ _ _).trans (hq.free i)
    · simp only [if_neg e] at hx ⊢; exact (World.frozen?_setCell _ _ _ _).trans (h.efree x i hx)
  · rw [hs]
    by_cases e : x = k
    · simp only [if_pos e]; exact ⟨h1, hq.lt, h2⟩
    · simp only [if_neg e] at hx ⊢; exact h.rlo x hx
  · by_cases e1 : i = k <;> by_cases e2 : x = k
    · omega
    · simp only [if_pos e1, if_neg e2] at e hx; exact absurd e.symm (h3 x hx)
    · simp only [if_neg e1, if_pos e2] at e hi; exact absurd e (h3 i hi)
    · simp only [if_neg e1, if_neg e2] at e hi hx; exact h.inj i x hi hx e

theorem TN.ints (h : TN wb w n Bx Bu Bh R S U H) (hn : n ≤ 8) : IntsAt w (.slice (some ⟨Bu, 0, none⟩) (listU n U).length n) (listU n U) := by
  refine ⟨_, n, rfl, by rw [listU_len]; omega, fun k hk => ?_⟩
  rw [listU_len] at hk
  exact ⟨Bu, 0, rfl, h.hi.2.1, by rw [gI_listU hk, Nat.zero_add]; exact h.unit k hk⟩
theorem TN.rows (h : TN wb w n Bx Bu Bh R S U H) (hn : n ≤ 8) (hS : ∀ k, k < n → S k = true) : RowsAt w (.slice (some ⟨Bh, 0, none⟩) (listH n H).length n) (listH n H) := by
  refine ⟨_, n, rfl, by rw [listH_len]; omega, fun k hk => ?_⟩
  rw [listH_len] at hk
  refine ⟨Bh, 0, _, rfl, h.hi.2.2, by rw [Nat.zero_add]; exact h.row k hk (hS k hk), ?_⟩
  rw [gR_listH hk]
  refine ⟨_, n, by rw [listU_len], by rw [listU_len]; omega, fun i hi => ?_⟩
  rw [listU_len] at hi
  exact ⟨R k, 0, rfl, (h.rlo k (hS k hk)).2.1, by rw [gI_listU hi, Nat.zero_add]; exact h.ent k i (hS k hk) hi⟩
end

/-- rows 0 .. i of the nest are turned; j cells of row i if c -/
def tS (n t i : Nat) : Nat → Bool := fun k => decide (k < n) && decide (sgi n t k < i)
def tU (n t : Nat) (us : List Int) (i : Nat) : Nat → Int := fun k => if sgi n t k < i then gI us (sgi n t k) else 0
def tH (n t : Nat) (hs : List (List Int)) (i j : Nat) : Nat → Nat → Int := fun k x => if sgi n t k < i then Hd hs (sgi n t k) (sgi n t x) else if sgi n t x < j then Hd hs (sgi n t k) (sgi n t x) else 0
theorem sgi_eq {n t i k : Nat} (ht : t < n) (hk : k < n) (hi : i < n) : sgi n t k = i ↔ k = sg n t i :=
  ⟨fun h => by rw [← h, sg_sgi ht hk], fun h => by rw [h, sgi_sg ht hi]⟩
theorem tS_all {n t : Nat} (ht : t < n) {k : Nat} (hk : k < n) : tS n t n k = true := by simp [tS, hk, sgi_lt ht hk]

theorem turned_of {n t : Nat} {us : List Int} {hs : List (List Int)} (ht : t < n) : Turned n t us hs (listU n (tU n t us n)) (listH n (tH n t hs n 0)) := by
  refine ⟨listU_len _ _, listH_len _ _, fun i hi => by rw [gR_listH hi, listU_len], fun i hi => ?_, fun i j hi hj => ?_⟩
  · rw [gI_listU (sg_lt ht hi)]; unfold tU; rw [sgi_sg ht hi, if_pos hi]
  · rw [Hd_listH (sg_lt ht hi) (sg_lt ht hj)]; unfold tH; rw [sgi_sg ht hi, sgi_sg ht hj, if_pos hi]

section
variable {wb w : World} {n t Bx Bu Bh : Nat} {us : List Int} {hs : List (List Int)} {R : Nat → Nat}
theorem TN.rowStart {R' : Nat → Nat} {S' : Nat → Bool} {U' : Nat → Int} {H' : Nat → Nat → Int} {i : Nat} (ht : t < n) (hi : i < n) (h : TN wb w n Bx Bu Bh R' S' U' H') (hS : S' = fun x => if x = sg n t i then true else tS n t i x)
    (hU : ∀ x, U' x = if x = sg n t i then gI us i else tU n t us i x) (hH : ∀ x y, H' x y = if x = sg n t i then 0 else tH n t hs i 0 x y) : TN wb w n Bx Bu Bh R' (tS n t (i + 1)) (tU n t us (i + 1)) (tH n t hs i 0) := by
  subst hS
  refine h.congr (fun k hk => ?_) (fun k hk => by simp [tS] at hk; exact hk.1) (fun k hk => ?_) (fun k x hk hx => ?_)
  · by_cases e : k = sg n t i
    · subst e; simp [tS, hk, sgi_sg ht hi]
    · have hne : ¬ (sgi n t k = i) := fun e0 => e ((sgi_eq ht hk hi).1 e0)
      have e2 : (sgi n t k < i + 1) = (sgi n t k < i) := by rw [eq_iff_iff]; omega
      simp only [if_neg e, tS, e2]
  · rw [hU]
    by_cases e : k = sg n t i
    · subst e; simp [tU, sgi_sg ht hi]
    · have hne : ¬ (sgi n t k = i) := fun e0 => e ((sgi_eq ht hk hi).1 e0)
      have e2 : (sgi n t k < i + 1) = (sgi n t k < i) := by rw [eq_iff_iff]; omega
      simp only [if_neg e, tU, e2]
  · rw [hH]
    by_cases e : k = sg n t i
    · subst e; simp [tH, sgi_sg ht hi]
    · rw [if_neg e]
theorem TN.rowStep {i j : Nat} (ht : t < n) (hi : i < n) (hj : j < n) (h : TN wb w n Bx Bu Bh R (tS n t (i + 1)) (tU n t us (i + 1)) (tH n t hs i j)) :
    TN wb (w.setCell ⟨R (sg n t i), sg n t j, none⟩ (.int .i64 (Hd hs i j))) n Bx Bu Bh R (tS n t (i + 1)) (tU n t us (i + 1)) (tH n t hs i (j + 1)) := by
  refine (h.setEnt (k := sg n t i) (by simp [tS, sg_lt ht hi, sgi_sg ht hi]) (sg n t j) (Hd hs i j)).congr (fun k hk => rfl) (fun k hk => by simp [tS] at hk; exact hk.1) (fun k hk => rfl) (fun k x hk hx => ?_)
  have hkn : k < n := by simp [tS] at hk; exact hk.1
  have hki : sgi n t k < i + 1 := by simp [tS] at hk; exact hk.2
  by_cases e : k = sg n t i ∧ x = sg n t j
  · obtain ⟨rfl, rfl⟩ := e; simp [tH, sgi_sg ht hi, sgi_sg ht hj]
  · rw [if_neg e]
    unfold tH
    by_cases e1 : sgi n t k < i
    · rw [if_pos e1, if_pos e1]
    · rw [if_neg e1, if_neg e1]
      have ek : k = sg n t i := (sgi_eq ht hkn hi).1 (by omega)
      have ex : ¬ (sgi n t x = j) := fun e2 => e ⟨ek, (sgi_eq ht hx hj).1 e2⟩
      have e2 : (sgi n t x < j + 1) = (sgi n t x < j) := by simp; omega
      simp only [e2]
theorem TN.rowEnd {i : Nat} (ht : t < n) (hi : i < n) (h : TN wb w n Bx Bu Bh R (tS n t (i + 1)) (tU n t us (i + 1)) (tH n t hs i n)) :
    TN wb w n Bx Bu Bh R (tS n t (i + 1)) (tU n t us (i + 1)) (tH n t hs (i + 1) 0) := by
  refine h.congr (fun k hk => rfl) (fun k hk => by simp [tS] at hk; exact hk.1) (fun k hk => rfl) (fun k x hk hx => ?_)
  have hki : sgi n t k < i + 1 := by simp [tS] at hk; exact hk.2
  unfold tH
  rw [if_pos hki]
  by_cases e1 : sgi n t k < i
  · rw [if_pos e1]
  · rw [if_neg e1, if_pos (sgi_lt ht hx)]
end
theorem TN.start {w1 wx : World} {n t Bx Bu Bh : Nat} (us : List Int) (hs : List (List Int)) (h1 : wx.heap[Bx]? = some (.cells #[.slice (some ⟨Bu, 0, none⟩) n n, .slice (some ⟨Bh, 0, none⟩) n n] 25 (0, 0)))
    (h2 : w1.grownBy wx none) (h3 : UZ wx Bu n (.int .i64 0)) (h4 : UZ wx Bh n (.slice none 0 0)) (n1 : Bx ≠ Bu) (n2 : Bx ≠ Bh) (n3 : Bu ≠ Bh) (l1 : w1.heap.size ≤ Bx) (l2 : w1.heap.size ≤ Bu) (l3 : w1.heap.size ≤ Bh) :
    TN w1 wx n Bx Bu Bh (fun _ => 0) (tS n t 0) (tU n t us 0) (tH n t hs 0 0) := by
  have hS : ∀ k, ¬ tS n t 0 k = true := fun k => by simp [tS]
  refine ⟨(Below.refl _ _).grown h2 (Nat.le_refl _) (fun q e => by cases e), by rw [heap_cell h1]; rfl, by rw [heap_cell h1]; rfl, fun k hk => by rw [h3.cell k hk]; simp [tU], h3.free, fun k _ hk => absurd hk (hS k), fun k hk _ => h4.cell k hk, h4.free,
    fun k _ hk => absurd hk (hS k), fun k _ hk => absurd hk (hS k), ⟨n1, n2, n3⟩, ⟨l1, l2, l3⟩, ⟨(Array.getElem?_eq_some_iff.1 h1).1, h3.lt, h4.lt⟩, fun k hk => absurd hk (hS k), fun k _ hk => absurd hk (hS k)⟩

/-- what the steps of a round's first statement ask of the memory -/
structure SX (wb w : World) (n Bx Bu Bh s : Nat) : Prop where
  bel : Below wb.heap.size wb w
  b0 : w.cell? ⟨Bx, 0, none⟩ = some (.slice (some ⟨Bu, 0, none⟩) n n)
  b1 : w.cell? ⟨Bx, 1, none⟩ = some (.slice (some ⟨Bh, 0, none⟩) n n)
  u : w.cell? ⟨Bu, s, none⟩ = some (valAt w ⟨Bu, s, none⟩)
  uf : w.frozen? ⟨Bu, s, none⟩ = false
  h : w.cell? ⟨Bh, s, none⟩ = some (valAt w ⟨Bh, s, none⟩)
  hf : w.frozen? ⟨Bh, s, none⟩ = false
  ne : Bx ≠ Bu ∧ Bx ≠ Bh ∧ Bu ≠ Bh
  lo : wb.heap.size ≤ Bx ∧ wb.heap.size ≤ Bu ∧ wb.heap.size ≤ Bh
  hi : Bx < w.heap.size ∧ Bu < w.heap.size ∧ Bh < w.heap.size
section
variable {wb w wk : World} {n Bx Bu Bh s : Nat}
theorem TN.sx {R : Nat → Nat} {S : Nat → Bool} {U : Nat → Int} {H : Nat → Nat → Int} (h : TN wb w n Bx Bu Bh R S U H) (hs : s < n) : SX wb w n Bx Bu Bh s := by
  refine ⟨h.bel, h.b0, h.b1, valAt_of (h.unit s hs), h.ufree s, ?_, h.hfree s, h.ne, h.lo, h.hi⟩
  cases e : S s with
  | true => exact valAt_of (h.row s hs e)
  | false => exact valAt_of (h.nil s hs e)
theorem SX.new (h : SX wb w n Bx Bu Bh s) (hg : w.grownBy wk none) : SX wb wk n Bx Bu Bh s := by
  have hb : ∀ q, q < w.heap.size → wk.heap[q]? = w.heap[q]? := fun q h2 => hg.block q h2 (by simp)
  have hc : ∀ q o, q < w.heap.size → wk.cell? ⟨q, o, none⟩ = w.cell? ⟨q, o, none⟩ := fun q o h2 => World.cell?_of_block (w := w) (hb q h2)
  have hf : ∀ q o, q < w.heap.size → wk.frozen? ⟨q, o, none⟩ = w.frozen? ⟨q, o, none⟩ := fun q o h2 => World.frozen?_of_block (w := w) (hb q h2)
  have hs := hg.size
  obtain ⟨b1, b2, b3⟩ := h.hi
  exact ⟨h.bel.grown hg h.bel.size (fun q e => by cases e), by rw [hc _ _ b1]; exact h.b0, by rw [hc _ _ b1]; exact h.b1, valAt_of (by rw [hc _ _ b2]; exact h.u), by rw [hf _ _ b2]; exact h.uf, valAt_of (by rw [hc _ _ b3]; exact h.h), by rw [hf _ _ b3]; exact h.hf, h.ne, h.lo, by omega, by omega, by omega⟩
theorem SX.setU (h : SX wb w n Bx Bu Bh s) (v : Value) : SX wb (w.setCell ⟨Bu, s, none⟩ v) n Bx Bu Bh s := by
  have hs : (w.setCell ⟨Bu, s, none⟩ v).heap.size = w.heap.size := by simp [World.setCell]
  obtain ⟨n1, n2, n3⟩ := h.ne
  exact ⟨h.bel.setCell h.lo.2.1 _, by rw [cell_setCell h.b0 rfl, if_neg (fun e => n1 (congrArg Addr.block e))], by rw [cell_setCell h.b1 rfl, if_neg (fun e => n1 (congrArg Addr.block e))],
    valAt_of (by rw [cell_setCell h.u rfl, if_pos rfl]), (World.frozen?_setCell _ _ _ _).trans h.uf, valAt_of (by rw [cell_setCell h.h rfl, if_neg (fun e => n3 (congrArg Addr.block e).symm)]), (World.frozen?_setCell _ _ _ _).trans h.hf, h.ne, h.lo, by rw [hs]; exact h.hi⟩
theorem SX.setH (h : SX wb w n Bx Bu Bh s) (v : Value) : SX wb (w.setCell ⟨Bh, s, none⟩ v) n Bx Bu Bh s := by
  have hs : (w.setCell ⟨Bh, s, none⟩ v).heap.size = w.heap.size := by simp [World.setCell]
  obtain ⟨n1, n2, n3⟩ := h.ne
  exact ⟨h.bel.setCell h.lo.2.2 _, by rw [cell_setCell h.b0 rfl, if_neg (fun e => n2 (congrArg Addr.block e))], by rw [cell_setCell h.b1 rfl, if_neg (fun e => n2 (congrArg Addr.block e))],
    valAt_of (by rw [cell_setCell h.u rfl, if_neg (fun e => n3 (congrArg Addr.block e))]), (World.frozen?_setCell _ _ _ _).trans h.uf, valAt_of (by rw [cell_setCell h.h rfl, if_pos rfl]), (World.frozen?_setCell _ _ _ _).trans h.hf, h.ne, h.lo, by rw [hs]; exact h.hi⟩
def SS (wb : World) (n Bx Bu Bh s : Nat) (p q : Addr) (x y : Value) (w : World) : Prop :=
  SX wb w n Bx Bu Bh s ∧ w.cell? ⟨Bx, 0, none⟩ = some (.slice (some ⟨Bu, 0, none⟩) n n) ∧ w.cell? ⟨Bx, 1, none⟩ = some (.slice (some ⟨Bh, 0, none⟩) n n) ∧ w.cell? p = some x ∧ w.cell? q = some y ∧
    w.cell? ⟨Bu, s, none⟩ = some (valAt w ⟨Bu, s, none⟩) ∧ w.frozen? ⟨Bu, s, none⟩ = false ∧ w.cell? ⟨Bh, s, none⟩ = some (valAt w ⟨Bh, s, none⟩) ∧ w.frozen? ⟨Bh, s, none⟩ = false
theorem SX.ss (h : SX wb w n Bx Bu Bh s) {p q : Addr} {x y : Value} (hp : wb.cell? p = some x) (hq : wb.cell? q = some y) : SS wb n Bx Bu Bh s p q x y w :=
  ⟨h, h.b0, h.b1, (ExtW.of_below h.bel).2 _ _ hp, (ExtW.of_below h.bel).2 _ _ hq, h.u, h.uf, h.h, h.hf⟩
end
section
variable {wb w wu wv : World} {n t Bx Bu Bh : Nat} {us : List Int} {hs : List (List Int)} {R : Nat → Nat}
/-- the round's first statement, its stores in any order -/
theorem TN.row1 {i : Nat} (ht : t < n) (hi : i < n) (h : TN wb w n Bx Bu Bh R (tS n t i) (tU n t us i) (tH n t hs i 0)) (hg : w.grownBy wu none) {q : Nat} (hq0 : w.heap.size ≤ q) (hq : UZ wu q n (.int .i64 0)) :
    ∃ R', TN wb ((wu.setCell ⟨Bu, sg n t i, none⟩ (.int .i64 (gI us i))).setCell ⟨Bh, sg n t i, none⟩ (.slice (some ⟨q, 0, none⟩) n n)) n Bx Bu Bh R' (tS n t (i + 1)) (tU n t us (i + 1)) (tH n t hs i 0) := by
  have hh := h.hi
  have hl := h.lo
  have hb := h.bel.size
  have h1 := (h.new hg).setUnit (sg n t i) (gI us i)
  have h2 := h1.addRow (k := sg n t i) (by simp [tS, sgi_sg ht hi]) (sg_lt ht hi) (hq.s (by omega)) (by omega) (by omega) (fun x hx => by have := (h.rlo x hx).2.1; omega)
  exact ⟨_, h2.rowStart ht hi rfl (fun _ => rfl) (fun _ _ => rfl)⟩
theorem TN.row2 {i : Nat} (ht : t < n) (hi : i < n) (h : TN wb w n Bx Bu Bh R (tS n t i) (tU n t us i) (tH n t hs i 0)) (hg : w.grownBy wu none) {q : Nat} (hq0 : w.heap.size ≤ q) (hq : UZ wu q n (.int .i64 0)) :
    ∃ R', TN wb ((wu.setCell ⟨Bh, sg n t i, none⟩ (.slice (some ⟨q, 0, none⟩) n n)).setCell ⟨Bu, sg n t i, none⟩ (.int .i64 (gI us i))) n Bx Bu Bh R' (tS n t (i + 1)) (tU n t us (i + 1)) (tH n t hs i 0) := by
  have hh := h.hi
  have hl := h.lo
  have hb := h.bel.size
  have h2 := ((h.new hg).addRow (k := sg n t i) (by simp [tS, sgi_sg ht hi]) (sg_lt ht hi) hq (by omega) (by omega) (fun x hx => by have := (h.rlo x hx).2.1; omega)).setUnit (sg n t i) (gI us i)
  exact ⟨_, h2.rowStart ht hi rfl (fun _ => rfl) (fun _ _ => rfl)⟩
theorem TN.row3 {i : Nat} (ht : t < n) (hi : i < n) (h : TN wb w n Bx Bu Bh R (tS n t i) (tU n t us i) (tH n t hs i 0)) (hg0 : w.grownBy wv none) (hg : (wv.setCell ⟨Bu, sg n t i, none⟩ (.int .i64 (gI us i))).grownBy wu none) {q : Nat} (hq0 : w.heap.size ≤ q) (hq : UZ wu q n (.int .i64 0)) :
    ∃ R', TN wb (wu.setCell ⟨Bh, sg n t i, none⟩ (.slice (some ⟨q, 0, none⟩) n n)) n Bx Bu Bh R' (tS n t (i + 1)) (tU n t us (i + 1)) (tH n t hs i 0) := by
  have hh := h.hi
  have hl := h.lo
  have hb := h.bel.size
  have h1 := (((h.new hg0).setUnit (sg n t i) (gI us i)).new hg)
  have h2 := h1.addRow (k := sg n t i) (by simp [tS, sgi_sg ht hi]) (sg_lt ht hi) hq (by omega) (by omega) (fun x hx => by have := (h.rlo x hx).2.1; omega)
  exact ⟨_, h2.rowStart ht hi rfl (fun _ => rfl) (fun _ _ => rfl)⟩
end
end Go.Proofs.Ytfnjcjoomaeapaa
