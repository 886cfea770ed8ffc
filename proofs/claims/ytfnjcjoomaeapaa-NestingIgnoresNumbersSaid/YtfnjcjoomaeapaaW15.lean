/- walks: awake -/
import Derived.Test.YtfnjcjoomaeapaaW11
import Derived.Test.YtfnjcjoomaeapaaW8
import Derived.Test.YtfnjcjoomaeapaaW3
namespace Go.Proofs.Ytfnjcjoomaeapaa
open Go.RowKit

theorem IntsAt.mk (w : World) (k : Nat) (vs : List Int) (hk : k = w.heap.size) (h8 : vs.length ≤ 8) : IntsAt (w.alloc (.cells (vs.map (Value.int .i64)).toArray 3)) (.slice (some ⟨k, 0, none⟩) vs.length vs.length) vs := by
  refine ⟨_, _, rfl, by omega, fun i hi => ⟨k, 0, rfl, by rw [hk]; simp, ?_⟩⟩
  rw [Nat.zero_add, World.cell?_alloc_at _ _ _ _ hk]
  simp [gI, hi]
theorem RowsAt.mk (w : World) (k : Nat) (rs : List Value) (hs : List (List Int)) (hk : k = w.heap.size) (hl : rs.length = hs.length) (h8 : hs.length ≤ 8) (h : ∀ i, i < hs.length → ∃ r, rs[i]? = some r ∧ IntsAt w r (gR hs i)) :
    RowsAt (w.alloc (.cells rs.toArray 22)) (.slice (some ⟨k, 0, none⟩) hs.length hs.length) hs := by
  refine ⟨_, _, rfl, by omega, fun i hi => ?_⟩
  obtain ⟨r, h1, h2⟩ := h i hi
  refine ⟨k, 0, r, rfl, by rw [hk]; simp, ?_, h2.ext (ExtW.alloc _ _)⟩
  rw [Nat.zero_add, World.cell?_alloc_at _ _ _ _ hk]
  simpa using h1
theorem mem3 {n i : Nat} (h : i < n) (hn : n = 3) : i = 0 ∨ i = 1 ∨ i = 2 := by omega

def exH : List (List Int) := [[0, 1, 0], [0, 0, 1], [0, 1, 0]]
theorem ex_check : checkS [9, 9, 9] exH = 0 := checkS_0 (by unfold Shape M15 exH Hd gI gR; decide) (by unfold Held exH; decide)
theorem ex_check2 : checkS [1] [[2]] = 341 := checkS_341 (by unfold Shape M15 Hd gI gR; decide) (by unfold Held; decide)
theorem ex_edge (i j : Nat) (h : Edge 3 exH i j) : (i = 0 ∧ j = 1) ∨ (i = 1 ∧ j = 2) ∨ (i = 2 ∧ j = 1) := by
  obtain ⟨h1, h2, h3⟩ := h
  rcases mem3 h1 rfl with rfl | rfl | rfl <;> rcases mem3 h2 rfl with rfl | rfl | rfl <;> first | omega | (revert h3; decide)
theorem ex_no (i : Nat) (hi : i = 1 ∨ i = 2) : rB 3 exH i 0 = false := by
  cases h : rB 3 exH i 0 with
  | false => rfl
  | true =>
    have := (rB_iff.1 h).ind (P := fun v => v ≠ 0) (fun a b ha he => by rcases ex_edge a b he with h | h | h <;> omega) (by omega)
    exact absurd rfl this
theorem ex_yes (i j : Nat) (h : Edge 3 exH i j) : rB 3 exH i j = true := rB_iff.2 (.edge h)
theorem ex_parts : partsR [9, 9, 9] exH = [[1, 2], [0]] := by
  unfold partsR
  rw [if_pos ex_check]
  unfold partsOf
  have h01 : rB 3 exH 0 1 = true := ex_yes 0 1 (by unfold Edge; decide)
  have h12 : rB 3 exH 1 2 = true := ex_yes 1 2 (by unfold Edge; decide)
  have h21 : rB 3 exH 2 1 = true := ex_yes 2 1 (by unfold Edge; decide)
  have h02 : rB 3 exH 0 2 = true := rB_trans _ _ _ h01 h12
  have h10 := ex_no 1 (.inl rfl)
  have h20 := ex_no 2 (.inr rfl)
  have h00 : rB 3 exH 0 0 = true := rB_refl 0
  have h11 : rB 3 exH 1 1 = true := rB_refl 1
  have h22 : rB 3 exH 2 2 = true := rB_refl 2
  show partsS (rB 3 exH) 3 9 (fun _ => false) = _
  simp [partsS, nextS, nextFrom, ready, readyTo, stepOk, partTo, lstTo, h00, h01, h02, h10, h11, h12, h20, h21, h22]

set_option maxRecDepth 100000 in
set_option maxHeartbeats 4000000 in
theorem awake_any (w : World) : Calls Try.prog 11 #[] w fun e w' => e = .returned (.bool true) ∧ Below w.heap.size w w' := by
  have a1 := IntsAt.mk w w.heap.size [9, 9, 9] rfl (by decide)
  obtain ⟨W1, HW1⟩ : ∃ W, Hid (W = w.alloc (.cells #[.int .i64 9, .int .i64 9, .int .i64 9] 3)) := ⟨_, rfl⟩
  have s1 : W1.heap.size = w.heap.size + 1 := by rw [HW1.out]; simp
  have a2 := IntsAt.mk W1 (w.heap.size + 1) [0, 1, 0] s1.symm (by decide)
  obtain ⟨W2, HW2⟩ : ∃ W, Hid (W = W1.alloc (.cells #[.int .i64 0, .int .i64 1, .int .i64 0] 3)) := ⟨_, rfl⟩
  have s2 : W2.heap.size = w.heap.size + 1 + 1 := by rw [HW2.out]; simp [s1]
  have a3 := IntsAt.mk W2 (w.heap.size + 1 + 1) [0, 0, 1] s2.symm (by decide)
  obtain ⟨W3, HW3⟩ : ∃ W, Hid (W = W2.alloc (.cells #[.int .i64 0, .int .i64 0, .int .i64 1] 3)) := ⟨_, rfl⟩
  have s3 : W3.heap.size = w.heap.size + 1 + 1 + 1 := by rw [HW3.out]; simp [s2]
  have a4 := IntsAt.mk W3 (w.heap.size + 1 + 1 + 1) [0, 1, 0] s3.symm (by decide)
  obtain ⟨W4, HW4⟩ : ∃ W, Hid (W = W3.alloc (.cells #[.int .i64 0, .int .i64 1, .int .i64 0] 3)) := ⟨_, rfl⟩
  have s4 : W4.heap.size = w.heap.size + 1 + 1 + 1 + 1 := by rw [HW4.out]; simp [s3]
  have e1 : ExtW (w.alloc (.cells #[.int .i64 9, .int .i64 9, .int .i64 9] 3)) W1 := by rw [← HW1.out]; exact ExtW.refl _
  have e2 : ExtW W1 W2 := by rw [HW2.out]; exact ExtW.alloc _ _
  have e3 : ExtW W2 W3 := by rw [HW3.out]; exact ExtW.alloc _ _
  have e4 : ExtW W3 W4 := by rw [HW4.out]; exact ExtW.alloc _ _
  have b1 : IntsAt W4 (.slice (some ⟨w.heap.size, 0, none⟩) 3 3) [9, 9, 9] := a1.ext (((e1.trans e2).trans e3).trans e4)
  have b2 : IntsAt W4 (.slice (some ⟨w.heap.size + 1, 0, none⟩) 3 3) [0, 1, 0] := by
    have a2' : IntsAt W2 (.slice (some ⟨w.heap.size + 1, 0, none⟩) 3 3) [0, 1, 0] := by rw [HW2.out]; exact a2
    exact a2'.ext (e3.trans e4)
  have b3 : IntsAt W4 (.slice (some ⟨w.heap.size + 1 + 1, 0, none⟩) 3 3) [0, 0, 1] := by
    have a3' : IntsAt W3 (.slice (some ⟨w.heap.size + 1 + 1, 0, none⟩) 3 3) [0, 0, 1] := by rw [HW3.out]; exact a3
    exact a3'.ext e4
  have b4 : IntsAt W4 (.slice (some ⟨w.heap.size + 1 + 1 + 1, 0, none⟩) 3 3) [0, 1, 0] := by rw [HW4.out]; exact a4
  have r1 := RowsAt.mk W4 (w.heap.size + 1 + 1 + 1 + 1) [.slice (some ⟨w.heap.size + 1, 0, none⟩) 3 3, .slice (some ⟨w.heap.size + 1 + 1, 0, none⟩) 3 3, .slice (some ⟨w.heap.size + 1 + 1 + 1, 0, none⟩) 3 3] exH s4.symm rfl (by decide) (fun i hi => by
    rcases mem3 hi rfl with rfl | rfl | rfl
    · exact ⟨_, rfl, b2⟩
    · exact ⟨_, rfl, b3⟩
    · exact ⟨_, rfl, b4⟩)
  obtain ⟨W5, HW5⟩ : ∃ W, Hid (W = W4.alloc (.cells #[.slice (some ⟨w.heap.size + 1, 0, none⟩) 3 3, .slice (some ⟨w.heap.size + 1 + 1, 0, none⟩) 3 3, .slice (some ⟨w.heap.size + 1 + 1 + 1, 0, none⟩) 3 3] 22)) := ⟨_, rfl⟩
  have r2 : RowsAt W5 (.slice (some ⟨w.heap.size + 1 + 1 + 1 + 1, 0, none⟩) 3 3) exH := by rw [HW5.out]; exact r1
  have b5 : IntsAt W5 (.slice (some ⟨w.heap.size, 0, none⟩) 3 3) [9, 9, 9] := b1.ext (by rw [HW5.out]; exact ExtW.alloc _ _)
  have hbel : Below w.heap.size w W5 := by
    rw [HW5.out, HW4.out, HW3.out, HW2.out, HW1.out]
    exact (((((Below.refl _ _).alloc (Nat.le_refl _) _).alloc (by simp) _).alloc (by simp; omega) _).alloc (by simp; omega) _).alloc (by simp; omega) _
  have R2 := Lib.hid (fun o => r2.ext (ExtW.alloc W5 o)); have B5 := Lib.hid (fun o => b5.ext (ExtW.alloc W5 o)); have Hbel := Lib.hid hbel
  clear a1 a2 a3 a4 b1 b2 b3 b4 b5 r1 r2 hbel e1 e2 e3 e4 s1 s2 s3 s4
  go_enter Try.func11, Try.ntmps11
  go_wp2_with fail
  rw [← HW1.out, ← HW2.out, ← HW3.out, ← HW4.out, ← HW5.out]
  clear HW1 HW2 HW3 HW4 HW5
  refine (pPartsFn_any _ _ [9, 9, 9] exH _ (B5.out _) (R2.out _)).mono ?_
  rintro e w6 ⟨v, rfl, hv, hb6⟩
  rw [ex_check]
  rw [ex_parts] at hv
  have Hv := Lib.hid hv; clear hv
  have B6 := Lib.hid ((Hbel.out.alloc Hbel.out.size _).trans (hb6.mono (by have := Hbel.out.size; simp; omega)))
  clear hb6
  have c1 := IntsAt.mk w6 w6.heap.size [1, 2] rfl (by decide)
  have c2 := IntsAt.mk (w6.alloc (.cells #[.int .i64 1, .int .i64 2] 3)) (w6.heap.size + 1) [0] (by simp) (by decide)
  have c3 := RowsAt.mk ((w6.alloc (.cells #[.int .i64 1, .int .i64 2] 3)).alloc (.cells #[.int .i64 0] 3)) (w6.heap.size + 1 + 1) [.slice (some ⟨w6.heap.size, 0, none⟩) 2 2, .slice (some ⟨w6.heap.size + 1, 0, none⟩) 1 1] [[1, 2], [0]] (by simp) rfl (by decide) (fun i hi => by
    have : i = 0 ∨ i = 1 := by simp at hi; omega
    rcases this with rfl | rfl
    · exact ⟨_, rfl, c1.ext (ExtW.alloc _ _)⟩
    · exact ⟨_, rfl, c2⟩)
  have C3 := Lib.hid c3; clear c1 c2 c3
  go_wp2_with fail
  refine (sames_any _ _ [[1, 2], [0]] [[1, 2], [0]] _ (Hv.out.ext (((ExtW.alloc _ _).trans (ExtW.alloc _ _)).trans (ExtW.alloc _ _))) C3.out rfl).mono ?_
  rintro e w7 ⟨rfl, hd7⟩
  have B7 := Lib.hid ((((B6.out.alloc B6.out.size _).alloc (by have := B6.out.size; simp; omega) _).alloc (by have := B6.out.size; simp; omega) _).trans (hd7.below _))
  clear hd7
  have c1 := IntsAt.mk w7 w7.heap.size [1] rfl (by decide)
  have c2 := IntsAt.mk (w7.alloc (.cells #[.int .i64 1] 3)) (w7.heap.size + 1) [2] (by simp) (by decide)
  have c3 := RowsAt.mk ((w7.alloc (.cells #[.int .i64 1] 3)).alloc (.cells #[.int .i64 2] 3)) (w7.heap.size + 1 + 1) [.slice (some ⟨w7.heap.size + 1, 0, none⟩) 1 1] [[2]] (by simp) rfl (by decide) (fun i hi => by
    have : i = 0 := by simp at hi; omega
    subst this
    exact ⟨_, rfl, c2⟩)
  have C1 := Lib.hid c1; have C3 := Lib.hid c3; clear c1 c2 c3
  go_wp2_with fail
  refine (pcheck_any _ _ [1] [[2]] _ (C1.out.ext ((ExtW.alloc _ _).trans (ExtW.alloc _ _))) C3.out).mono ?_
  rintro e w8 ⟨rfl, hb8⟩
  rw [ex_check2]
  have B8 := Lib.hid (((((B7.out.alloc B7.out.size _).alloc (by have := B7.out.size; simp; omega) _).alloc (by have := B7.out.size; simp; omega) _)).trans (hb8.mono (by have := B7.out.size; simp; omega)))
  clear hb8
  go_wp2_with fail
  go_ret
  exact ⟨rfl, B8.out⟩
end Go.Proofs.Ytfnjcjoomaeapaa
