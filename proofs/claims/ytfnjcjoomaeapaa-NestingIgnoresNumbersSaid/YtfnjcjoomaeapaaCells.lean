/- Memory: a row of cells that a law keeps; what Reach lists -/
import Derived.Test.YtfnjcjoomaeapaaW18
import Derived.Test.YtfnjcjoomaeapaaOrder
namespace Go.Proofs.Ytfnjcjoomaeapaa
open Go.RowKit

structure CAt (w : World) (B n : Nat) (f : Nat → Value) : Prop where
  cell : ∀ k, k < n → w.cell? ⟨B, k, none⟩ = some (f k)
  free : ∀ k, w.frozen? ⟨B, k, none⟩ = false
  lt : B < w.heap.size
theorem CAt.set {w : World} {B n : Nat} {f : Nat → Value} (h : CAt w B n f) (k : Nat) (v : Value) : CAt (w.setCell ⟨B, k, none⟩ v) B n (fun x => if x = k then v else f x) := by
  refine ⟨fun x hx => ?_, fun x => (World.frozen?_setCell _ _ _ _).trans (h.free x), by simpa [World.setCell] using h.lt⟩
  rw [cell_setCell (h.cell x hx) rfl]
  by_cases e : x = k
  · subst e; simp
  · rw [if_neg (fun e2 => e (congrArg Addr.off e2)), if_neg e]
theorem CAt.congr {w : World} {B n : Nat} {f g : Nat → Value} (h : CAt w B n f) (e : ∀ k, k < n → f k = g k) : CAt w B n g := ⟨fun k hk => by rw [← e k hk]; exact h.cell k hk, h.free, h.lt⟩
theorem CAt.kept {w w' : World} {B n : Nat} {f : Nat → Value} (h : CAt w B n f) {row : Option Nat} (hg : w.grownBy w' row) (hr : some B ≠ row) : CAt w' B n f :=
  ⟨fun k hk => by rw [World.cell?_of_block (w := w) (hg.block B h.lt hr)]; exact h.cell k hk, fun k => by rw [World.frozen?_of_block (w := w) (hg.block B h.lt hr)]; exact h.free k, Nat.lt_of_lt_of_le h.lt hg.size⟩
theorem CAt.below {w w' : World} {B n : Nat} {f : Nat → Value} (h : CAt w B n f) (hb : Below w.heap.size w w') : CAt w' B n f :=
  ⟨fun k hk => below_cells hb _ _ _ (h.cell k hk), fun k => by rw [hb.frozen h.lt]; exact h.free k, Nat.lt_of_lt_of_le h.lt hb.size⟩
theorem CAt.drew {w : World} {B n : Nat} {f : Nat → Value} (h : CAt w B n f) : CAt w.drew B n f := ⟨h.cell, h.free, h.lt⟩
theorem CAt.mk' {w : World} {e : TypeId} {z : Value} {q n : Nat} (h : w.ownsRow 0 e 1 (.slice (some ⟨q, 0, none⟩) n n) n (madeCells #[z] (n * 1)).toList) : CAt w q n (fun _ => z) :=
  ⟨(UZ.mk' h).cell, (UZ.mk' h).free, (UZ.mk' h).lt⟩

theorem CAt.neg1 {w : World} {B n i : Nat} (h : CAt w B n (fun k => .int .i64 (if k < i then -1 else 0))) : CAt (w.setCell ⟨B, i, none⟩ (.int .i64 (-1))) B n (fun k => .int .i64 (if k < i + 1 then -1 else 0)) := by
  refine (h.set i (.int .i64 (-1))).congr fun k hk => ?_
  by_cases e : k = i
  · subst e; simp
  · have : (k < i + 1) = (k < i) := by simp; omega
    simp only [if_neg e, this]
theorem reach_in {us : List Int} {hs : List (List Int)} (hc : checkS us hs = 0) {i : Nat} (hi : i < us.length) : reachE us hs i = 0 ∧ reachR us hs i = reachTo (rB us.length hs) i us.length := by
  have h1 : reachE us hs i = 0 := by unfold reachE; rw [if_pos hc, if_neg (by omega)]
  exact ⟨h1, by unfold reachR; rw [if_pos h1]; simp⟩
theorem decide_take_succ {xs : List Int} {k : Nat} (v : Int) (h : k < xs.length) : decide (v ∈ xs.take (k + 1)) = (decide (v ∈ xs.take k) || decide (gI xs k = v)) := by
  rw [Bool.eq_iff_iff]
  simp only [decide_eq_true_eq, Bool.or_eq_true, take_succ_mem h]
  exact ⟨fun h => h.imp id Eq.symm, fun h => h.imp id Eq.symm⟩
theorem reach_mem {R : Nat → Nat → Bool} {i n v k : Nat} (hv : v < n) (hk : (reachTo R i n).length ≤ k) : decide ((v : Int) ∈ (reachTo R i n).take k) = R i v := by
  rw [List.take_of_length_le hk, Bool.eq_iff_iff]
  simp only [decide_eq_true_eq, reachTo_has]
  exact ⟨fun h => h.2, fun h => ⟨hv, h⟩⟩
end Go.Proofs.Ytfnjcjoomaeapaa
