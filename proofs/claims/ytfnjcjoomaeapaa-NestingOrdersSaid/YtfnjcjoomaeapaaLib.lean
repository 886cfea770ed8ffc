/- Representation of slices in memory and the plain notions of layer 34: no condition. -/
import Derived.Test.YtfnjcjoomaeapaaRows
import Derived.WalkKit
import Derived.WalkSpells
import Derived.WalkLawsBesides
import Derived.Deep.QuietTactic
import Derived.BigQuiet
import Derived.Lib.Hide
namespace Go.Proofs.Ytfnjcjoomaeapaa
open Go.RowKit

/-- every cell and frozen mark of w is in w' as it was -/
def ExtW (w w' : World) : Prop := w.heap.size ≤ w'.heap.size ∧ ∀ a v, w.cell? a = some v → w'.cell? a = some v

theorem cell_lt {w : World} {a : Addr} {v : Value} (h : w.cell? a = some v) : a.block < w.heap.size := by
  unfold World.cell? at h
  by_cases hb : a.block < w.heap.size
  · exact hb
  · rw [Array.getElem?_eq_none (by omega)] at h; cases h

theorem ExtW.refl (w : World) : ExtW w w := ⟨Nat.le_refl _, fun _ _ h => h⟩
theorem ExtW.trans {a b c : World} (h : ExtW a b) (k : ExtW b c) : ExtW a c := ⟨Nat.le_trans h.1 k.1, fun p v e => k.2 p v (h.2 p v e)⟩
theorem ExtW.of_below {w w' : World} (h : Below w.heap.size w w') : ExtW w w' :=
  ⟨h.size, fun a v e => by rw [h.cell (cell_lt e)]; exact e⟩

def gI (xs : List Int) (i : Nat) : Int := xs.getD i 0
def gB (xs : List Bool) (i : Nat) : Bool := xs.getD i false
def gR (xs : List (List Int)) (i : Nat) : List Int := xs.getD i []

def IntsAt (w : World) (v : Value) (xs : List Int) : Prop :=
  ∃ a cap, v = .slice a xs.length cap ∧ xs.length ≤ 9223372036854775807 ∧ (∀ i, i < xs.length → ∃ b off, a = some ⟨b, off, none⟩ ∧ b < w.heap.size ∧ w.cell? ⟨b, off + i, none⟩ = some (.int .i64 (gI xs i)))

theorem IntsAt.ext {w w' : World} {v : Value} {xs : List Int} (h : IntsAt w v xs) (e : ExtW w w') : IntsAt w' v xs := by
  obtain ⟨a, c, rfl, hl, hx⟩ := h
  refine ⟨a, c, rfl, hl, fun i hi => ?_⟩
  obtain ⟨b, off, ha, hb, hc⟩ := hx i hi
  exact ⟨b, off, ha, Nat.lt_of_lt_of_le hb e.1, e.2 _ _ hc⟩

def BoolsAt (w : World) (v : Value) (xs : List Bool) : Prop :=
  ∃ a cap, v = .slice a xs.length cap ∧ xs.length ≤ 9223372036854775807 ∧ (∀ i, i < xs.length → ∃ b off, a = some ⟨b, off, none⟩ ∧ b < w.heap.size ∧ w.cell? ⟨b, off + i, none⟩ = some (.bool (gB xs i)))

theorem BoolsAt.ext {w w' : World} {v : Value} {xs : List Bool} (h : BoolsAt w v xs) (e : ExtW w w') : BoolsAt w' v xs := by
  obtain ⟨a, c, rfl, hl, hx⟩ := h
  refine ⟨a, c, rfl, hl, fun i hi => ?_⟩
  obtain ⟨b, off, ha, hb, hc⟩ := hx i hi
  exact ⟨b, off, ha, Nat.lt_of_lt_of_le hb e.1, e.2 _ _ hc⟩

def RowsAt (w : World) (v : Value) (hs : List (List Int)) : Prop :=
  ∃ a cap, v = .slice a hs.length cap ∧ hs.length ≤ 9223372036854775807 ∧ (∀ i, i < hs.length → ∃ b off r, a = some ⟨b, off, none⟩ ∧ b < w.heap.size ∧ w.cell? ⟨b, off + i, none⟩ = some r ∧ IntsAt w r (gR hs i))

theorem RowsAt.ext {w w' : World} {v : Value} {xs : List (List Int)} (h : RowsAt w v xs) (e : ExtW w w') : RowsAt w' v xs := by
  obtain ⟨a, c, rfl, hl, hx⟩ := h
  refine ⟨a, c, rfl, hl, fun i hi => ?_⟩
  obtain ⟨b, off, r, ha, hb, hc, hr⟩ := hx i hi
  exact ⟨b, off, r, ha, Nat.lt_of_lt_of_le hb e.1, e.2 _ _ hc, hr.ext e⟩

def M15 : Int := 1000000000000000
def Hd (hs : List (List Int)) (i j : Nat) : Int := gI (gR hs i) j
def Shape (us : List Int) (hs : List (List Int)) : Prop :=
  us.length ≤ 8 ∧ hs.length = us.length ∧ ∀ i, i < us.length → (gR hs i).length = us.length ∧ 0 ≤ gI us i ∧ gI us i ≤ M15 ∧ ∀ j, j < us.length → 0 ≤ Hd hs i j ∧ Hd hs i j ≤ M15
def colSum (hs : List (List Int)) (j : Nat) : Nat → Int
  | 0 => 0
  | k + 1 => colSum hs j k + Hd hs k j
def Held (us : List Int) (hs : List (List Int)) : Prop := ∀ j, j < us.length → colSum hs j us.length ≤ gI us j
open Classical in
noncomputable def checkS (us : List Int) (hs : List (List Int)) : Int := if Shape us hs then (if Held us hs then 0 else 341) else 340

theorem ret_int {k : IntKind} {a b : Int} (h : a = b) : Ending.returned (.int k a) = .returned (.int k b) := by rw [h]
theorem ret_bool {a b : Bool} (h : a = b) : Ending.returned (.bool a) = .returned (.bool b) := by rw [h]

theorem checkS_340 {us : List Int} {hs : List (List Int)} (h : ¬ Shape us hs) : checkS us hs = 340 := by simp [checkS, h]
theorem checkS_341 {us : List Int} {hs : List (List Int)} (h : Shape us hs) (h' : ¬ Held us hs) : checkS us hs = 341 := by simp [checkS, h, h']
theorem checkS_0 {us : List Int} {hs : List (List Int)} (h : Shape us hs) (h' : Held us hs) : checkS us hs = 0 := by simp [checkS, h, h']

/-- the first k rows are in order -/
def RowsOk (us : List Int) (hs : List (List Int)) (k : Nat) : Prop :=
  ∀ i, i < k → (gR hs i).length = us.length ∧ 0 ≤ gI us i ∧ gI us i ≤ M15 ∧ ∀ j, j < us.length → 0 ≤ Hd hs i j ∧ Hd hs i j ≤ M15
def ColsOk (us : List Int) (hs : List (List Int)) (k : Nat) : Prop := ∀ j, j < k → colSum hs j us.length ≤ gI us j

/-- the world after some draws -/
def Drew (w w' : World) : Prop := ∃ n, w' = w.drewN n
theorem Drew.refl (w : World) : Drew w w := ⟨0, rfl⟩
theorem Drew.trans {a b c : World} (h : Drew a b) (k : Drew b c) : Drew a c := by
  obtain ⟨n, rfl⟩ := h; obtain ⟨m, rfl⟩ := k; exact ⟨n + m, by rw [World.drewN_drewN]⟩
theorem Drew.drewN {a b : World} (h : Drew a b) (n : Nat) : Drew a (b.drewN n) := h.trans ⟨n, rfl⟩
theorem Drew.ext {a b : World} (h : Drew a b) : ExtW a b := by
  obtain ⟨n, rfl⟩ := h; exact ⟨Nat.le_refl _, fun _ _ h => h⟩
theorem Drew.below {a b : World} (h : Drew a b) (B : Nat) : Below B a b := by
  obtain ⟨n, rfl⟩ := h; exact ⟨rfl, rfl, rfl, Nat.le_refl _, fun _ _ => rfl⟩
theorem quiet_drew {P : Program} {f : FuncId} {args : Array Value} {w : World} {n : Nat} {v : Value}
    (h : Calls P f args (w.drewN n) fun e w' => e = .returned v ∧ Drew (w.drewN n) w') : Calls P f args (w.drewN n) fun e w'' => e = .returned v ∧ ∃ m, w'' = w.drewN m :=
  h.mono fun _ _ ⟨he, hm⟩ => ⟨he, Drew.trans ⟨n, rfl⟩ hm⟩

end Go.Proofs.Ytfnjcjoomaeapaa
