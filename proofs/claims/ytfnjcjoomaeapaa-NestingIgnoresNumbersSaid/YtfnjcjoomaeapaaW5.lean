/- walks: reach -/
import Derived.Test.YtfnjcjoomaeapaaW4
import Derived.Laws.EntriesVeiled
namespace Go.Proofs.Ytfnjcjoomaeapaa
open Go.RowKit

theorem mArr_size (m : Nat → Bool) : (mArr m).size = 8 := rfl
theorem heap_cell {w : World} {B : Nat} {c : Array Value} {t : TypeId} (h : w.heap[B]? = some (.cells c t (0, 0))) (v : Nat) : w.cell? ⟨B, v, none⟩ = c[v]? := by simp [World.cell?, h]
theorem heap_free {w : World} {B : Nat} {c : Array Value} {t : TypeId} (h : w.heap[B]? = some (.cells c t (0, 0))) (v : Nat) : w.frozen? ⟨B, v, none⟩ = false := by simp [World.frozen?, h]

set_option maxHeartbeats 2000000 in
theorem preach_any (u h : Value) (us : List Int) (hs : List (List Int)) (w : World) (i : Nat) (hS : Shape us hs) (hi : i < us.length) (hh : RowsAt w h hs) :
    Calls Try.prog 20 #[.agg #[u, h], .int .i64 i] w fun e w' => (e = .returned (.agg (mArr (rB us.length hs i)))) ∧ Below w.heap.size w w' := by
  have hmf : ∀ (fn : Fn) (first cap : Array Value) (w : World), (Instr.makeFunc fn first cap).run Try.prog w = .ok (.func fn first cap) w := fun _ _ _ _ => rfl
  have HS := Lib.hid hS; clear hS
  have Hh := Lib.hid hh; clear hh
  have h8 : i < 8 := Nat.lt_of_lt_of_le hi HS.out.1
  go_enter Try.func20, Try.ntmps20
  go_wp2_with fail
  refine (dfs_any us hs w (w.heap.size + 1 + 1) w.heap.size (w.heap.size + 1 + 1 + 1) h (by omega) (by omega) (by omega) HS.out Hh.out 9 (fun _ => false) i _ (by decide) hi ?_ ?_).mono ?_
  · unfold MarksAt; rw [heap_old' _ _ _ (by simp), heap_new' _ _ _ (by simp)]; rfl
  · refine ⟨(((((Below.refl _ _).alloc (Nat.le_refl _) _).alloc (by simp) _).alloc (by simp; omega) _).alloc (by simp; omega) _), ?_, ?_⟩
    · rw [World.cell?_alloc_past _ _ _ (by simp; omega), World.cell?_alloc_past _ _ _ (by simp; omega), World.cell?_alloc_past _ _ _ (by simp), World.cell?_alloc_at _ _ _ _ rfl]; rfl
    · rw [World.cell?_alloc_at _ _ _ _ (by simp)]; rfl
  rintro e w1 ⟨rfl, m', hp, hm', hg⟩
  have e1 : m' = rB us.length hs i := by
    funext v
    rw [Bool.eq_iff_iff, hp.all, rB_iff]
  subst e1
  have hbel : Below w.heap.size w w1 := (((((Below.refl _ _).alloc (Nat.le_refl _) _).alloc (by simp) _).alloc (by simp; omega) _).alloc (by simp; omega) _).grown hg (by simp; omega) (fun k hk => by cases hk; omega)
  have hr : w1.heap[w.heap.size + 1]? = some (.cells #[.bool false, .bool false, .bool false, .bool false, .bool false, .bool false, .bool false, .bool false] 51 (0, 0)) := by
    rw [hg.block _ (by simp) (by simp)]
    rw [heap_old' _ _ _ (by simp), heap_old' _ _ _ (by simp), heap_new' _ _ _ (by simp)]
  have hz : w.heap.size + 1 + 1 < w1.heap.size := getsize hm'
  have Hbel := Lib.hid hbel; clear hbel hg hp
  have c0 := hm'.cell (v := 0) (by omega)
  have c1 := hm'.cell (v := 1) (by omega)
  have c2 := hm'.cell (v := 2) (by omega)
  have c3 := hm'.cell (v := 3) (by omega)
  have c4 := hm'.cell (v := 4) (by omega)
  have c5 := hm'.cell (v := 5) (by omega)
  have c6 := hm'.cell (v := 6) (by omega)
  have c7 := hm'.cell (v := 7) (by omega)
  have d0 := heap_cell hr 0
  have d1 := heap_cell hr 1
  have d2 := heap_cell hr 2
  have d3 := heap_cell hr 3
  have d4 := heap_cell hr 4
  have d5 := heap_cell hr 5
  have d6 := heap_cell hr 6
  have d7 := heap_cell hr 7
  have f := heap_free hr
  clear hm' hr
  go_wp2_with fail
  refine bodyPost_ret (v := .agg (mArr (rB us.length hs i))) (by simp [results, Try.results20, go_sem, d0, d1, d2, d3, d4, d5, d6, d7, mArr]) rfl ⟨rfl, ?_⟩
  exact (((((((Hbel.out.setCell (Nat.le_succ _) _).setCell (Nat.le_succ _) _).setCell (Nat.le_succ _) _).setCell (Nat.le_succ _) _).setCell (Nat.le_succ _) _).setCell (Nat.le_succ _) _).setCell (Nat.le_succ _) _).setCell (Nat.le_succ _) _
end Go.Proofs.Ytfnjcjoomaeapaa
