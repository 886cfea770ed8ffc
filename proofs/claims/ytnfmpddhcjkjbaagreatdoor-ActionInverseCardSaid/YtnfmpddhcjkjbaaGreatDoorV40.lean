/- a tape that came in; no condition. -/
import Derived.Test.YtnfmpddhcjkjbaaGreatDoorV39
import Derived.Test.YtnfmpddhcjkjbaaGreatDoorV34
import Derived.ProofKit
import Derived.Lib.SmallJoins
import Derived.ChangeSlices
namespace Go.Proofs.YtnfmpddhcjkjbaaGreatDoor
open Go Go.RowKit Go.SX
open ChangeShapes
theorem add_flat (b o n : Nat) : (⟨b, o, none⟩ : Addr).add n = ⟨b, o + n, none⟩ := by simp [Addr.add]
theorem cell_in {w : World} {b o : Nat} {v : Value} (h : w.cell? ⟨b, o, none⟩ = some v) : b < w.heap.size := by
  by_cases hb : b < w.heap.size
  · exact hb
  · have : w.heap[b]? = none := Array.getElem?_eq_none (by omega)
    simp [World.cell?, this] at h
theorem cell_same {w w' : World} {b o : Nat} (h : w'.heap[b]? = w.heap[b]?) : w'.cell? ⟨b, o, none⟩ = w.cell? ⟨b, o, none⟩ := by
  simp only [World.cell?, h]
/-- a tape that came in -/
theorem tp_of {H : Type} {enc : TypeId × Value → H} {W : World} {fuel nt : Nat} {c : Value} {y : DataW H × List MemPlace} (h : DataW.trod enc Tryz.prog W 0 (fun _ => true) true fuel 39 [c] = some y) : ∃ zs, Tp (envP Tryz.prog tt nt W).toEnv c zs := by
  rcases open_ints Tryz.underlying39 Tryz.underlying3 (by kernel_rfl) h with ⟨hcs, _⟩ | ⟨a, len, cap, zs, hcs, _, hl, hm, hz, _, hcell, _⟩
  · simp only [List.cons.injEq, and_true] at hcs
    subst hcs
    exact ⟨[], none, 0, rfl, fun i hi => absurd hi (by simp)⟩
  · simp only [List.cons.injEq, and_true] at hcs
    subst hcs
    simp only [if_true] at hz
    have hlz : (zs.take len).length = len := by simp; omega
    refine ⟨zs.take len, some a, cap, by rw [hlz], fun i hi => ?_⟩
    rw [hlz] at hi
    have hc := hcell i (by omega)
    have hsp := World.cell?_spot (hcell 0 (by omega))
    obtain ⟨b, o, sp⟩ := a
    have h2 : sp = none := by simpa [Addr.add] using hsp
    subst h2
    rw [add_flat] at hc
    have hb := cell_in hc
    refine ⟨⟨b, o + i, none⟩, fun w' hw => ?_, fun w' hw => ?_⟩
    · simp only [Instr.indexAt, asIntOf, Sem.run_bind, run_underlying Tryz.underlying39, Result.andThen_ok, Sem.run_pure]
      have hcc : 0 ≤ (i : Int) ∧ (i : Int) < (len : Int) := by omega
      simp only [hcc, and_self, if_true, Sem.run_bind, Go.SX.run_sizeOf tok3, Result.andThen_ok, Sem.run_pure]
      have e : (i : Int).toNat * ti3.size = i := by show i * 1 = i; omega
      rw [e, add_flat]
    · have hg : (zs.take len).getD i 0 = zs.getD i 0 := by simp [List.getElem?_take, hi]
      rw [hg]
      refine load_cell tok3 ?_ rfl
      rw [cell_same (hw.old b hb (by simp))]
      exact hc
end Go.Proofs.YtnfmpddhcjkjbaaGreatDoor
