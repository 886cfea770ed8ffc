/- The frame of a law: what it reads stays as it was, it returns true; no condition. -/
import Derived.Test.YtfnjcjoomaeapaaMem
import Derived.ProofKit
import Derived.Lib.SmallJoins
import Derived.Deep.Matrix
namespace Go.Proofs.Ytfnjcjoomaeapaa
open Go.ChangeShapes Go.WideShapes Go.ChangeAt Go.RowKit Go.Joins Go.Deep

theorem Try.own : ownKnob Try.prog.godebug = none := by kernel_rfl
theorem Try.laidOut : laidOutB Try.prog = true := by kernel_rfl
theorem Try.cells3 : Try.prog.cellsOf 3 = 1 := by kernel_rfl
theorem Try.cells22 : Try.prog.cellsOf 22 = 1 := by kernel_rfl
theorem Try.cells25 : Try.prog.cellsOf 25 = 2 := by kernel_rfl

theorem trodAll_below {H : Type} {enc : TypeId × Value → H} {P : Program} (hl : laidOutB P = true) {W W' : World} (hb : Below W.heap.size W W') :
    ∀ (ts : List TypeId) (vs : List Value) (ds : List (DataW H)) (ps : List MemPlace), (∀ t ∈ ts, P.readableRec t = true ∧ t < P.types.size) → (∀ x ∈ ps, x.block < W.heap.size) →
      DataW.TrodAll enc P W 0 (fun _ => true) true ts vs ds ps → DataW.TrodAll enc P W' 0 (fun b => decide (b < W.heap.size)) true ts vs ds ps
  | [], vs, ds, ps, _, _, h => by
    obtain ⟨rfl, rfl, rfl⟩ := trodAll_nil h
    exact trodAll_mk0
  | t :: ts, vs, ds, ps, hr, hlt, h => by
    obtain ⟨v, vs', d, ds', p, q, rfl, rfl, rfl, h1, h2⟩ := trodAll_cons h
    exact trodAll_cons_mk (Below.trod hl (hr t (by simp)).1 (hr t (by simp)).2 h1 hb (fun x hx => hlt x (by simp [hx])))
      (trodAll_below hl hb ts vs' ds' q (fun t ht => hr t (by simp [ht])) (fun x hx => hlt x (by simp [hx])) h2)

/-- what a law owes: it returns true; below the heap's old size nothing has turned -/
theorem law_post {H : Type} {enc : TypeId × Value → H} {P : Program} {f : Func} {s : ChangeSpec} {tb : TypeId} (hl : laidOutB P = true) (htb : P.underlying tb = some .bool) (hres : f.resultTypes = #[tb])
    (hr : ∀ t ∈ f.params.toList, P.readableRec t = true ∧ t < P.types.size) {W W' : World} {args : Array Value} {ds gs : List (DataW H)} {before : List MemPlace} (hvars : s.vars = [])
    (hW : DataW.Whole enc P f.params.toList s.vars false W args.toList ds gs before) (hfn : s.fn H (ds ++ gs) = { results := [.lit (.bool true)], args := ds }) (hb : Below W.heap.size W W') :
    s.post enc P f false true false false W args (.bool true) W' := by
  have hlt : ∀ x ∈ before, x.block < W.heap.size := fun x hx => hW.lt x hx
  have hW0 := hW
  obtain ⟨p, q, hA, hV, rfl, hfz, hnd⟩ := hW
  rw [hvars] at hV
  obtain ⟨rfl, rfl⟩ := trodVars_none hV
  refine ⟨ds, [], p ++ [], [], p, [], hW0, ?_, ?_, ?_, hb.frame _, fun h => by cases h⟩
  · rw [hfn, hres]; exact trodAll_mk1 (shut_bool htb true)
  · rw [hfn]; exact trodAll_below hl hb _ _ _ _ hr (fun x hx => hlt x (by simp [hx])) hA
  · rw [hfn, hvars]; exact hV

theorem len_lits {H : Type} (k : IntKind) (zs : List Int) : (lits (H := H) k zs).length = zs.length := by simp [lits]

theorem ints_of {H : Type} {enc : TypeId × Value → H} {W : World} {n : Nat} {c : Value} {y : DataW H × List MemPlace} (h : DataW.trod enc Try.prog W 0 (fun _ => true) true n 22 [c] = some y) : ∃ xs, IntsAt W c xs := by
  rcases open_ints Try.underlying22 Try.underlying3 Try.cells3 h with ⟨hcs, _⟩ | ⟨a, len, cap, zs, hcs, _, hl, hm, hz, _, hcell, _⟩
  · simp only [List.cons.injEq, and_true] at hcs
    subst hcs
    exact ⟨[], none, 0, rfl, by simp, fun i hi => by simp at hi⟩
  · simp only [List.cons.injEq, and_true] at hcs
    subst hcs
    simp only [if_true] at hz
    have hlz : (zs.take len).length = len := by simp; omega
    refine ⟨zs.take len, some a, cap, by rw [hlz], by unfold maxLen at hm; omega, fun i hi => ?_⟩
    have hc := hcell i (by omega)
    have hsp := World.cell?_spot (hcell 0 (by omega))
    obtain ⟨b, o, sp⟩ := a
    have h2 : sp = none := by simpa [Addr.add] using hsp
    subst h2
    rw [add_plain] at hc
    refine ⟨b, o, rfl, cell_lt hc, ?_⟩
    · rw [hc]
      have : i < len := by omega
      simp [gI, List.getElem?_take, this]

theorem rows_of {H : Type} {enc : TypeId × Value → H} {W : World} {n : Nat} {c : Value} {y : DataW H × List MemPlace} (h : DataW.trod enc Try.prog W 0 (fun _ => true) true n 23 [c] = some y) : ∃ hs, RowsAt W c hs := by
  rcases open_int_rows Try.underlying23 Try.underlying22 Try.underlying3 Try.cells22 Try.cells3 h with ⟨hcs, _⟩ | ⟨a, len, cap, A, L, C, Z, hcs, _, hl, hm, _, hrows⟩
  · simp only [List.cons.injEq, and_true] at hcs
    subst hcs
    exact ⟨[], none, 0, rfl, by simp, fun i hi => by simp at hi⟩
  · simp only [List.cons.injEq, and_true] at hcs
    subst hcs
    refine ⟨(List.range len).map (fun r => (Z r).take (L r)), some a, cap, by simp, by simp; unfold maxLen at hm; omega, fun i hi => ?_⟩
    have hi' : i < len := by simpa using hi
    obtain ⟨h1, h2, h3, h4, h5, h6, h7⟩ := hrows i (by omega)
    have hsp := World.cell?_spot (hrows 0 (by omega)).1
    have hlt := cell_lt h1
    obtain ⟨b, o, sp⟩ := a
    have h8 : sp = none := by simpa [Addr.add] using hsp
    subst h8
    rw [add_plain] at h1 hlt
    refine ⟨b, o, _, rfl, hlt, h1, ?_⟩
    have e : gR ((List.range len).map (fun r => (Z r).take (L r))) i = (Z i).take (L i) := by simp [gR, hi']
    rw [e]
    have hlz : ((Z i).take (L i)).length = L i := by simp; omega
    refine ⟨A i, C i, by rw [hlz], by unfold maxLen at h3; omega, fun x hx => ?_⟩
    cases hA : A i with
    | none => have := h6 hA; omega
    | some a' =>
      have hc := (h7 a' hA).2 x (by omega)
      have hsp := World.cell?_spot ((h7 a' hA).2 0 (by omega))
      have hlt := cell_lt hc
      obtain ⟨b', o', sp'⟩ := a'
      have h9 : sp' = none := by simpa [Addr.add] using hsp
      subst h9
      rw [add_plain] at hc hlt
      refine ⟨b', o', rfl, hlt, ?_⟩
      rw [hc]
      have : x < L i := by omega
      simp [gI, List.getElem?_take, this]

/-- a nest that came in reads as numbers -/
theorem nest_of {H : Type} {enc : TypeId × Value → H} {W : World} {v : Value} {d : DataW H} {p : List MemPlace} {b0 : Nat} (hv : Value.okWide Try.prog W .any b0 25 v) (h : DataW.Trod enc Try.prog W 0 (fun _ => true) true 25 v d p) :
    ∃ u h us hs, v = .agg #[u, h] ∧ IntsAt W u us ∧ RowsAt W h hs := by
  obtain ⟨c0, c1, y0, y1, m, rfl, rfl, rfl, hy0, hy1⟩ := open_agg2 Try.underlying25 (by kernel_rfl) Try.cells25 hv h
  obtain ⟨us, hu⟩ := ints_of hy0
  obtain ⟨hs, hh⟩ := rows_of hy1
  exact ⟨c0, c1, us, hs, rfl, hu, hh⟩

end Go.Proofs.Ytfnjcjoomaeapaa
