/- walks: the tape -/
import Derived.Test.YtfnjcjoomaeapaaW3
import Derived.Test.YtfnjcjoomaeapaaW6
import Derived.Deep.RegionHeld3
namespace Go.Proofs.Ytfnjcjoomaeapaa
open Go.RowKit

structure TapeEnv (w0 w : World) (bt : Nat) (L : Value) (l : List Int) : Prop where
  lo : w0.heap.size ≤ bt
  ints : IntsAt w0 L l
  below : Below w0.heap.size w0 w
  tape : ∃ at' : Nat, at' ≤ l.length ∧ w.heap[bt]? = some (.cells #[L, .int .i64 at'] 45 (0, 0))

theorem TapeEnv.grown {w0 w w' : World} {bt : Nat} {L : Value} {l : List Int} {row : Option Nat} (h : TapeEnv w0 w bt L l) (hg : w.grownBy w' row) (hne : some bt ≠ row) (hr : ∀ q, row = some q → w0.heap.size ≤ q) : TapeEnv w0 w' bt L l := by
  obtain ⟨a, ha, hb⟩ := h.tape
  exact ⟨h.lo, h.ints, h.below.grown hg h.below.size hr, a, ha, by rw [hg.block bt (Array.getElem?_eq_some_iff.1 hb).1 hne]; exact hb⟩
theorem TapeEnv.lt {w0 w : World} {bt : Nat} {L : Value} {l : List Int} (h : TapeEnv w0 w bt L l) : bt < w.heap.size := by
  obtain ⟨a, _, hb⟩ := h.tape
  exact (Array.getElem?_eq_some_iff.1 hb).1

def NextPost (w0 : World) (bt : Nat) (L : Value) (l : List Int) (P : Int → Prop) (w : World) (e : Ending) (w' : World) : Prop :=
  ∃ n : Int, e = .returned (.int .i64 n) ∧ P n ∧ TapeEnv w0 w' bt L l ∧ w.grownBy w' (some bt)

theorem grown_drewN (w : World) (n : Nat) (row : Option Nat) : w.grownBy (w.drewN n) row := ⟨rfl, rfl, rfl, Nat.le_refl _, fun _ _ _ => rfl⟩
theorem grown_drew (w : World) (row : Option Nat) : w.grownBy w.drew row := ⟨rfl, rfl, rfl, Nat.le_refl _, fun _ _ _ => rfl⟩

set_option maxHeartbeats 1000000 in
theorem next_any (w0 : World) (bt : Nat) (L : Value) (l : List Int) (most : Int) (w : World) (h : TapeEnv w0 w bt L l) (h1 : 1 ≤ most) (h2 : most ≤ 9223372036854775807) :
    Calls Try.prog 16 #[.pointer (some ⟨bt, 0, none⟩), .int .i64 most] w (NextPost w0 bt L l (fun n => 0 ≤ n ∧ n < most) w) := by
  have hlt := h.lt
  obtain ⟨a, ha, hb⟩ := h.tape
  have H := Lib.hid h; clear h
  have c0 : w.cell? ⟨bt, 0, none⟩ = some L := by rw [heap_cell hb]; rfl
  have c1 : w.cell? ⟨bt, 1, none⟩ = some (.int .i64 a) := by rw [heap_cell hb]; rfl
  have f1 : w.frozen? ⟨bt, 1, none⟩ = false := heap_free hb 1
  obtain ⟨la, lc, rfl, hll, hlx⟩ := H.out.ints
  have Hlx := Lib.hid hlx; clear hlx
  have Hb := Lib.hid hb; clear hb
  by_cases hal : a < l.length
  · obtain ⟨b, o, rfl, hbl, hc⟩ := Hlx.out a hal
    have hbt : b ≠ bt := by have := H.out.lo; omega
    have hc' : w.cell? ⟨b, o + a, none⟩ = some (.int .i64 (gI l a)) := by rw [H.out.below.cell hbl]; exact hc
    clear hc
    have hmod := Lib.hid (fun W => mod_any (gI l a) most W h1 h2)
    have hr1 := Int.emod_nonneg (gI l a) (show most ≠ 0 by omega)
    have hr2 := Int.emod_lt_of_pos (gI l a) (show 0 < most by omega)
    have Hr := Lib.hid (And.intro hr1 hr2); clear hr1 hr2
    go_enter Try.func16, Try.ntmps16
    go_wp2_with fail
    go_quiet (fail)
    go_wp2_with fail
    have hs1 : (0 : Int) ≤ (a : Int) + 1 - 1 := by omega
    go_quiet ((go_at_call 12; exact Calls.quiet_of_same ((hmod.out _).mono (fun _ _ ⟨he, hw⟩ => ⟨he, hw.symm⟩))))
    go_wp2_with fail
    go_ret
    refine ⟨_, rfl, Hr.out, ?_, ?_⟩
    · refine ⟨H.out.lo, H.out.ints, ?_, a + 1, by omega, ?_⟩
      · exact ((H.out.below.grown (grown_drewN _ _ none) H.out.below.size (fun q e => by cases e)).setCell H.out.lo _).grown (grown_drewN _ _ none) (by have := H.out.below.size; simpa [World.setCell] using this) (fun q e => by cases e)
      · exact blk_set (w := w) Hb.out 1 (.int .i64 ((a : Int) + 1))
    · exact grownBy_trans (grownBy_trans (grown_drewN _ _ _) (grownBy_setCell _ ⟨bt, 1, none⟩ _)) (grown_drewN _ _ _)
  · go_enter Try.func16, Try.ntmps16
    go_wp2_with fail
    go_quiet (fail)
    go_wp2_with fail
    go_ret
    exact ⟨0, rfl, ⟨by omega, by omega⟩, H.out.grown (grown_drewN _ _ none) (by simp) (fun q e => by cases e), grown_drewN _ _ _⟩
set_option maxHeartbeats 1000000 in
theorem bool_any (w0 : World) (bt : Nat) (L : Value) (l : List Int) (most : Int) (w : World) (h : TapeEnv w0 w bt L l) (h1 : 1 ≤ most) (h2 : most ≤ 9223372036854775807) :
    Calls Try.prog 18 #[.pointer (some ⟨bt, 0, none⟩), .int .i64 most] w fun e w' => (∃ b : Bool, e = .returned (.bool b)) ∧ TapeEnv w0 w' bt L l ∧ w.grownBy w' (some bt) := by
  have H := Lib.hid h; clear h
  go_enter Try.func18, Try.ntmps18
  go_wp2_with fail
  refine (next_any w0 bt L l most w H.out h1 h2).mono ?_
  rintro e w1 ⟨n, rfl, hn, ht, hg⟩
  have Ht := Lib.hid ht; have Hg := Lib.hid hg; clear ht hg hn
  go_wp2_with fail
  go_ret
  exact ⟨⟨_, rfl⟩, Ht.out, Hg.out⟩

set_option maxHeartbeats 1000000 in
theorem pick_any (w0 : World) (bt : Nat) (L : Value) (l : List Int) (v : Value) (xs : List Int) (P : Int → Prop) (w : World) (h : TapeEnv w0 w bt L l) (hx : IntsAt w v xs) (hne : v.ownBlock ≠ some bt) (h1 : 1 ≤ xs.length) (hP : ∀ i, i < xs.length → P (gI xs i)) :
    Calls Try.prog 17 #[.pointer (some ⟨bt, 0, none⟩), v] w (NextPost w0 bt L l P w) := by
  obtain ⟨xa, xc, rfl, hxl, hxx⟩ := hx
  have Hxx := Lib.hid hxx; clear hxx
  have H := Lib.hid h; clear h
  have HP := Lib.hid hP; clear hP
  go_enter Try.func17, Try.ntmps17
  go_wp2_with fail
  refine (next_any w0 bt L l xs.length w H.out (by omega) (by omega)).mono ?_
  rintro e w1 ⟨n, rfl, ⟨hn1, hn2⟩, ht, hg⟩
  obtain ⟨i, rfl⟩ := Int.eq_ofNat_of_zero_le hn1
  have hi : i < xs.length := by omega
  obtain ⟨b, o, rfl, hb, hc⟩ := Hxx.out i hi
  have hc' := hg.cell hc (by simpa [Value.ownBlock] using hne)
  have Ht := Lib.hid ht; have Hg := Lib.hid hg; clear ht hg hc
  go_wp2_with fail
  go_ret
  exact ⟨_, rfl, HP.out i hi, Ht.out, Hg.out⟩

/-- make, at a step of a region that draws -/
theorem upon_make {P : Program} {w : World} {o : Oper} {a : Act} {K : Act → World → Prop} {Q : Exit → Act → World → Prop} (t e : TypeId) (i : TypeInfo) (z : Value) (h1 : P.underlying t = some (.slice e)) (h2 : P.info? e = some i) (h3 : i.zero = some z) (h4 : i.size = 1)
    (n : Nat) (b2 : i.bytes * n ≤ 281474976710656) (b3 : n ≤ maxLen)
    (hK : ∀ w', w'.ownsRow 0 e 1 (.slice (some ⟨w.heap.size, 0, none⟩) n n) n (madeCells z.cells (n * 1)).toList → w.grownBy w' none → K (a.put o.dst (.slice (some ⟨w.heap.size, 0, none⟩) n n)) w') :
    Oper.upon P o a K Q ((Sem.run P (Instr.makeSlice t (.int .i64 (n : Int)) (.int .i64 (n : Int))) w).andThen fun a w' => Result.ok (Next.value a) w') := by
  obtain ⟨w', hrun, r1, r2⟩ := run_make_full (P := P) w 0 t e i z 1 h1 h2 h3 h4 .i64 .i64 n b2 b3 (Nat.zero_le _)
  rw [hrun]
  exact hK w' r1 r2

end Go.Proofs.Ytfnjcjoomaeapaa
