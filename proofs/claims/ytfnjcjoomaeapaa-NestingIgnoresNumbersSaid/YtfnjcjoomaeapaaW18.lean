/- NestingOfMadeFunds: its walk -/
import Derived.Test.YtfnjcjoomaeapaaW17
import Derived.Test.YtfnjcjoomaeapaaW14
import Derived.Test.YtfnjcjoomaeapaaW15
namespace Go.Proofs.Ytfnjcjoomaeapaa
open Go.RowKit

set_option maxHeartbeats 1000000 in
theorem new_any (L : Value) (l : List Int) (w : World) (h : IntsAt w L l) :
    Calls Try.prog 7 #[L] w fun e w' => e = .returned (.pointer (some ⟨w.heap.size, 0, none⟩)) ∧ TapeEnv w w' w.heap.size L l := by
  obtain ⟨la, lc, rfl, -, -⟩ := id h
  have H := Lib.hid h; clear h
  go_enter Try.func7, Try.ntmps7
  go_wp2_with fail
  go_ret
  exact ⟨rfl, Nat.le_refl _, H.out, (Below.refl _ _).alloc (Nat.le_refl _) _, 0, Nat.zero_le _, by exact heap_new' _ _ _ rfl⟩

theorem TapeEnv.fromBelow {w0 w w' : World} {bt : Nat} {L : Value} {l : List Int} (h : TapeEnv w0 w bt L l) (hg : w.grownBy w' (some bt)) : Below w0.heap.size w0 w' :=
  h.below.grown hg h.below.size (fun q e => by cases e; exact h.lo)

set_option maxRecDepth 100000 in
set_option maxHeartbeats 8000000 in
theorem madeFunds_any (L : Value) (l : List Int) (i : Int) (free : Bool) (w : World) (hL : IntsAt w L l) :
    Calls Try.prog 6 #[L, .int .i64 i, .bool free] w fun e w' => e = .returned (.bool true) ∧ Below w.heap.size w w' := by
  have HL := Lib.hid hL; clear hL
  go_enter Try.func6, Try.ntmps6
  go_wp2_with fail
  refine (new_any L l w HL.out).mono ?_
  rintro e w1 ⟨rfl, ht⟩
  have Ht := Lib.hid ht; clear ht
  go_wp2_with fail
  refine (made_any w _ L l 8 free w1 Ht.out (Nat.le_refl _)).mono ?_
  rintro e w2 ⟨u, h, us, hs, rfl, hu, hh, hlen, hS, hH, hg⟩
  obtain ⟨ua, uc, rfl, -, -⟩ := id hu
  obtain ⟨ha, hc, rfl, -, -⟩ := id hh
  have B2 := Lib.hid (Ht.out.fromBelow hg)
  have Hchk := Lib.hid (checkS_0 hS hH)
  have Hext := Lib.hid (show ∀ W, Below w2.heap.size w2 W → IntsAt W (.slice ua us.length uc) us ∧ RowsAt W (.slice ha hs.length hc) hs from fun W hb => ⟨hu.ext (ExtW.of_below hb), hh.ext (ExtW.of_below hb)⟩)
  clear hu hh hS hH hg
  have z0 : (w2.alloc (.cells #[.slice none 0 0, .slice none 0 0] 25)).cell? ⟨w2.heap.size, 0, none⟩ = some (.slice none 0 0) := by rw [World.cell?_alloc_at _ _ _ _ rfl]; rfl
  have z1 : (w2.alloc (.cells #[.slice none 0 0, .slice none 0 0] 25)).cell? ⟨w2.heap.size, 1, none⟩ = some (.slice none 0 0) := by rw [World.cell?_alloc_at _ _ _ _ rfl]; rfl
  have z2 : ∀ k, (w2.alloc (.cells #[.slice none 0 0, .slice none 0 0] 25)).frozen? ⟨w2.heap.size, k, none⟩ = false := fun k => heap_free (heap_new' w2 _ _ rfl) k
  have hq : (w2.alloc (.cells #[.slice ua us.length uc, .slice ha hs.length hc] 25)).heap[w2.heap.size]? = some (.cells #[.slice ua us.length uc, .slice ha hs.length hc] 25 (0, 0)) := heap_new' w2 _ _ rfl
  have Hq0 := Lib.hid (heap_cell hq 0)
  have Hq1 := Lib.hid (heap_cell hq 1)
  have Hb3 := Lib.hid (show Below w2.heap.size w2 (w2.alloc (.cells #[.slice ua us.length uc, .slice ha hs.length hc] 25)) from (Below.refl _ _).alloc (Nat.le_refl _) _)
  clear hq
  go_wp2_with fail
  clear z0 z1 z2
  have Hlt := Lib.hid (show w2.heap.size < (w2.alloc (.cells #[.slice ua us.length uc, .slice ha hs.length hc] 25)).heap.size by simp)
  generalize w2.alloc (.cells #[.slice ua us.length uc, .slice ha hs.length hc] 25) = w3 at Hq0 Hq1 Hb3 Hlt ⊢
  have H15 := Lib.hid (show ∀ W, Below w2.heap.size w2 W → Calls Try.prog 15 #[.agg #[.slice ua us.length uc, .slice ha hs.length hc]] W fun e w' => (e = .returned (.int .i64 0)) ∧ Below W.heap.size W w' from fun W hb => by have := pcheck_any _ _ us hs W (Hext.out _ hb).1 (Hext.out _ hb).2; rw [Hchk.out] at this; exact this)
  have H14 := Lib.hid (show ∀ W j, Below w2.heap.size w2 W → Calls Try.prog 14 #[.agg #[.slice ua us.length uc, .slice ha hs.length hc], .int .i64 j] W fun e w' => (e = .returned (.bool true)) ∧ Below W.heap.size W w' from fun W j hb => tells_any _ _ us hs j W (Hext.out _ hb).1 (Hext.out _ hb).2)
  by_cases hz : (us.length : Int) ≤ 1
  all_goals
    go_wp2_with fail
    go_region_held3 (fun w' => w'.cell? ⟨w2.heap.size, 0, none⟩ = some (.slice ua us.length uc) ∧ w'.cell? ⟨w2.heap.size, 1, none⟩ = some (.slice ha hs.length hc) ∧ Below w2.heap.size w2 w' ∧ w2.heap.size < w'.heap.size)
      (first | exact ⟨Hq0.out, Hq1.out, Hb3.out.drew, Hlt.out⟩ | assumption)
      (first
        | (go_at_call 15; obtain ⟨s0, s1, s2, s3⟩ := (by assumption : (_ ∧ _ ∧ Below w2.heap.size w2 _ ∧ _)); refine (H15.out _ s2).mono ?_; rintro e w7 ⟨rfl, hb7⟩; have b7 : _ ∧ _ ∧ _ ∧ _ := ⟨below_cells hb7 _ _ _ s0, below_cells hb7 _ _ _ s1, below_step s2 hb7, Nat.lt_of_lt_of_le s3 hb7.size⟩; clear hb7 s0 s1 s2 s3)
        | (go_at_call 11; obtain ⟨s0, s1, s2, s3⟩ := (by assumption : (_ ∧ _ ∧ Below w2.heap.size w2 _ ∧ _)); refine (awake_any _).mono ?_; rintro e w7 ⟨rfl, hb7⟩; have b7 : _ ∧ _ ∧ _ ∧ _ := ⟨below_cells hb7 _ _ _ s0, below_cells hb7 _ _ _ s1, below_step s2 hb7, Nat.lt_of_lt_of_le s3 hb7.size⟩; clear hb7 s0 s1 s2 s3)
        | (go_at_call 12; refine (mod_any i _ _ (by omega) (by omega)).mono ?_; rintro e w7 ⟨rfl, rfl⟩)
        | (go_at_call 14; obtain ⟨s0, s1, s2, s3⟩ := (by assumption : (_ ∧ _ ∧ Below w2.heap.size w2 _ ∧ _)); refine (H14.out _ _ s2).mono ?_; rintro e w7 ⟨rfl, hb7⟩; have b7 : _ ∧ _ ∧ _ ∧ _ := ⟨below_cells hb7 _ _ _ s0, below_cells hb7 _ _ _ s1, below_step s2 hb7, Nat.lt_of_lt_of_le s3 hb7.size⟩; clear hb7 s0 s1 s2 s3))
    go_wp2_with fail
    go_ret
    obtain ⟨s0, s1, s2, s3⟩ := (by assumption : (_ ∧ _ ∧ Below w2.heap.size w2 _ ∧ _))
    exact ⟨rfl, B2.out.trans (s2.mono B2.out.size)⟩
end Go.Proofs.Ytfnjcjoomaeapaa
