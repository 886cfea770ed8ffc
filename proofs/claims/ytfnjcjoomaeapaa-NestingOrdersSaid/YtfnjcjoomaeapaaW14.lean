/- walks: tells -/
import Derived.Test.YtfnjcjoomaeapaaW13
import Derived.Test.YtfnjcjoomaeapaaW3
namespace Go.Proofs.Ytfnjcjoomaeapaa
open Go.RowKit

theorem below_step {W w1 w2 : World} (h : Below W.heap.size W w1) (k : Below w1.heap.size w1 w2) : Below W.heap.size W w2 := h.trans (k.mono h.size)

set_option maxRecDepth 100000 in
set_option maxHeartbeats 8000000 in
theorem tells_any (u h : Value) (us : List Int) (hs : List (List Int)) (i : Int) (w : World) (hu : IntsAt w u us) (hh : RowsAt w h hs) :
    Calls Try.prog 14 #[.agg #[u, h], .int .i64 i] w fun e w' => e = .returned (.bool true) ∧ Below w.heap.size w w' := by
  have hb0 : Below w.heap.size w (w.alloc (.cells #[u, h] 25)) := (Below.refl _ _).alloc (Nat.le_refl _) _
  have hc0 : (w.alloc (.cells #[u, h] 25)).cell? ⟨w.heap.size, 0, none⟩ = some u := by rw [World.cell?_alloc_at _ _ _ _ rfl]; rfl
  have hc1 : (w.alloc (.cells #[u, h] 25)).cell? ⟨w.heap.size, 1, none⟩ = some h := by rw [World.cell?_alloc_at _ _ _ _ rfl]; rfl
  have Hc0 := Lib.hid hc0; have Hc1 := Lib.hid hc1; clear hc0 hc1
  have hext : ∀ W, Below w.heap.size w W → IntsAt W u us ∧ RowsAt W h hs := fun W hb => ⟨hu.ext (ExtW.of_below hb), hh.ext (ExtW.of_below hb)⟩
  have Hext := Lib.hid hext; clear hext hu hh
  have B0 := Lib.hid hb0; clear hb0
  go_enter Try.func14, Try.ntmps14
  go_wp2_with fail
  refine (pPartsFn_any u h us hs _ (Hext.out _ B0.out).1 (Hext.out _ B0.out).2).mono ?_
  rintro e w1 ⟨v1, rfl, hv1, hb1⟩
  have B1 := Lib.hid (B0.out.trans (hb1.mono B0.out.size))
  have hc0 := below_cells hb1 _ _ _ Hc0.out
  have hc1 := below_cells hb1 _ _ _ Hc1.out
  clear hb1
  have V1 := Lib.hid hv1; clear hv1
  go_wp2_with fail
  refine (rParts_any u h us hs _ (Hext.out _ B1.out).1 (Hext.out _ B1.out).2).mono ?_
  rintro e w2 ⟨v2, rfl, hv2, hb2⟩
  have B2 := Lib.hid (B1.out.trans (hb2.mono B1.out.size))
  have V12 := Lib.hid (V1.out.ext (ExtW.of_below hb2)); clear V1
  have hc0' := below_cells hb2 _ _ _ hc0
  have hc1' := below_cells hb2 _ _ _ hc1
  clear hb2 hc0 hc1
  have V2 := Lib.hid hv2; clear hv2
  go_wp2_with fail
  refine (pGnd_any u h us hs _ (Hext.out _ B2.out).1 (Hext.out _ B2.out).2).mono ?_
  rintro e w3 ⟨v3, rfl, hv3, hb3⟩
  have B3 := Lib.hid (B2.out.trans (hb3.mono B2.out.size))
  have V13 := Lib.hid (V12.out.ext (ExtW.of_below hb3)); clear V12
  have V23 := Lib.hid (V2.out.ext (ExtW.of_below hb3)); clear V2
  have hc0 := below_cells hb3 _ _ _ hc0'
  have hc1 := below_cells hb3 _ _ _ hc1'
  clear hb3 hc0' hc1'
  have V3 := Lib.hid hv3; clear hv3
  go_wp2_with fail
  refine (rGnd_any u h us hs _ (Hext.out _ B3.out).1 (Hext.out _ B3.out).2).mono ?_
  rintro e w4 ⟨v4, rfl, hv4, hb4⟩
  have B4 := Lib.hid (B3.out.trans (hb4.mono B3.out.size))
  have V14 := Lib.hid (V13.out.ext (ExtW.of_below hb4)); clear V13
  have V24 := Lib.hid (V23.out.ext (ExtW.of_below hb4)); clear V23
  have V34 := Lib.hid (V3.out.ext (ExtW.of_below hb4)); clear V3
  have hc0' := below_cells hb4 _ _ _ hc0
  have hc1' := below_cells hb4 _ _ _ hc1
  clear hb4 hc0 hc1
  have V4 := Lib.hid hv4; clear hv4
  go_wp2_with fail
  refine (pReachFn_any u h us hs i _ (Hext.out _ B4.out).1 (Hext.out _ B4.out).2).mono ?_
  rintro e w5 ⟨v5, rfl, hv5, hb5⟩
  have B5 := Lib.hid (B4.out.trans (hb5.mono B4.out.size))
  have V15 := Lib.hid (V14.out.ext (ExtW.of_below hb5)); clear V14
  have V25 := Lib.hid (V24.out.ext (ExtW.of_below hb5)); clear V24
  have V35 := Lib.hid (V34.out.ext (ExtW.of_below hb5)); clear V34
  have V45 := Lib.hid (V4.out.ext (ExtW.of_below hb5)); clear V4
  have hc0 := below_cells hb5 _ _ _ hc0'
  have hc1 := below_cells hb5 _ _ _ hc1'
  clear hb5 hc0' hc1'
  have V5 := Lib.hid hv5; clear hv5
  go_wp2_with fail
  refine (rReach_any u h us hs i _ (Hext.out _ B5.out).1 (Hext.out _ B5.out).2).mono ?_
  rintro e w6 ⟨v6, rfl, hv6, hb6⟩
  have B6 := Lib.hid (B5.out.trans (hb6.mono B5.out.size))
  have V16 := Lib.hid (V15.out.ext (ExtW.of_below hb6)); clear V15
  have V26 := Lib.hid (V25.out.ext (ExtW.of_below hb6)); clear V25
  have V36 := Lib.hid (V35.out.ext (ExtW.of_below hb6)); clear V35
  have V46 := Lib.hid (V45.out.ext (ExtW.of_below hb6)); clear V45
  have V56 := Lib.hid (V5.out.ext (ExtW.of_below hb6)); clear V5
  have hc0' := below_cells hb6 _ _ _ hc0
  have hc1' := below_cells hb6 _ _ _ hc1
  clear hb6 hc0 hc1
  have V6 := Lib.hid hv6; clear hv6
  have Hc0 := Lib.hid hc0'; have Hc1 := Lib.hid hc1'
  have Hbig := Lib.hid (show ∀ W, Below w6.heap.size w6 W → Below w.heap.size w W from fun W hb => B6.out.trans (hb.mono B6.out.size))
  have HchkP := Lib.hid (show ∀ W, Below w6.heap.size w6 W → Calls Try.prog 15 #[.agg #[u, h]] W fun e w' => (e = .returned (.int .i64 (checkS us hs))) ∧ Below W.heap.size W w' from fun W hb => pcheck_any u h us hs W (Hext.out _ (Hbig.out _ hb)).1 (Hext.out _ (Hbig.out _ hb)).2)
  have HchkR := Lib.hid (show ∀ W, Below w6.heap.size w6 W → Calls Try.prog 25 #[.agg #[u, h]] W fun e w' => (e = .returned (.int .i64 (checkS us hs))) ∧ Below W.heap.size W w' from fun W hb => rcheck_any u h us hs W (Hext.out _ (Hbig.out _ hb)).1 (Hext.out _ (Hbig.out _ hb)).2)
  have Hs1 := Lib.hid (show ∀ W, Below w6.heap.size w6 W → Calls Try.prog 21 #[v1, v2] W fun e w' => (e = .returned (.bool true)) ∧ Drew W w' from fun W hb => sames_any v1 v2 _ _ W (V16.out.ext (ExtW.of_below hb)) (V26.out.ext (ExtW.of_below hb)) rfl)
  have Hs2 := Lib.hid (show ∀ W, Below w6.heap.size w6 W → Calls Try.prog 26 #[v3, v4] W fun e w' => (e = .returned (.bool true)) ∧ Drew W w' from fun W hb => bools_any v3 v4 _ _ W (V36.out.ext (ExtW.of_below hb)) (V46.out.ext (ExtW.of_below hb)) rfl)
  have Hs3 := Lib.hid (show ∀ W, Below w6.heap.size w6 W → Calls Try.prog 27 #[v5, v6] W fun e w' => (e = .returned (.bool true)) ∧ Drew W w' from fun W hb => same_any v5 v6 _ _ W (V56.out.ext (ExtW.of_below hb)) (V6.out.ext (ExtW.of_below hb)) rfl)
  clear V16 V26 V36 V46 V56 V6 B0 B1 B2 B3 B4 B5
  go_wp2_with fail
  go_region_held3 (fun w' => w'.cell? ⟨w.heap.size, 0, none⟩ = some u ∧ w'.cell? ⟨w.heap.size, 1, none⟩ = some h ∧ Below w6.heap.size w6 w')
    (first | exact ⟨Hc0.out, Hc1.out, (Below.refl _ _).drew⟩ | (refine ⟨?_, ?_, ?_⟩ <;> assumption))
    (first
      | (go_at_call 15; obtain ⟨s0, s1, s2⟩ := (by assumption : (_ ∧ _ ∧ Below w6.heap.size w6 _)); refine (HchkP.out _ s2).mono ?_; rintro e w7 ⟨rfl, hb7⟩; have b7 := below_step s2 hb7; have x0 := below_cells b7 _ _ _ Hc0.out; have x1 := below_cells b7 _ _ _ Hc1.out; clear hb7 s0 s1 s2)
      | (go_at_call 25; obtain ⟨s0, s1, s2⟩ := (by assumption : (_ ∧ _ ∧ Below w6.heap.size w6 _)); refine (HchkR.out _ s2).mono ?_; rintro e w7 ⟨rfl, hb7⟩; have b7 := below_step s2 hb7; have x0 := below_cells b7 _ _ _ Hc0.out; have x1 := below_cells b7 _ _ _ Hc1.out; clear hb7 s0 s1 s2)
      | (go_at_call 21; obtain ⟨s0, s1, s2⟩ := (by assumption : (_ ∧ _ ∧ Below w6.heap.size w6 _)); refine (Hs1.out _ s2).mono ?_; rintro e w7 ⟨rfl, hb7⟩; have b7 := below_step s2 (hb7.below _); have x0 := below_cells b7 _ _ _ Hc0.out; have x1 := below_cells b7 _ _ _ Hc1.out; clear hb7 s0 s1 s2)
      | (go_at_call 26; obtain ⟨s0, s1, s2⟩ := (by assumption : (_ ∧ _ ∧ Below w6.heap.size w6 _)); refine (Hs2.out _ s2).mono ?_; rintro e w7 ⟨rfl, hb7⟩; have b7 := below_step s2 (hb7.below _); have x0 := below_cells b7 _ _ _ Hc0.out; have x1 := below_cells b7 _ _ _ Hc1.out; clear hb7 s0 s1 s2)
      | (go_at_call 27; obtain ⟨s0, s1, s2⟩ := (by assumption : (_ ∧ _ ∧ Below w6.heap.size w6 _)); refine (Hs3.out _ s2).mono ?_; rintro e w7 ⟨rfl, hb7⟩; have b7 := below_step s2 (hb7.below _); have x0 := below_cells b7 _ _ _ Hc0.out; have x1 := below_cells b7 _ _ _ Hc1.out; clear hb7 s0 s1 s2))
  go_wp2_with fail
  go_ret
  exact ⟨rfl, Hbig.out _ (by assumption)⟩
end Go.Proofs.Ytfnjcjoomaeapaa
