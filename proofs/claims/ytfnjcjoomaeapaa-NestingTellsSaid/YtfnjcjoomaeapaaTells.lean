/- NestingTells: Check, Parts, Grounded and Reach return what is specified, for any arguments: proved without a condition. -/
import Derived.Test.YtfnjcjoomaeapaaLaw
import Derived.Test.YtfnjcjoomaeapaaW14
import Derived.Test.YtfnjcjoomaeapaaW15
namespace Go.Proofs.Ytfnjcjoomaeapaa
open Go.ChangeShapes Go.WideShapes Go.ChangeAt Go.RowKit

set_option maxHeartbeats 1000000 in
theorem nestingTells_any (u h : Value) (us : List Int) (hs : List (List Int)) (i : Int) (w : World) (hu : IntsAt w u us) (hh : RowsAt w h hs) :
    Calls Try.prog 5 #[.agg #[u, h], .int .i64 i] w fun e w' => e = .returned (.bool true) ∧ Below w.heap.size w w' := by
  have hb0 : Below w.heap.size w (w.alloc (.cells #[u, h] 25)) := (Below.refl _ _).alloc (Nat.le_refl _) _
  have Hb0 := Lib.hid hb0; clear hb0
  have Hu := Lib.hid hu; clear hu
  have Hh := Lib.hid hh; clear hh
  go_enter Try.func5, Try.ntmps5
  go_wp2_with fail
  refine (tells_any u h us hs i _ (Hu.out.ext (ExtW.of_below Hb0.out)) (Hh.out.ext (ExtW.of_below Hb0.out))).mono ?_
  rintro e w1 ⟨rfl, hb1⟩
  have B1 := Lib.hid (Hb0.out.trans (hb1.mono Hb0.out.size)); clear hb1
  go_wp2_with fail
  refine (awake_any _).mono ?_
  rintro e w2 ⟨rfl, hb2⟩
  have B2 := Lib.hid (B1.out.trans (hb2.mono B1.out.size)); clear hb2
  go_wp2_with fail
  go_ret
  exact ⟨rfl, B2.out⟩

set_option maxRecDepth 100000 in
theorem nestingTells_lifted (os : Os) (started : os.Started) (H : Type) (enc : TypeId × Value → H) :
    ReturnsInHanded {} Try.checked os 5 .any (Rows.nestingTellsSpec.pre6 enc Try.prog Try.f5 Rows.nestingTellsRow.domain false) (Rows.nestingTellsSpec.post enc Try.prog Try.f5 false true false false) := by
  refine returnsInHanded_of_change (C := Try.checked) Try.own started (by kernel_rfl) Try.func5
    (ChangeSpec.witness6 (enc := enc) (C := Try.checked) false ⟨#[], #[.agg #[.slice none 0 0, .slice none 0 0], .int .i64 0], []⟩ 8 (by kernel_rfl) (by kernel_rfl) (by kernel_rfl) (by kernel_rfl)) ?_
  intro W base args ds gs before hval0 hW _ _
  have hval : ∀ (j : Nat) t v, Try.f5.params[j]? = some t → args[j]? = some v → Value.okWide Try.prog W .any base t v := hval0
  have hW' := hW
  obtain ⟨p, q, hA0, hV, rfl, _, _⟩ := hW
  have hA : DataW.TrodAll enc Try.prog W 0 (fun _ => true) true Try.f5.params.toList args.toList ds p := hA0
  rw [Try.params5] at hA hval
  obtain ⟨v0, v1, d0, d1, p0, p1, rfl, rfl, rfl, h0, h1⟩ := trodAll_two hA
  obtain ⟨rfl, rfl⟩ := trodVars_none hV
  obtain ⟨u, h, us, hs, rfl, hu, hh⟩ := nest_of (hval 0 25 v0 rfl rfl) h0
  obtain ⟨i, rfl, rfl, rfl, _⟩ := open_int Try.underlying3 (hval 1 3 v1 rfl rfl) h1
  refine (nestingTells_any u h us hs i W hu hh).mono fun e W' ⟨he, hb⟩ => ?_
  subst he
  exact ⟨_, rfl, law_post Try.laidOut Try.underlying4 (by kernel_rfl) (fun t ht => by
    rw [Try.params5] at ht
    have ht2 : t = 25 ∨ t = 3 := by simpa using ht
    rcases ht2 with rfl | rfl <;> exact ⟨by kernel_rfl, of_decide_eq_true (by kernel_rfl)⟩) rfl hW' rfl hb⟩

theorem nestingTells_holds : Rows.NestingTellsSaid :=
  OpenClaim.holds_of_wide 5 Try.f5 rfl rfl rfl rfl rfl rfl rfl ⟨rfl, rfl, rfl, rfl, rfl⟩ rfl rfl rfl rfl rfl (by kernel_rfl) Try.func5 (by kernel_rfl)
    (of_decide_eq_true (by kernel_rfl)) (by unfold Func.isWrapper; first | (rw [if_pos (by decide +kernel)]; kernel_rfl) | (rw [if_neg (by decide +kernel)]; exact ⟨rfl, rfl⟩))
    (fun os started H enc _ => nestingTells_lifted os started H enc)

#print axioms nestingTells_holds
end Go.Proofs.Ytfnjcjoomaeapaa
