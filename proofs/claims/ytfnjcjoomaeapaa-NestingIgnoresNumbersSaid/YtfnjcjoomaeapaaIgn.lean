/- NestingIgnoresNumbers: proved without a condition. -/
import Derived.Test.YtfnjcjoomaeapaaFunds
import Derived.Test.YtfnjcjoomaeapaaW20
namespace Go.Proofs.Ytfnjcjoomaeapaa
open Go.ChangeShapes Go.WideShapes Go.ChangeAt Go.RowKit

theorem i64_wf {n : Int} (h : (Lit.int .i64 n).wf = true) : -9223372036854775808 ≤ n ∧ n ≤ 9223372036854775807 := by
  have h := h
  simp only [Lit.wf, IntKind.min, IntKind.max, IntKind.signed, IntKind.bits, Bool.and_eq_true, decide_eq_true_eq, if_true] at h
  exact ⟨by have := h.1; simpa using this, by have := h.2; simpa using this⟩

set_option maxRecDepth 100000 in
theorem nestingIgnoresNumbers_lifted (os : Os) (started : os.Started) (H : Type) (enc : TypeId × Value → H) :
    ReturnsInHanded {} Try.checked os 4 .any (Rows.nestingIgnoresNumbersSpec.pre6 enc Try.prog Try.f4 Rows.nestingIgnoresNumbersRow.domain false) (Rows.nestingIgnoresNumbersSpec.post enc Try.prog Try.f4 false true false false) := by
  refine returnsInHanded_of_change (C := Try.checked) Try.own started (by kernel_rfl) Try.func4
    (ChangeSpec.witness6 (enc := enc) (C := Try.checked) false ⟨#[], #[.slice none 0 0, .bool false, .int .i64 0], []⟩ 8 (by kernel_rfl) (by kernel_rfl) (by kernel_rfl) (by kernel_rfl)) ?_
  intro W base args ds gs before hval0 hW _ _
  have hval : ∀ (j : Nat) t v, Try.f4.params[j]? = some t → args[j]? = some v → Value.okWide Try.prog W .any base t v := hval0
  have hW' := hW
  obtain ⟨p, q, hA0, hV, rfl, _, _⟩ := hW
  have hA : DataW.TrodAll enc Try.prog W 0 (fun _ => true) true Try.f4.params.toList args.toList ds p := hA0
  rw [Try.params4] at hA hval
  obtain ⟨v0, v1, v2, d0, d1, d2, p0, p1, p2, rfl, rfl, rfl, h0, h1, h2⟩ := trodAll_three hA
  obtain ⟨rfl, rfl⟩ := trodVars_none hV
  obtain ⟨l, hl⟩ := tape_of (hval 0 22 v0 rfl rfl) h0
  obtain ⟨b, rfl, rfl, rfl⟩ := bool_of Try.underlying4 (hval 1 4 v1 rfl rfl) h1
  obtain ⟨i, rfl, rfl, rfl, hi⟩ := open_int Try.underlying3 (hval 2 3 v2 rfl rfl) h2
  refine (ignores_any v0 l b i W hl (i64_wf hi)).mono fun e W' ⟨he, hb⟩ => ?_
  subst he
  exact ⟨_, rfl, law_post Try.laidOut Try.underlying4 (by kernel_rfl) (fun t ht => by
    rw [Try.params4] at ht
    have ht2 : t = 22 ∨ t = 4 ∨ t = 3 := by simpa using ht
    rcases ht2 with rfl | rfl | rfl <;> exact ⟨by kernel_rfl, of_decide_eq_true (by kernel_rfl)⟩) rfl hW' rfl hb⟩

theorem nestingIgnoresNumbers_holds : Rows.NestingIgnoresNumbersSaid :=
  OpenClaim.holds_of_wide 4 Try.f4 rfl rfl rfl rfl rfl rfl rfl ⟨rfl, rfl, rfl, rfl, rfl⟩ rfl rfl rfl rfl rfl (by kernel_rfl) Try.func4 (by kernel_rfl)
    (of_decide_eq_true (by kernel_rfl)) (by unfold Func.isWrapper; first | (rw [if_pos (by decide +kernel)]; kernel_rfl) | (rw [if_neg (by decide +kernel)]; exact ⟨rfl, rfl⟩))
    (fun os started H enc _ => nestingIgnoresNumbers_lifted os started H enc)

#print axioms nestingIgnoresNumbers_holds
end Go.Proofs.Ytfnjcjoomaeapaa
