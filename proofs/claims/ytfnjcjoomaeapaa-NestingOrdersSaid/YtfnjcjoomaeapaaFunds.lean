/- NestingOfMadeFunds: proved without a condition. -/
import Derived.Test.YtfnjcjoomaeapaaLaw
import Derived.Test.YtfnjcjoomaeapaaW18
namespace Go.Proofs.Ytfnjcjoomaeapaa
open Go.ChangeShapes Go.WideShapes Go.ChangeAt Go.RowKit

theorem bool_of {H : Type} {enc : TypeId × Value → H} {P : Program} {W : World} {base b0 : Nat} {spare : Nat → Bool} {held : Bool} {r : Reach} {t : TypeId} {v : Value} {d : DataW H} {ps : List MemPlace} (ht : P.underlying t = some .bool) (hval : Value.okWide P W r b0 t v) (hd : DataW.Trod enc P W base spare held t v d ps) :
    ∃ b, v = .bool b ∧ d = .lit (.bool b) ∧ ps = [] := by
  obtain ⟨b, rfl⟩ := okWide_bool ht hval
  obtain ⟨fuel, hf⟩ := hd
  obtain ⟨b', h1, h2⟩ := DataW.trod_bool ht hf
  simp [Value.cells] at h1
  simp only [Prod.mk.injEq] at h2
  subst h1
  exact ⟨b, rfl, h2.1, h2.2⟩
/-- a slice of ints that came in reads as numbers -/
theorem tape_of {H : Type} {enc : TypeId × Value → H} {W : World} {v : Value} {d : DataW H} {p : List MemPlace} {b0 : Nat} (hv : Value.okWide Try.prog W .any b0 22 v) (h : DataW.Trod enc Try.prog W 0 (fun _ => true) true 22 v d p) :
    ∃ l, IntsAt W v l := by
  obtain ⟨fuel, hf⟩ := h
  obtain ⟨a, l, c, rfl⟩ := okWide_slice Try.underlying22 hv
  exact ints_of hf

set_option maxRecDepth 100000 in
theorem nestingOfMadeFunds_lifted (os : Os) (started : os.Started) (H : Type) (enc : TypeId × Value → H) :
    ReturnsInHanded {} Try.checked os 6 .any (Rows.nestingOfMadeFundsSpec.pre6 enc Try.prog Try.f6 Rows.nestingOfMadeFundsRow.domain false) (Rows.nestingOfMadeFundsSpec.post enc Try.prog Try.f6 false true false false) := by
  refine returnsInHanded_of_change (C := Try.checked) Try.own started (by kernel_rfl) Try.func6
    (ChangeSpec.witness6 (enc := enc) (C := Try.checked) false ⟨#[], #[.slice none 0 0, .int .i64 0, .bool false], []⟩ 8 (by kernel_rfl) (by kernel_rfl) (by kernel_rfl) (by kernel_rfl)) ?_
  intro W base args ds gs before hval0 hW _ _
  have hval : ∀ (j : Nat) t v, Try.f6.params[j]? = some t → args[j]? = some v → Value.okWide Try.prog W .any base t v := hval0
  have hW' := hW
  obtain ⟨p, q, hA0, hV, rfl, _, _⟩ := hW
  have hA : DataW.TrodAll enc Try.prog W 0 (fun _ => true) true Try.f6.params.toList args.toList ds p := hA0
  rw [Try.params6] at hA hval
  obtain ⟨v0, v1, v2, d0, d1, d2, p0, p1, p2, rfl, rfl, rfl, h0, h1, h2⟩ := trodAll_three hA
  obtain ⟨rfl, rfl⟩ := trodVars_none hV
  obtain ⟨l, hl⟩ := tape_of (hval 0 22 v0 rfl rfl) h0
  obtain ⟨i, rfl, rfl, rfl, _⟩ := open_int Try.underlying3 (hval 1 3 v1 rfl rfl) h1
  obtain ⟨b, rfl, rfl, rfl⟩ := bool_of Try.underlying4 (hval 2 4 v2 rfl rfl) h2
  refine (madeFunds_any v0 l i b W hl).mono fun e W' ⟨he, hb⟩ => ?_
  subst he
  exact ⟨_, rfl, law_post Try.laidOut Try.underlying4 (by kernel_rfl) (fun t ht => by
    rw [Try.params6] at ht
    have ht2 : t = 22 ∨ t = 3 ∨ t = 4 := by simpa using ht
    rcases ht2 with rfl | rfl | rfl <;> exact ⟨by kernel_rfl, of_decide_eq_true (by kernel_rfl)⟩) rfl hW' rfl hb⟩

theorem nestingOfMadeFunds_holds : Rows.NestingOfMadeFundsSaid :=
  OpenClaim.holds_of_wide 6 Try.f6 rfl rfl rfl rfl rfl rfl rfl ⟨rfl, rfl, rfl, rfl, rfl⟩ rfl rfl rfl rfl rfl (by kernel_rfl) Try.func6 (by kernel_rfl)
    (of_decide_eq_true (by kernel_rfl)) (by unfold Func.isWrapper; first | (rw [if_pos (by decide +kernel)]; kernel_rfl) | (rw [if_neg (by decide +kernel)]; exact ⟨rfl, rfl⟩))
    (fun os started H enc _ => nestingOfMadeFunds_lifted os started H enc)

#print axioms nestingOfMadeFunds_holds
end Go.Proofs.Ytfnjcjoomaeapaa
