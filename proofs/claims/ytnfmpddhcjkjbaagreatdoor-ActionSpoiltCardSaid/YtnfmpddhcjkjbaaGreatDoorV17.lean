/- walks: what actions do; no condition. -/
import Derived.Test.YtnfmpddhcjkjbaaGreatDoorV16
namespace Go.Proofs.YtnfmpddhcjkjbaaGreatDoor
open Go Go.RowKit Go.SX
/-- what an action makes of a holding, as it lies -/
structure EF where
  ins : List UInt8
  qty : Int
  cash : Int
def EF.A (x : EF) : Array Value := #[.string (S x.ins), .int .i64 x.qty, .int .i64 x.cash]
theorem EF.fits (x : EF) : Fits x.A 3 := ⟨rfl, by simp [EF.A, Value.oneCell']⟩
def EF.zero : EF := ⟨[], 0, 0⟩
theorem zero_ef : ti31.zero = EF.zero.A := rfl
theorem fill_ef (x : EF) {pl : List (Nat × Nat)} (hpl : pl = [(0, 1), (1, 1), (2, 1)]) : Instr.fill (fun k => pl[k]?) ti31.zero [(0, .string (S x.ins)), (1, .int .i64 x.qty), (2, .int .i64 x.cash)] = some x.A := by
  subst hpl; rfl
/-- may it act -/
def actOk (a : AC) : Bool := !a.void && validA a
theorem ofA_bad {a : AC} (h : actOk a = false) : ofA a = (.zero, 170) := by
  unfold ofA; unfold actOk at h
  cases hv : a.void <;> cases hb : validA a <;> simp_all
theorem ofA_good {a : AC} (h : actOk a = true) : ofA a = (a, 0) := by
  unfold ofA; unfold actOk at h
  cases hv : a.void <;> cases hb : validA a <;> simp_all
theorem facOk_iff {n : Int} (h : facOk n = true) : 1 ≤ n ∧ n ≤ 1000000 := by
  unfold facOk at h
  simpa using h
theorem act_kind {a : AC} (h : actOk a = true) : (a.kind = 2 ∧ 0 < a.cash.p) ∨ ((a.kind = 1 ∨ a.kind = 3) ∧ 1 ≤ a.num ∧ a.num ≤ 1000000 ∧ 1 ≤ a.den ∧ a.den ≤ 1000000) := by
  unfold actOk validA at h
  simp only [Bool.and_eq_true, Bool.not_eq_true'] at h
  obtain ⟨hv, -, h⟩ := h
  rw [hv, if_neg Bool.false_ne_true] at h
  simp only [Bool.and_eq_true] at h
  obtain ⟨-, h⟩ := h
  unfold kindOk at h
  by_cases h1 : a.kind = 1
  · rw [if_pos h1] at h
    simp only [Bool.and_eq_true] at h
    exact .inr ⟨.inl h1, (facOk_iff h.2.1).1, (facOk_iff h.2.1).2, (facOk_iff h.2.2).1, (facOk_iff h.2.2).2⟩
  · rw [if_neg h1] at h
    by_cases h2 : a.kind = 2
    · rw [if_pos h2] at h
      simp only [Bool.and_eq_true, decide_eq_true_eq] at h
      refine .inl ⟨h2, ?_⟩
      have := h.2.2.2
      unfold sgn at this
      split at this
      · omega
      · split at this <;> omega
    · rw [if_neg h2] at h
      by_cases h3 : a.kind = 3
      · rw [if_pos h3] at h
        simp only [Bool.and_eq_true] at h
        exact .inr ⟨.inr h3, (facOk_iff h.2.2.1).1, (facOk_iff h.2.2.1).2, (facOk_iff h.2.2.2).1, (facOk_iff h.2.2.2).2⟩
      · rw [if_neg h3] at h; cases h
theorem act_cash {a : AC} (h : actOk a = true) : payOk a.cash = true := by
  unfold actOk validA at h
  simp only [Bool.and_eq_true, Bool.not_eq_true'] at h
  obtain ⟨hv, -, h⟩ := h
  rw [hv, if_neg Bool.false_ne_true] at h
  simp only [Bool.and_eq_true, bodyOk] at h
  exact h.1.2.2.2.1
def applyA (a : AC) (q : Int) : EF × Int :=
  if actOk a = false then (.zero, 170)
  else if q < 0 ∨ q > 1000000000000000 then (.zero, 171)
  else if pieQ a q > 1000000000000000 then (.zero, 171)
  else if (rndI (rndQ (mulQ (paidQ a q) a.cash).1 2 6)).2 ≠ 0 then (.zero, (rndI (rndQ (mulQ (paidQ a q) a.cash).1 2 6)).2)
  else (⟨intoA a, pieQ a q, (rndI (rndQ (mulQ (paidQ a q) a.cash).1 2 6)).1⟩, 0)
def resE (x : EF × Int) : Value := .tuple #[.agg x.1.A, .int .i64 x.2]
theorem pieQ_bd {a : AC} {q : Int} (h0 : 0 ≤ q) (h1 : q ≤ 1000000000000000) (hk : a.kind = 2 ∨ (1 ≤ a.num ∧ a.num ≤ 1000000 ∧ 1 ≤ a.den ∧ a.den ≤ 1000000)) : 0 ≤ pieQ a q ∧ pieQ a q ≤ 1000000000000000000000 := by
  unfold pieQ; split
  · omega
  · rename_i h
    obtain ⟨n1, n2, d1, d2⟩ := hk.resolve_left h
    have hb : 0 ≤ q * a.num ∧ q * a.num ≤ 1000000000000000 * 1000000 := ⟨Int.mul_nonneg h0 (by omega), Int.mul_le_mul h1 n2 (by omega) (by omega)⟩
    refine ⟨Int.ediv_nonneg hb.1 (by omega), ?_⟩
    have := Int.ediv_le_self a.den hb.1
    omega
set_option smartUnfolding false in
set_option maxRecDepth 100000 in
set_option maxHeartbeats 2000000 in
theorem apply_z {a : AC} (ha : a.In) (q : Int) : Pure Tryz.prog 11 [SV.c (.agg a.A), SV.c (.int .i64 q)] (resE (applyA a q)) := by
  refine sx_pure tt_ok mixed at11 _ _ rfl rfl fun w => ?_
  have hof := of_a ha
  cases hk : actOk a with
  | false =>
    rw [ofA_bad hk] at hof
    refine ⟨a.size, .inl ⟨_, hof, AC.zero.fits, fun _ => ⟨ti31.zero, rfl, EF.zero.fits, ?_, trivial⟩, nofun⟩⟩
    rw [applyA, if_pos hk]; rfl
  | true =>
    rw [ofA_good hk] at hof
    have hk2 : ¬ (actOk a = false) := by rw [hk]; simp
    rw [applyA, if_neg hk2]
    refine ⟨a.size, .inl ⟨_, hof, a.fits, nofun, fun _ => ⟨fun h1 => ⟨fun h2 => ⟨ti31.zero, rfl, EF.zero.fits, ?_, trivial⟩, fun h2 => ?_⟩, fun h1 => ⟨fun _ => ⟨ti31.zero, rfl, EF.zero.fits, ?_, trivial⟩, nofun⟩⟩⟩⟩
    · have h2 := of_decide_eq_true h2
      rw [if_pos (.inr h2)]; rfl
    · have h1 := of_decide_eq_false h1
      have h2 := of_decide_eq_false h2
      rw [if_neg (by omega)]
      have hkk : a.kind = 2 ∨ (1 ≤ a.num ∧ a.num ≤ 1000000 ∧ 1 ≤ a.den ∧ a.den ≤ 1000000) := by
        rcases act_kind hk with h | h
        · exact .inl h.1
        · exact .inr h.2
      have hpc := pieces_z (a := a) (q := q) (by omega) (by omega) hkk
      obtain ⟨b1, b2⟩ := pieQ_bd (a := a) (q := q) (by omega) (by omega) hkk
      have hpi := paidQ_in a (q := q) (by omega) (by omega)
      have big : 1000000000000000000000 < BB ^ 32 := Nat.lt_of_lt_of_le (by decide : 1000000000000000000000 < BB ^ 3) (Nat.pow_le_pow_right BB_pos (by omega))
      have ht := toInt_z (isI_e (z := pieQ a q) (by omega))
      have hm := mulR_z hpi ha.cash
      have hr := roundInt_z (mulQ_in (paidQ a q) a.cash) 2 6
      have hin := into_z a
      generalize rndI (rndQ (mulQ (paidQ a q) a.cash).1 2 6) = x at *
      obtain ⟨c, e⟩ := x
      have hr : Pure Tryz.prog 50 [SV.c (.agg (mulQ (paidQ a q) a.cash).1.A), SV.c (.int .i64 2), SV.c (.int .i64 6)] (.tuple #[.int .i64 c, .int .i64 e]) := hr
      by_cases hn : pieQ a q > 1000000000000000
      · rw [if_pos hn]
        by_cases hz : -9223372036854775808 ≤ pieQ a q ∧ pieQ a q ≤ 9223372036854775807
        · rw [toIntR, if_pos hz] at ht
          refine .inl ⟨_, hpc, eA_fits _, RQ.A_fits _, .inl ⟨_, ht, fun _ => ⟨fun _ => ⟨ti31.zero, rfl, EF.zero.fits, rfl, trivial⟩, fun h => ?_⟩, nofun⟩⟩
          exact absurd hn (of_decide_eq_false h)
        · rw [toIntR, if_neg hz] at ht
          exact .inl ⟨_, hpc, eA_fits _, RQ.A_fits _, .inl ⟨_, ht, nofun, fun _ => ⟨fun _ => ⟨ti31.zero, rfl, EF.zero.fits, rfl, trivial⟩, nofun⟩⟩⟩
      · rw [if_neg hn]
        rw [toIntR, if_pos (by omega)] at ht
        refine .inl ⟨_, hpc, eA_fits _, RQ.A_fits _, .inl ⟨_, ht, fun _ => ⟨fun h => absurd (of_decide_eq_true h) hn, fun _ => ⟨by decide, _, a.gcash, .inl ⟨_, hm, RQ.A_fits _, .inl ⟨_, hr, fun h3 => ⟨ti31.zero, rfl, EF.zero.fits, ?_, trivial⟩, fun h3 => .inl ⟨_, hin, _, fill_ef ⟨intoA a, pieQ a q, c⟩ rfl, EF.fits _, ?_, trivial⟩⟩⟩⟩⟩, nofun⟩⟩
        · have h3 : e ≠ 0 := by simpa using h3
          rw [if_pos (show (c, e).2 ≠ 0 from h3)]; rfl
        · have h3 : ¬ (e ≠ 0) := by simpa using h3
          rw [if_neg (show ¬ (c, e).2 ≠ 0 from h3)]; rfl
    · have h1 := of_decide_eq_true h1
      rw [if_pos (.inl h1)]; rfl
def adjustA (a : AC) (r : RQ) : RQ × Int :=
  if actOk a = false then (.of 0 0, 170)
  else if a.kind = 2 then sumQ true r a.cash
  else mulQ r (mkQ a.den a.num).1
set_option smartUnfolding false in
set_option maxRecDepth 100000 in
set_option maxHeartbeats 2000000 in
theorem adjust_z {a : AC} (ha : a.In) {r : RQ} (hr : r.In) : Pure Tryz.prog 13 [SV.c (.agg a.A), SV.c (.agg r.A)] (resQ (adjustA a r)) := by
  refine sx_pure tt_ok mixed at13 _ _ rfl rfl fun w => ?_
  have hof := of_a ha
  cases hk : actOk a with
  | false =>
    rw [ofA_bad hk] at hof
    refine ⟨a.size, r.A_size, .inl ⟨_, hof, AC.zero.fits, fun _ => ⟨ti27.zero, rfl, (RQ.of 0 0).A_fits, ?_, trivial⟩, nofun⟩⟩
    rw [adjustA, if_pos hk]; rfl
  | true =>
    rw [ofA_good hk] at hof
    have hk2 : ¬ (actOk a = false) := by rw [hk]; simp
    rw [adjustA, if_neg hk2]
    refine ⟨a.size, r.A_size, .inl ⟨_, hof, a.fits, nofun, fun _ => ⟨_, a.g0, fun h => ?_, fun h => ?_⟩⟩⟩
    · have h : a.kind = 2 := by simpa using h
      rw [if_pos h]
      exact ⟨by decide, _, a.gcash, .inl ⟨_, subR_z hr ha.cash, RQ.A_fits _, rfl, trivial⟩⟩
    · have h : ¬ a.kind = 2 := by intro e; rw [e] at h; simp at h
      rw [if_neg h]
      exact ⟨_, a.g6, _, a.g5, .inl ⟨_, of_z ha.den.1 ha.den.2 ha.num.1 ha.num.2, RQ.A_fits _, .inl ⟨_, mulR_z hr (mkQ_in _ _), RQ.A_fits _, rfl, trivial⟩⟩⟩
end Go.Proofs.YtnfmpddhcjkjbaaGreatDoor
