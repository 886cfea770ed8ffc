/- walks: the reference, texts of whole numbers; no condition. -/
import Derived.Test.YtnfmpddhcjkjbaaGreatDoorV26
import Derived.Laws.Strings2
namespace Go.Proofs.YtnfmpddhcjkjbaaGreatDoor
open Go Go.RowKit Go.SX
theorem runs_sub {E : Env} {t : TypeId} (hu : E.P.underlying t = some .string) {l : List UInt8} {k k' : IntKind} {x y : Int} (a b : Nat) (hx : x = a) (hy : y = b) (hab : a ≤ b) (hb : b ≤ l.length) : Runs E (Instr.sliceAt t (.string (S l)) (some (.int k x)) (some (.int k' y)) none) (.string (S ((l.take b).drop a))) := fun w _ => by
  subst hx; subst hy
  have h := run_slice_string (P := E.P) w t (S l) k k' a b hu (by omega) (by omega) (by rw [S_size]; omega)
  simp only [Instr.sliceAt, Sem.run_bind, run_underlying hu, Result.andThen_ok]
  rw [h, S_ext]
  simp
def ten : List UInt8 := [48, 49, 50, 51, 52, 53, 54, 55, 56, 57]
theorem ten_at {r : Nat} (h : r < 10) : (ten.take (r + 1)).drop r = [UInt8.ofNat (48 + r)] := by
  obtain rfl | rfl | rfl | rfl | rfl | rfl | rfl | rfl | rfl | rfl : r = 0 ∨ r = 1 ∨ r = 2 ∨ r = 3 ∨ r = 4 ∨ r = 5 ∨ r = 6 ∨ r = 7 ∨ r = 8 ∨ r = 9 := by omega
  all_goals rfl
theorem eA_mag (M : Nat) : (eA (M : Int)).extract 1 33 = mA M := by
  unfold eA; rw [Int.natAbs_natCast]; exact iA_mag
set_option smartUnfolding false in
set_option maxRecDepth 100000 in
set_option maxHeartbeats 2000000 in
theorem format_r {A : Array Value} {z : Int} (h : IsI A z) : Pure Tryz.prog 178 [SV.c (.agg A)] (.string (fmtS z)) := by
  have hab := abs_r h
  have hzl := h.lt
  obtain ⟨neg, N, hN, rfl, ez⟩ := h.raw
  have eN : z.natAbs = N := by rw [ez, zN_abs]
  rw [eN] at hab
  have hl309 : (rdig N).length ≤ 309 := rdig_len 309 _ (Nat.lt_of_lt_of_le hN big309)
  refine sx_pureC [10] tt_ok mixed at178 _ _ rfl rfl fun w => ?_
  refine ⟨iA_size _ _, by decide, _, iA_mag, .inl ⟨_, zero_r hN, fun h1 => ?_, fun h1 => ?_⟩⟩
  · have h1 : N = 0 := of_decide_eq_true h1
    have : z = 0 := by omega
    subst this
    exact ⟨rfl, trivial⟩
  have hN0 : N ≠ 0 := of_decide_eq_false h1
  have hfm : fmtZ z = if neg then 45 :: (rdig N).reverse else (rdig N).reverse := by
    unfold fmtZ fmtN
    rw [eN, if_neg hN0, ez]
    cases neg
    · rw [if_neg (by simp [zN]), if_neg Bool.false_ne_true]
    · rw [if_pos (by simp [zN]; omega), if_pos rfl]
  refine .inl ⟨_, hab, eA_fits _, ?_⟩
  refine ⟨fun M f m => M < BB ^ 32 ∧ ∃ l : List UInt8, l.reverse ++ rdig M = rdig N ∧ f = [(1, SV.ptr 1 0), (3, SV.c (.string (S l))), (4, SV.ptr 4 0)] ∧ m = [(1, Blk.row 25 33 (iA neg N)), (4, Blk.row 25 33 (eA (M : Int)))], N, ⟨_, _, ⟨hN, [], rfl, rfl, rfl⟩, ⟨rfl, rfl, rfl, trivial⟩, ⟨rfl, rfl, trivial⟩, rfl⟩, ?_⟩
  rintro M f m ⟨hM, l, hd, rfl, rfl⟩
  refine ⟨by decide, _, eA_mag M, .inl ⟨_, zero_r hM, fun h2 => ?_, fun h2 => ?_⟩⟩
  · have h2 : M ≠ 0 := of_decide_eq_false (bnt h2)
    rw [rdig_pos h2] at hd
    have hll : l.length + 1 ≤ 309 := by
      have := congrArg List.length hd
      simp at this; omega
    have ht := fromInt_r 10 (by omega) (by omega)
    have hdm := divmod_r (isI_e (z := (M : Int)) (by simpa using hM)) (isI_e (z := 10) (i64_lt (by omega) (by omega))) (by omega)
    rw [show (M : Int) / 10 = ((M / 10 : Nat) : Int) by omega, show (M : Int) % 10 = ((M % 10 : Nat) : Int) by omega] at hdm
    have hg : (eA ((M % 10 : Nat) : Int))[1]? = some (.int .u32 (dg (M % 10) 0 : Nat)) := by
      have := iA_lim (neg := decide (((M % 10 : Nat) : Int) < 0)) (N := (((M % 10 : Nat) : Int)).natAbs) (i := 0) (by omega)
      rw [Int.natAbs_natCast] at this
      exact this
    have e0 : dg (M % 10) 0 = M % 10 := by rw [dg0]; omega
    rw [e0] at hg
    have e1 : IntKind.u32.wrap (((M % 10 : Nat) : Int) + 1) = ((M % 10 + 1 : Nat) : Int) := by rw [u32_in (by omega)]; omega
    have hsub := runs_sub (E := (envP Tryz.prog tt Tryz.f178.ntmps w [10]).toEnv) Tryz.underlying9 (l := ten) (k := .u32) (k' := .u32) (M % 10) (M % 10 + 1) rfl e1 (by omega) (by show M % 10 + 1 ≤ 10; omega)
    rw [ten_at (by omega)] at hsub
    have es : S [UInt8.ofNat (48 + M % 10)] ++ S l = S (UInt8.ofNat (48 + M % 10) :: l) := S_add _ _
    refine .inl ⟨_, ht, .inl ⟨_, hdm, eA_fits _, eA_fits _, by kernel_rfl, by decide, by decide, _, hg, by decide, by decide, _, hg, _, hsub, by rw [S_size, S_size]; simp; omega, eA_fits _, ?_⟩⟩
    refine ⟨fun f m => f = [(1, SV.ptr 1 0), (3, SV.c (.string (S (UInt8.ofNat (48 + M % 10) :: l)))), (35, SV.c (.agg (eA ((M / 10 : Nat) : Int))))] ∧ m = [(1, Blk.row 25 33 (iA neg N))], ⟨_, _, ⟨rfl, rfl⟩, ⟨rfl, c_str es, rfl, trivial⟩, ⟨rfl, trivial⟩, rfl⟩, ?_⟩
    rintro f m ⟨rfl, rfl⟩
    exact ⟨eA_fits _, M / 10, _, _, by omega, ⟨Nat.lt_of_le_of_lt (Nat.div_le_self _ _) hM, UInt8.ofNat (48 + M % 10) :: l, by rw [← hd]; simp, rfl, rfl⟩, ⟨rfl, rfl, rfl, trivial⟩, ⟨rfl, rfl, trivial⟩, rfl⟩
  · have h2 : M = 0 := of_decide_eq_true (bnf h2)
    subst h2
    rw [rdig_zero, List.append_nil] at hd
    have hl : l = (rdig N).reverse := by rw [← hd, List.reverse_reverse]
    refine ⟨_, iA_neg, fun h3 => ⟨?_, ?_, trivial⟩, fun h3 => ⟨?_, trivial⟩⟩
    · show (S [45]).size + (S l).size ≤ _
      rw [S_size, S_size, hl]; simp; omega
    · have h3 : neg = true := h3
      have e3 : S [45] ++ S l = fmtS z := by rw [S_add, fmtS, hfm, h3, if_pos rfl, hl]; rfl
      rw [← e3]; rfl
    · have h3 : neg = false := h3
      have e3 : S l = fmtS z := by rw [fmtS, hfm, h3, if_neg Bool.false_ne_true, hl]; rfl
      rw [← e3]; rfl
end Go.Proofs.YtnfmpddhcjkjbaaGreatDoor
