/- walks: pairs of numbers; no condition. -/
import Derived.Test.YtnfmpddhcjkjbaaGreatDoorV9
namespace Go.Proofs.YtnfmpddhcjkjbaaGreatDoor
open Go Go.RowKit Go.SX
theorem bnt {b : Bool} (h : (!b) = true) : b = false := by simpa using h
theorem of_bnf {b : Bool} (h : (!b) = false) : b = true := by simpa using h
theorem bnf {b : Bool} (h : (!b) = !true) : b = true := by simpa using h
theorem cat_size {A B : Array Value} (hA : A.size = 33) (hB : B.size = 33) : (A ++ B).size = 66 := by simp [hA, hB]
theorem cat_l {A B : Array Value} (hA : A.size = 33) : (A ++ B).extract 0 (0 + 33) = A := by
  rw [Array.extract_append]
  simp [hA]
theorem cat_r {A B : Array Value} (hA : A.size = 33) (hB : B.size = 33) : (A ++ B).extract 33 (33 + 33) = B := by
  rw [Array.extract_append, hA, Array.extract_eq_empty_of_le (by omega), Array.empty_append]
  have : B.extract 0 B.size = B := Array.extract_size
  rw [hB] at this
  exact this
theorem cat_fits {A B : Array Value} (hA : Fits A 33) (hB : Fits B 33) : Fits (A ++ B) 66 := ⟨cat_size hA.size hB.size, by rw [Array.all_append, hA.one, hB.one]; rfl⟩
/-- a pair of numbers in memory, as it lies -/
structure RQ where
  a : Bool
  N : Nat
  b : Bool
  D : Nat
def RQ.A (r : RQ) : Array Value := iA r.a r.N ++ iA r.b r.D
def RQ.p (r : RQ) : Int := zN r.a r.N
def RQ.q (r : RQ) : Int := zN r.b r.D
structure RQ.In (r : RQ) : Prop where
  N : r.N < BB ^ 32
  D : r.D < BB ^ 32
def RQ.of (p q : Int) : RQ := ⟨decide (p < 0), p.natAbs, decide (q < 0), q.natAbs⟩
theorem RQ.of_A (p q : Int) : (RQ.of p q).A = eA p ++ eA q := rfl
theorem zN_self (z : Int) : zN (decide (z < 0)) z.natAbs = z := by
  unfold zN
  by_cases e : z < 0
  · simp [e]; omega
  · simp [e]; omega
theorem RQ.of_p (p q : Int) : (RQ.of p q).p = p := zN_self p
theorem RQ.of_q (p q : Int) : (RQ.of p q).q = q := zN_self q
theorem RQ.A_fits (r : RQ) : Fits r.A 66 := cat_fits (iA_fits _ _) (iA_fits _ _)
theorem RQ.A_size (r : RQ) : r.A.size = 66 := r.A_fits.size
theorem RQ.In.num {r : RQ} (h : r.In) : IsI (iA r.a r.N) r.p := ⟨_, _, h.N, rfl, rfl⟩
theorem RQ.In.den {r : RQ} (h : r.In) : IsI (iA r.b r.D) r.q := ⟨_, _, h.D, rfl, rfl⟩
theorem RQ.cat_l (r : RQ) : r.A.extract 0 (0 + 33) = iA r.a r.N := YtnfmpddhcjkjbaaGreatDoor.cat_l (iA_size _ _)
theorem RQ.cat_r (r : RQ) : r.A.extract 33 (33 + 33) = iA r.b r.D := YtnfmpddhcjkjbaaGreatDoor.cat_r (iA_size _ _) (iA_size _ _)
/-- is it short enough, without minus zero, above 0 below the line, and in lowest terms -/
def RQ.ok (r : RQ) : Bool := decide (bl r.N ≤ 480 ∧ bl r.D ≤ 480 ∧ (r.a = true → r.N ≠ 0) ∧ r.b = false ∧ 0 < r.D ∧ Nat.gcd r.N r.D = 1)
set_option smartUnfolding false in
set_option maxRecDepth 100000 in
theorem canon_raw (a : Bool) {N : Nat} (hN : N < BB ^ 32) : Pure Tryz.prog 153 [SV.c (.agg (iA a N))] (.bool (decide (a = true → N ≠ 0))) := by
  refine sx_pure tt_ok mixed at153 _ _ rfl rfl fun w => ?_
  refine ⟨iA_size _ _, _, iA_neg, fun h => ?_, fun h => ?_⟩
  · have h : a = true := by simpa using h
    subst h
    refine .inl ⟨_, sign_z ⟨_, _, hN, rfl, rfl⟩, bv ?_, trivial⟩
    rw [Bool.eq_iff_iff]
    simp only [decide_eq_true_eq, sgn, zN]
    by_cases h : N = 0
    · subst h; simp
    · simp [h]; omega
  · have h : a = false := by simpa using h
    subst h
    exact ⟨bv (by simp), trivial⟩
set_option smartUnfolding false in
set_option maxRecDepth 100000 in
theorem fits_raw {r : RQ} (h : r.In) : Pure Tryz.prog 128 [SV.c (.agg r.A)] (.bool (decide (bl r.N ≤ 480 ∧ bl r.D ≤ 480))) := by
  refine sx_pure tt_ok mixed at128 _ _ rfl rfl fun w => ?_
  have h1 := bitsI_z h.num
  have h2 := bitsI_z h.den
  rw [RQ.p, zN_abs] at h1
  rw [RQ.q, zN_abs] at h2
  refine ⟨r.A_size, by decide, _, r.cat_l, .inl ⟨_, h1, fun h3 => ⟨by decide, _, r.cat_r, .inl ⟨_, h2, ?_⟩⟩, fun h3 => ?_⟩⟩
  · have h3 := of_decide_eq_true h3
    refine ⟨bv ?_, trivial⟩
    rw [Bool.eq_iff_iff]
    simp only [decide_eq_true_eq]
    omega
  · have h3 := of_decide_eq_false h3
    exact ⟨bv (decide_eq_false (by omega)).symm, trivial⟩
theorem gcd_zN (a : Bool) (N : Nat) (b : Bool) (D : Nat) : Int.gcd (zN a N) (zN b D) = Nat.gcd N D := by
  unfold Int.gcd
  rw [zN_abs, zN_abs]
set_option smartUnfolding false in
set_option maxRecDepth 100000 in
theorem valid_raw {r : RQ} (h : r.In) : Pure Tryz.prog 131 [SV.c (.agg r.A)] (.bool r.ok) := by
  refine sx_pure tt_ok mixed at131 _ _ rfl rfl fun w => ?_
  have one : Pure Tryz.prog 85 [SV.c (.int .i64 1)] (.agg (eA 1)) := fromInt_z 1 (by omega) (by omega)
  have hg : ((Int.gcd r.p r.q : Nat) : Int).natAbs < BB ^ 32 := by
    rw [RQ.p, RQ.q, gcd_zN, Int.natAbs_natCast]
    rcases Nat.eq_zero_or_pos r.N with e | e
    · rw [e, Nat.gcd_zero_left]; exact h.D
    · exact Nat.lt_of_le_of_lt (Nat.gcd_le_left _ e) h.N
  have h1l : (1 : Int).natAbs < BB ^ 32 := Nat.lt_of_lt_of_le (by decide : 1 < 18446744073709551616) two64
  refine ⟨r.A_size, .inl ⟨_, fits_raw h, fun h1 => ⟨by decide, _, r.cat_l, .inl ⟨_, canon_raw _ h.N, fun h2 => ⟨by decide, _, r.cat_r, .inl ⟨_, canon_raw _ h.D, fun h3 => ⟨by decide, _, r.cat_r, .inl ⟨_, sign_z h.den, fun h4 => ⟨by decide, _, r.cat_l, by decide, _, r.cat_r, .inl ⟨_, gcd_z h.num h.den, .inl ⟨_, one, _, eql_int rfl hg h1l, bv ?_, trivial⟩⟩⟩, ?_⟩⟩, ?_⟩⟩, ?_⟩⟩, fun h1 => ?_⟩⟩
  · have h1 := of_decide_eq_true h1
    have h2 := of_decide_eq_true h2
    have h3 := of_decide_eq_true h3
    have h4 := of_decide_eq_true h4
    rw [Bool.eq_iff_iff]
    simp only [decide_eq_true_eq, RQ.ok]
    rw [RQ.p, RQ.q, gcd_zN]
    have hb : r.b = false ∧ 0 < r.D := by
      unfold sgn at h4
      rw [RQ.q] at h4
      cases hb : r.b
      · rw [hb] at h4; simp only [zN, Bool.false_eq_true, if_false] at h4
        refine ⟨rfl, ?_⟩
        rcases Nat.eq_zero_or_pos r.D with e | e
        · rw [e] at h4; simp at h4
        · exact e
      · rw [hb] at h4; simp only [zN, if_true] at h4
        exfalso
        split at h4
        · omega
        · split at h4 <;> omega
    constructor
    · intro h; exact ⟨h1.1, h1.2, h2, hb.1, hb.2, by omega⟩
    · intro h; have := h.2.2.2.2.2; omega
  · intro h4
    have h4 := of_decide_eq_false h4
    refine ⟨bv (decide_eq_false fun hh => h4 ?_).symm, trivial⟩
    rw [RQ.q, hh.2.2.2.1]
    unfold sgn zN
    simp
    have := hh.2.2.2.2.1
    omega
  · intro h3
    have h3 := of_decide_eq_false h3
    repeat refine ⟨nofun, fun _ => ?_⟩
    refine ⟨bv (decide_eq_false fun hh => h3 fun hb => ?_).symm, trivial⟩
    rw [hh.2.2.2.1] at hb; cases hb
  · intro h2
    have h2 := of_decide_eq_false h2
    repeat refine ⟨nofun, fun _ => ?_⟩
    exact ⟨bv (decide_eq_false fun hh => h2 hh.2.2.1).symm, trivial⟩
  · have h1 := of_decide_eq_false h1
    repeat refine ⟨nofun, fun _ => ?_⟩
    exact ⟨bv (decide_eq_false fun hh => h1 ⟨hh.1, hh.2.1⟩).symm, trivial⟩

set_option smartUnfolding false in
set_option maxRecDepth 100000 in
theorem product_z {A B : Array Value} {x y : Int} (hA : IsI A x) (hB : IsI B y) (hl : (x * y).natAbs < BB ^ 32) : Pure Tryz.prog 94 [SV.c (.agg A), SV.c (.agg B)] (.agg (eA (x * y))) := by
  refine sx_pure tt_ok mixed at94 _ _ rfl rfl fun w => ?_
  have h := mul_z hA hB
  rw [fitR, if_pos hl] at h
  exact ⟨hA.size, hB.size, .inl ⟨_, h, eA_fits _, eA_fits _, rfl, trivial⟩⟩
set_option smartUnfolding false in
set_option maxRecDepth 100000 in
theorem whole_z {A B : Array Value} {x y : Int} (hA : IsI A x) (hB : IsI B y) (hy : y ≠ 0) : Pure Tryz.prog 127 [SV.c (.agg A), SV.c (.agg B)] (.agg (eA (x / y))) := by
  refine sx_pure tt_ok mixed at127 _ _ rfl rfl fun w => ?_
  exact ⟨hA.size, hB.size, .inl ⟨_, divmod_z hA hB hy, eA_fits _, eA_fits _, eA_fits _, rfl, trivial⟩⟩
/-- a quotient in lowest terms, or the error -/
def mkQ (x y : Int) : RQ × Int :=
  if y = 0 then (.of 0 0, 11) else
  if bl (x / (sgn y * Int.gcd x y)).natAbs ≤ 480 ∧ bl (y / (sgn y * Int.gcd x y)).natAbs ≤ 480 then (.of (x / (sgn y * Int.gcd x y)) (y / (sgn y * Int.gcd x y)), 0) else (.of 0 0, 10)
def resQ (x : RQ × Int) : Value := .tuple #[.agg x.1.A, .int .i64 x.2]
set_option maxRecDepth 100000 in
theorem rA_zero : ti27.zero = (RQ.of 0 0).A := rfl
theorem fill_ratio {A B Z : Array Value} (hA : A.size = 33) (hB : B.size = 33) (hZ : Z.size = 66) {pl : List (Nat × Nat)} (hpl : pl = [(0, 33), (33, 33)]) : Instr.fill (fun k => pl[k]?) Z [(0, .agg A), (1, .agg B)] = some (A ++ B) := by
  subst hpl
  have := fill_all (pl := fun k => [(0, 33), (33, 33)][k]?) (vs := [.agg A, .agg B]) (Z := Z) ⟨by simp [Value.cells, hA], by simp [Value.cells, hA, hB], trivial⟩ (by simp [catV, Value.cells, hA, hB, hZ])
  rw [show catV [.agg A, .agg B] = A ++ B by simp [catV, Value.cells]] at this
  exact this
theorem sgn_zero {y : Int} : (sgn y == 0) = decide (y = 0) := by
  rw [Bool.eq_iff_iff]
  simp only [beq_iff_eq, decide_eq_true_eq]
  unfold sgn
  split
  · omega
  · split <;> simp_all
theorem sgn_neg {y : Int} : decide (sgn y < 0) = decide (y < 0) := by
  rw [Bool.eq_iff_iff]
  simp only [decide_eq_true_eq]
  unfold sgn
  split
  · omega
  · split <;> omega
theorem gcd_le {x y : Int} (hy : y ≠ 0) : 0 < Int.gcd x y ∧ Int.gcd x y ≤ y.natAbs := ⟨Int.gcd_pos_of_ne_zero_right _ hy, Nat.gcd_le_right _ (by omega)⟩
theorem div_le (x y : Int) : (x / y).natAbs ≤ x.natAbs + 1 := by
  rcases Decidable.em (y = 0) with e | e
  · subst e; simp
  have h1 := Int.natAbs_ediv_le_natAbs x y
  omega
set_option smartUnfolding false in
set_option maxRecDepth 100000 in
theorem make_z {A B : Array Value} {x y : Int} (hA : IsI A x) (hB : IsI B y) : Pure Tryz.prog 89 [SV.c (.agg A), SV.c (.agg B)] (resQ (mkQ x y)) := by
  refine sx_pure tt_ok mixed at89 _ _ rfl rfl fun w => ?_
  refine ⟨hA.size, hB.size, .inl ⟨_, sign_z hB, fun h => ?_, fun h => .inl ⟨_, gcd_z hA hB, eA_fits _, .inl ⟨_, sign_z hB, fun h2 => ?_, fun h2 => ?_⟩⟩⟩⟩
  · rw [sgn_zero] at h
    have h := of_decide_eq_true h
    refine ⟨ti27.zero, rfl, (RQ.of 0 0).A_fits, ?_, trivial⟩
    rw [mkQ, if_pos h]; rfl
  · rw [sgn_zero] at h
    have h := of_decide_eq_false h
    rw [sgn_neg] at h2
    have h2 := of_decide_eq_true h2
    obtain ⟨g1, g2⟩ := gcd_le (x := x) h
    have gl : ((Int.gcd x y : Nat) : Int).natAbs < BB ^ 32 := by have := hB.lt; omega
    have eg : -((Int.gcd x y : Nat) : Int) = sgn y * Int.gcd x y := by unfold sgn; rw [if_pos h2]; omega
    have hn := neg_z (isI_e gl)
    have gl2 : (-((Int.gcd x y : Nat) : Int)).natAbs < BB ^ 32 := by rw [Int.natAbs_neg]; exact gl
    have gn : -((Int.gcd x y : Nat) : Int) ≠ 0 := by omega
    rw [mkQ, if_neg h, ← eg]
    refine .inl ⟨_, hn, eA_fits _, ?_⟩
    have w1 := whole_z hA (isI_e gl2) gn
    have w2 := whole_z hB (isI_e gl2) gn
    have hin : (RQ.of (x / -((Int.gcd x y : Nat) : Int)) (y / -((Int.gcd x y : Nat) : Int))).In := ⟨Nat.lt_of_le_of_lt (Int.natAbs_ediv_le_natAbs x _) hA.lt, Nat.lt_of_le_of_lt (Int.natAbs_ediv_le_natAbs y _) hB.lt⟩
    have hf := fits_raw hin
    refine .inl ⟨_, w1, .inl ⟨_, w2, _, fill_ratio (eA_size _) (eA_size _) rfl rfl, (RQ.of (x / -((Int.gcd x y : Nat) : Int)) (y / -((Int.gcd x y : Nat) : Int))).A_fits, by kernel_rfl, .inl ⟨_, hf, fun h5 => ?_, fun h5 => ?_⟩⟩⟩
    · have h5 : decide (bl (x / -((Int.gcd x y : Nat) : Int)).natAbs ≤ 480 ∧ bl (y / -((Int.gcd x y : Nat) : Int)).natAbs ≤ 480) = false := bnt h5
      have h5 := of_decide_eq_false h5
      refine ⟨ti27.zero, rfl, (RQ.of 0 0).A_fits, ?_, trivial⟩
      rw [if_neg h5]; rfl
    · have h5 : decide (bl (x / -((Int.gcd x y : Nat) : Int)).natAbs ≤ 480 ∧ bl (y / -((Int.gcd x y : Nat) : Int)).natAbs ≤ 480) = true := bnf h5
      have h5 := of_decide_eq_true h5
      refine ⟨(RQ.of (x / -((Int.gcd x y : Nat) : Int)) (y / -((Int.gcd x y : Nat) : Int))).A_fits, ?_, trivial⟩
      rw [if_pos h5]; rfl
  · rw [sgn_zero] at h
    have h := of_decide_eq_false h
    rw [sgn_neg] at h2
    have h2 := of_decide_eq_false h2
    obtain ⟨g1, g2⟩ := gcd_le (x := x) h
    have gl : ((Int.gcd x y : Nat) : Int).natAbs < BB ^ 32 := by have := hB.lt; omega
    have eg : ((Int.gcd x y : Nat) : Int) = sgn y * Int.gcd x y := by unfold sgn; rw [if_neg h2, if_neg h]; omega
    have gn : ((Int.gcd x y : Nat) : Int) ≠ 0 := by omega
    rw [mkQ, if_neg h, ← eg]
    have w1 := whole_z hA (isI_e gl) gn
    have w2 := whole_z hB (isI_e gl) gn
    have hin : (RQ.of (x / ((Int.gcd x y : Nat) : Int)) (y / ((Int.gcd x y : Nat) : Int))).In := ⟨Nat.lt_of_le_of_lt (Int.natAbs_ediv_le_natAbs x _) hA.lt, Nat.lt_of_le_of_lt (Int.natAbs_ediv_le_natAbs y _) hB.lt⟩
    have hf := fits_raw hin
    refine .inl ⟨_, w1, .inl ⟨_, w2, _, fill_ratio (eA_size _) (eA_size _) rfl rfl, (RQ.of (x / ((Int.gcd x y : Nat) : Int)) (y / ((Int.gcd x y : Nat) : Int))).A_fits, by kernel_rfl, .inl ⟨_, hf, fun h5 => ?_, fun h5 => ?_⟩⟩⟩
    · have h5 : decide (bl (x / ((Int.gcd x y : Nat) : Int)).natAbs ≤ 480 ∧ bl (y / ((Int.gcd x y : Nat) : Int)).natAbs ≤ 480) = false := bnt h5
      have h5 := of_decide_eq_false h5
      refine ⟨ti27.zero, rfl, (RQ.of 0 0).A_fits, ?_, trivial⟩
      rw [if_neg h5]; rfl
    · have h5 : decide (bl (x / ((Int.gcd x y : Nat) : Int)).natAbs ≤ 480 ∧ bl (y / ((Int.gcd x y : Nat) : Int)).natAbs ≤ 480) = true := bnf h5
      have h5 := of_decide_eq_true h5
      refine ⟨(RQ.of (x / ((Int.gcd x y : Nat) : Int)) (y / ((Int.gcd x y : Nat) : Int))).A_fits, ?_, trivial⟩
      rw [if_pos h5]; rfl

set_option exponentiation.threshold 2000 in
theorem hp480 : 2 ^ 480 < BB ^ 32 := by decide
set_option exponentiation.threshold 2000 in
theorem hp960 : 2 ^ 960 < BB ^ 32 := by decide
set_option exponentiation.threshold 2000 in
theorem hp961 : 2 ^ 960 + 2 ^ 960 < BB ^ 32 := by decide
theorem mkQ_in (x y : Int) : (mkQ x y).1.In := by
  have hp : 2 ^ 480 < BB ^ 32 := hp480
  have key : ∀ z : Int, bl z.natAbs ≤ 480 → z.natAbs < BB ^ 32 := fun z h => Nat.lt_trans (Nat.lt_of_lt_of_le (bl_bits _).1 (Nat.pow_le_pow_right (by omega) h)) hp
  have hz : (RQ.of 0 0).In := ⟨zero_lt, zero_lt⟩
  unfold mkQ
  split
  · exact hz
  · split
    · rename_i h; exact ⟨key _ h.1, key _ h.2⟩
    · exact hz
theorem i64_lt {n : Int} (h1 : -9223372036854775808 ≤ n) (h2 : n ≤ 9223372036854775807) : n.natAbs < BB ^ 32 := Nat.lt_of_lt_of_le (by omega : n.natAbs < 18446744073709551616) two64
set_option smartUnfolding false in
set_option maxRecDepth 100000 in
theorem of_z {n d : Int} (h1 : -9223372036854775808 ≤ n) (h2 : n ≤ 9223372036854775807) (h3 : -9223372036854775808 ≤ d) (h4 : d ≤ 9223372036854775807) : Pure Tryz.prog 57 [SV.c (.int .i64 n), SV.c (.int .i64 d)] (resQ (mkQ n d)) := by
  refine sx_pure tt_ok mixed at57 _ _ rfl rfl fun w => ?_
  refine .inl ⟨_, fromInt_z n h1 h2, .inl ⟨_, fromInt_z d h3 h4, .inl ⟨_, make_z (isI_e (i64_lt h1 h2)) (isI_e (i64_lt h3 h4)), RQ.A_fits _, rfl, trivial⟩⟩⟩
set_option smartUnfolding false in
set_option maxRecDepth 100000 in
theorem whole1_z {n : Int} (h1 : -9223372036854775808 ≤ n) (h2 : n ≤ 9223372036854775807) : Pure Tryz.prog 86 [SV.c (.int .i64 n)] (.agg (RQ.of n 1).A) := by
  refine sx_pure tt_ok mixed at86 _ _ rfl rfl fun w => ?_
  refine .inl ⟨_, fromInt_z n h1 h2, .inl ⟨_, fromInt_z 1 (by omega) (by omega), _, fill_ratio (eA_size _) (eA_size _) rfl rfl, (RQ.of n 1).A_fits, rfl, trivial⟩⟩
set_option exponentiation.threshold 2000 in
/-- the parts of a product -/
theorem bits_mul {x y : Int} (hx : bl x.natAbs ≤ 480) (hy : bl y.natAbs ≤ 480) : (x * y).natAbs < 2 ^ 960 := by
  have h1 : x.natAbs < 2 ^ 480 := Nat.lt_of_lt_of_le (bl_bits _).1 (Nat.pow_le_pow_right (by omega) hx)
  have h2 : y.natAbs < 2 ^ 480 := Nat.lt_of_lt_of_le (bl_bits _).1 (Nat.pow_le_pow_right (by omega) hy)
  rw [Int.natAbs_mul, show 960 = 480 + 480 from rfl, Nat.pow_add]
  exact Nat.mul_lt_mul'' h1 h2
set_option smartUnfolding false in
set_option maxRecDepth 100000 in
theorem mul1_z {r s : RQ} (hr : r.In) (hs : s.In) (h1 : (r.p * s.p).natAbs < BB ^ 32) (h2 : (r.q * s.q).natAbs < BB ^ 32) : Pure Tryz.prog 93 [SV.c (.agg r.A), SV.c (.agg s.A)] (.tuple #[.agg (eA (r.p * s.p)), .agg (eA (r.q * s.q))]) := by
  refine sx_pure tt_ok mixed at93 _ _ rfl rfl fun w => ?_
  refine ⟨r.A_size, s.A_size, by decide, _, r.cat_l, by decide, _, s.cat_l, .inl ⟨_, product_z hr.num hs.num h1, by decide, _, r.cat_r, by decide, _, s.cat_r, .inl ⟨_, product_z hr.den hs.den h2, eA_fits _, eA_fits _, by kernel_rfl, rfl, trivial⟩⟩⟩
set_option smartUnfolding false in
set_option maxRecDepth 100000 in
theorem calc_z {r s : RQ} (hr : r.In) (hs : s.In) {g : FuncId} {x y : Int} (hg : r.ok = true → s.ok = true → Pure Tryz.prog g [SV.c (.agg r.A), SV.c (.agg s.A)] (.tuple #[.agg (eA x), .agg (eA y)]) ∧ x.natAbs < BB ^ 32 ∧ y.natAbs < BB ^ 32) :
    Pure Tryz.prog 92 [SV.c (.agg r.A), SV.c (.agg s.A), SV.c (.func (.func g) #[] #[])] (resQ (if r.ok && s.ok then mkQ x y else (.of 0 0, 20))) := by
  refine sx_pure tt_ok mixed at92 _ _ rfl rfl fun w => ?_
  refine ⟨r.A_size, s.A_size, .inl ⟨_, valid_raw hr, fun h1 => .inl ⟨_, valid_raw hs, fun h2 => ?_, fun h2 => ?_⟩, fun h1 => ?_⟩⟩
  · have h2 := bnt h2
    refine ⟨ti27.zero, rfl, (RQ.of 0 0).A_fits, ?_, trivial⟩
    rw [h2, Bool.and_false, if_neg Bool.false_ne_true]; rfl
  · have h1 := of_bnf h1
    have h2 := bnf h2
    obtain ⟨h3, h4, h5⟩ := hg h1 h2
    refine .inl ⟨_, h3, .inl ⟨_, make_z (isI_e h4) (isI_e h5), RQ.A_fits _, ?_, trivial⟩⟩
    rw [h1, h2, Bool.and_true, if_pos rfl]; rfl
  · have h1 := bnt h1
    refine ⟨fun _ => ⟨ti27.zero, rfl, (RQ.of 0 0).A_fits, ?_, trivial⟩, nofun⟩
    rw [h1, Bool.false_and, if_neg Bool.false_ne_true]; rfl
def mulQ (r s : RQ) : RQ × Int := if r.ok && s.ok then mkQ (r.p * s.p) (r.q * s.q) else (.of 0 0, 20)
/-- what validity says -/
theorem RQ.ok_bits {r : RQ} (h : r.ok = true) : bl r.p.natAbs ≤ 480 ∧ bl r.q.natAbs ≤ 480 ∧ 0 < r.q ∧ Int.gcd r.p r.q = 1 ∧ r = .of r.p r.q := by
  have h := of_decide_eq_true h
  obtain ⟨h1, h2, h3, h4, h5, h6⟩ := h
  obtain ⟨a, N, b, D⟩ := r
  simp only [RQ.p, RQ.q, RQ.of] at *
  subst h4
  rw [zN_abs, zN_abs, gcd_zN]
  refine ⟨h1, h2, by simp [zN]; omega, h6, ?_⟩
  congr 1
  · cases a
    · simp [zN]
    · simp [zN]; have := h3 rfl; omega
theorem mul_lt' {x y : Int} (hx : bl x.natAbs ≤ 480) (hy : bl y.natAbs ≤ 480) : (x * y).natAbs < BB ^ 32 := Nat.lt_trans (bits_mul hx hy) hp960
set_option smartUnfolding false in
set_option maxRecDepth 100000 in
theorem mulR_z {r s : RQ} (hr : r.In) (hs : s.In) : Pure Tryz.prog 49 [SV.c (.agg r.A), SV.c (.agg s.A)] (resQ (mulQ r s)) := by
  refine sx_pure tt_ok mixed at49 _ _ rfl rfl fun w => ?_
  have h := calc_z (g := 93) (x := r.p * s.p) (y := r.q * s.q) hr hs fun h1 h2 => by
    have k1 := RQ.ok_bits h1
    have k2 := RQ.ok_bits h2
    have m1 := mul_lt' k1.1 k2.1
    have m2 := mul_lt' k1.2.1 k2.2.1
    exact ⟨mul1_z hr hs m1 m2, m1, m2⟩
  exact ⟨r.A_size, s.A_size, .inl ⟨_, h, RQ.A_fits _, rfl, trivial⟩⟩
end Go.Proofs.YtnfmpddhcjkjbaaGreatDoor
