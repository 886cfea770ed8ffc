/- walks: rounding; no condition. -/
import Derived.Test.YtnfmpddhcjkjbaaGreatDoorV11
namespace Go.Proofs.YtnfmpddhcjkjbaaGreatDoor
open Go Go.RowKit Go.SX
/-- powers of ten -/
def tp (n : Nat) : Nat := 10 ^ n
theorem tp_le {n k : Nat} (h : n ≤ k) : tp n ≤ tp k := Nat.pow_le_pow_right (by omega) h
theorem tp_pos (n : Nat) : 0 < tp n := Nat.pow_pos (by omega)
theorem tp_succ (n : Nat) : tp (n + 1) = tp n * 10 := Nat.pow_succ ..
theorem tp18 : tp 18 = 1000000000000000000 := rfl
theorem tp9 : tp 9 = 1000000000 := rfl
set_option smartUnfolding false in
set_option maxRecDepth 100000 in
theorem power_z {n : Nat} (h : n ≤ 18) : Pure Tryz.prog 154 [SV.c (.int .i64 n)] (.int .i64 ((tp n : Nat) : Int)) := by
  refine sx_pure tt_ok mixed at154 _ _ rfl rfl fun w => ?_
  refine ⟨fun q f m => ∃ i : Nat, q = n - i ∧ i ≤ n ∧ f = [(3, SV.c (.int .i64 ((tp i : Nat) : Int))), (4, SV.c (.int .i64 n)), (5, SV.c (.int .i64 i))] ∧ m = [], n, ⟨_, _, ⟨0, rfl, Nat.zero_le _, rfl, rfl⟩, ⟨rfl, rfl, rfl, trivial⟩, trivial, rfl⟩, ?_⟩
  rintro q f m ⟨i, rfl, hi, rfl, rfl⟩
  refine ⟨fun h1 => ?_, fun h1 => ?_⟩
  · have h1 : (i : Int) < n := of_decide_eq_true h1
    have hp : tp (i + 1) ≤ tp 18 := tp_le (by omega)
    refine ⟨n - (i + 1), _, _, by omega, ⟨i + 1, rfl, by omega, rfl, rfl⟩, ⟨c_int ?_, rfl, c_int (by rw [i64_in (by omega)]; rfl), trivial⟩, trivial, rfl⟩
    rw [tp_succ, tp18] at hp
    rw [tp_succ]
    rw [i64_in (by omega)]
    omega
  · have h1 : ¬ ((i : Int) < n) := of_decide_eq_false h1
    obtain rfl : i = n := by omega
    exact ⟨rfl, trivial⟩
set_option smartUnfolding false in
set_option maxRecDepth 100000 in
theorem check_z {r : RQ} (hr : r.In) (n : Int) : Pure Tryz.prog 132 [SV.c (.agg r.A), SV.c (.int .i64 n)] (.int .i64 (if !r.ok then 20 else if n < 0 ∨ n > 9 then 30 else 0)) := by
  refine sx_pure tt_ok mixed at132 _ _ rfl rfl fun w => ?_
  refine ⟨r.A_size, .inl ⟨_, valid_raw hr, fun h1 => ?_, fun h1 => ⟨fun h2 => ?_, fun h2 => ?_⟩⟩⟩
  · have h1 := bnt h1
    refine ⟨iv ?_, trivial⟩
    rw [h1]; rfl
  · have h1 := bnf h1
    have h2 := of_decide_eq_false h2
    refine ⟨fun h3 => ⟨iv ?_, trivial⟩, fun h3 => ⟨iv ?_, trivial⟩⟩
    · have h3 := of_decide_eq_true h3
      rw [h1, if_neg (by decide), if_pos (.inr h3)]
    · have h3 := of_decide_eq_false h3
      rw [h1, if_neg (by decide), if_neg (by omega)]
  · have h1 := bnf h1
    have h2 := of_decide_eq_true h2
    refine ⟨fun _ => ⟨iv ?_, trivial⟩, nofun⟩
    rw [h1, if_neg (by decide), if_pos (.inl h2)]
set_option exponentiation.threshold 2000 in
theorem scale_lt {x : Int} {n : Nat} (hx : bl x.natAbs ≤ 480) (hn : n ≤ 9) : (x * ((tp n : Nat) : Int)).natAbs < BB ^ 32 := by
  have h2 : bl (((tp n : Nat) : Int)).natAbs ≤ 480 := by
    rw [Int.natAbs_natCast]
    have := tp_le hn
    rw [tp9] at this
    refine Nat.le_trans (bl_le (k := 30) ?_) (by omega)
    omega
  exact mul_lt' hx h2
set_option smartUnfolding false in
set_option maxRecDepth 100000 in
theorem scaled_z {r : RQ} (hr : r.In) (hk : r.ok = true) {n : Nat} (hn : n ≤ 9) : Pure Tryz.prog 133 [SV.c (.agg r.A), SV.c (.int .i64 n)] (.tuple #[.agg (eA (r.p * ((tp n : Nat) : Int) / r.q)), .agg (eA (r.p * ((tp n : Nat) : Int) % r.q))]) := by
  refine sx_pure tt_ok mixed at133 _ _ rfl rfl fun w => ?_
  obtain ⟨k1, k2, k3, k4, k5⟩ := RQ.ok_bits hk
  have hp := tp_le hn
  rw [tp9] at hp
  have hl := scale_lt k1 hn
  have hm := mul_z hr.num (isI_e (z := ((tp n : Nat) : Int)) (i64_lt (by omega) (by omega)))
  rw [fitR, if_pos hl] at hm
  refine ⟨r.A_size, by decide, _, r.cat_l, .inl ⟨_, power_z (by omega), .inl ⟨_, fromInt_z _ (by omega) (by omega), .inl ⟨_, hm, eA_fits _, by kernel_rfl, by decide, _, r.cat_r, .inl ⟨_, divmod_z (isI_e hl) hr.den (by omega), eA_fits _, eA_fits _, eA_fits _, eA_fits _, by kernel_rfl, rfl, trivial⟩⟩⟩⟩⟩

theorem runs_fnil {E : Env} {t : TypeId} {x y : Operand} {a : Array TypeId} {b : Array TypeId} {c : Bool} (hu : E.P.underlying t = some (.func a b c)) {f : Fn} {p q : Array Value} : Runs E (do eqGuard .eql t x y (.func f p q) .nilFunc; binOp .eql t (.func f p q) .nilFunc) (.bool false) := fun w _ => by
  have h1 : (eqGuard .eql t x y (.func f p q) .nilFunc).run E.P w = .ok () w := by simp [eqGuard]
  have h2 : (Op.equal t (.func f p q) .nilFunc).run E.P w = .ok false w := by
    show (Op.equalIn (9999 + 1) t _ _).run E.P w = _
    rw [Op.equalIn]
    simp only [Sem.run_bind, run_underlying hu, Result.andThen_ok, Sem.run_pure]
  have h3 : binOp .eql t (.func f p q) .nilFunc = (do pure (.bool (← Op.equal t (.func f p q) .nilFunc))) := rfl
  rw [Sem.run_bind, h1, h3]
  simp [h2]
theorem runs_nilnil {E : Env} {t : TypeId} {x y : Operand} {a : Array TypeId} {b : Array TypeId} {c : Bool} (hu : E.P.underlying t = some (.func a b c)) : Runs E (do eqGuard .eql t x y .nilFunc .nilFunc; binOp .eql t .nilFunc .nilFunc) (.bool true) := fun w _ => by
  have h1 : (eqGuard .eql t x y .nilFunc .nilFunc).run E.P w = .ok () w := by simp [eqGuard]
  have h2 : (Op.equal t .nilFunc .nilFunc).run E.P w = .ok true w := by
    show (Op.equalIn (9999 + 1) t _ _).run E.P w = _
    rw [Op.equalIn]
    simp only [Sem.run_bind, run_underlying hu, Result.andThen_ok, Sem.run_pure]
  have h3 : binOp .eql t .nilFunc .nilFunc = (do pure (.bool (← Op.equal t .nilFunc .nilFunc))) := rfl
  rw [Sem.run_bind, h1, h3]
  simp [h2]
/-- a number between two whole ones, in memory -/
def btA (low half : Int) (neg : Bool) : Array Value := eA low ++ #[.int .i64 half, .bool neg]
theorem btA_fits (low half : Int) (neg : Bool) : Fits (btA low half neg) 35 := ⟨by simp [btA, eA_size], by rw [btA, Array.all_append, (eA_fits low).one]; simp [Value.oneCell']⟩
theorem btA_half {low half : Int} {neg : Bool} : (btA low half neg)[33]? = some (.int .i64 half) := by
  rw [btA, Array.getElem?_append_right (by rw [eA_size]; omega), eA_size]; rfl
theorem btA_neg {low half : Int} {neg : Bool} : (btA low half neg)[34]? = some (.bool neg) := by
  rw [btA, Array.getElem?_append_right (by rw [eA_size]; omega), eA_size]; rfl
theorem btA_low {low half : Int} {neg : Bool} : (btA low half neg)[1]? = some (.int .u32 (dg low.natAbs 0 : Nat)) := by
  rw [btA, Array.getElem?_append_left (by rw [eA_size]; omega), eA, iA, Array.getElem?_append_right (by simp)]
  exact mA_get (by omega)
theorem fill_bt {low half : Int} {neg : Bool} {Z : Array Value} (hZ : Z.size = 35) {pl : List (Nat × Nat)} (hpl : pl = [(0, 33), (33, 1), (34, 1)]) : Instr.fill (fun k => pl[k]?) Z [(0, .agg (eA low)), (1, .int .i64 half), (2, .bool neg)] = some (btA low half neg) := by
  subst hpl
  have := fill_all (pl := fun k => [(0, 33), (33, 1), (34, 1)][k]?) (vs := [.agg (eA low), .int .i64 half, .bool neg]) (Z := Z) ⟨by simp [Value.cells, eA_size], by simp [Value.cells, eA_size], by simp [Value.cells, eA_size], trivial⟩ (by simp [catV, Value.cells, eA_size, hZ])
  rw [show catV [.agg (eA low), .int .i64 half, .bool neg] = btA low half neg by simp [catV, Value.cells, btA]] at this
  exact this
/-- is it rounded up -/
def upM (mode : Int) (neg : Bool) (half : Int) (odd : Bool) : Bool :=
  if mode = 1 then neg else if mode = 2 then !neg else if mode = 3 then false else if mode = 4 then true else if mode = 5 then (if half = 0 then !neg else decide (half > 0)) else (if half = 0 then odd else decide (half > 0))
set_option smartUnfolding false in
set_option maxRecDepth 100000 in
theorem down_z (low half : Int) (neg : Bool) : Pure Tryz.prog 155 [SV.c (.agg (btA low half neg))] (.bool neg) := by
  refine sx_pure tt_ok mixed at155 _ _ rfl rfl fun w => ?_
  exact ⟨(btA_fits low half neg).size, _, btA_neg, rfl, trivial⟩
set_option smartUnfolding false in
set_option maxRecDepth 100000 in
theorem up_z (low half : Int) (neg : Bool) : Pure Tryz.prog 156 [SV.c (.agg (btA low half neg))] (.bool !neg) := by
  refine sx_pure tt_ok mixed at156 _ _ rfl rfl fun w => ?_
  exact ⟨(btA_fits low half neg).size, _, btA_neg, rfl, trivial⟩
set_option smartUnfolding false in
set_option maxRecDepth 100000 in
theorem floor_z (low half : Int) (neg : Bool) : Pure Tryz.prog 157 [SV.c (.agg (btA low half neg))] (.bool false) := by
  refine sx_pure tt_ok mixed at157 _ _ rfl rfl fun w => ?_
  exact ⟨(btA_fits low half neg).size, rfl, trivial⟩
set_option smartUnfolding false in
set_option maxRecDepth 100000 in
theorem ceil_z (low half : Int) (neg : Bool) : Pure Tryz.prog 158 [SV.c (.agg (btA low half neg))] (.bool true) := by
  refine sx_pure tt_ok mixed at158 _ _ rfl rfl fun w => ?_
  exact ⟨(btA_fits low half neg).size, rfl, trivial⟩
set_option smartUnfolding false in
set_option maxRecDepth 100000 in
theorem halfUp_z (low half : Int) (neg : Bool) : Pure Tryz.prog 159 [SV.c (.agg (btA low half neg))] (.bool (if half = 0 then !neg else decide (half > 0))) := by
  refine sx_pure tt_ok mixed at159 _ _ rfl rfl fun w => ?_
  refine ⟨(btA_fits low half neg).size, _, btA_half, fun h => .inl ⟨_, up_z low half neg, bv ?_, trivial⟩, fun h => ⟨_, btA_half, bv ?_, trivial⟩⟩
  · rw [if_pos (by simpa using h)]
  · rw [if_neg (by simpa using h)]
theorem dg0 (N : Nat) : dg N 0 = N % 4294967296 := by simp [dg, BB_eq]
set_option smartUnfolding false in
set_option maxRecDepth 100000 in
theorem halfEven_z (low half : Int) (neg : Bool) : Pure Tryz.prog 160 [SV.c (.agg (btA low half neg))] (.bool (if half = 0 then decide (low % 2 = 1) else decide (half > 0))) := by
  refine sx_pure tt_ok mixed at160 _ _ rfl rfl fun w => ?_
  refine ⟨(btA_fits low half neg).size, _, btA_half, fun h => ⟨by decide, by decide, _, btA_low, by decide, bv ?_, trivial⟩, fun h => ⟨_, btA_half, bv ?_, trivial⟩⟩
  · rw [if_pos (by simpa using h), dg0, Bool.eq_iff_iff]
    simp only [beq_iff_eq, decide_eq_true_eq]
    rw [Int.tmod_eq_emod_of_nonneg (by omega)]
    omega
  · rw [if_neg (by simpa using h)]
/-- the function that a mode is -/
def modeF (mode : Int) (v : Value) : Value :=
  if mode = 1 then .func (.func 155) #[v] #[] else if mode = 2 then .func (.func 156) #[v] #[] else if mode = 3 then .func (.func 157) #[v] #[] else if mode = 4 then .func (.func 158) #[v] #[] else if mode = 5 then .func (.func 159) #[v] #[] else if mode = 6 then .func (.func 160) #[v] #[] else .nilFunc
set_option smartUnfolding false in
set_option maxRecDepth 100000 in
theorem mode_z (low half : Int) (neg : Bool) (mode : Int) : Pure Tryz.prog 136 [SV.c (.agg (btA low half neg)), SV.c (.int .i64 mode)] (modeF mode (.agg (btA low half neg))) := by
  refine sx_pure tt_ok mixed at136 _ _ rfl rfl fun w => ?_
  unfold modeF
  refine ⟨(btA_fits low half neg).size, fun h => ⟨?_, trivial⟩, fun h => ⟨fun h2 => ⟨?_, trivial⟩, fun h2 => ⟨fun h3 => ⟨?_, trivial⟩, fun h3 => ⟨fun h4 => ⟨?_, trivial⟩, fun h4 => ⟨fun h5 => ⟨?_, trivial⟩, fun h5 => ⟨fun h6 => ⟨?_, trivial⟩, fun h6 => ⟨?_, trivial⟩⟩⟩⟩⟩⟩⟩
  all_goals simp only [beq_iff_eq, beq_eq_false_iff_ne, ne_eq] at *
  · rw [if_pos h]; rfl
  · rw [if_neg h, if_pos h2]; rfl
  · rw [if_neg h, if_neg h2, if_pos h3]; rfl
  · rw [if_neg h, if_neg h2, if_neg h3, if_pos h4]; rfl
  · rw [if_neg h, if_neg h2, if_neg h3, if_neg h4, if_pos h5]; rfl
  · rw [if_neg h, if_neg h2, if_neg h3, if_neg h4, if_neg h5, if_pos h6]; rfl
  · rw [if_neg h, if_neg h2, if_neg h3, if_neg h4, if_neg h5, if_neg h6]; rfl
theorem mode_bad (low half : Int) (neg : Bool) {mode : Int} (h : mode < 1 ∨ mode > 6) : Pure Tryz.prog 136 [SV.c (.agg (btA low half neg)), SV.c (.int .i64 mode)] .nilFunc := by
  have := mode_z low half neg mode
  unfold modeF at this
  rwa [if_neg (by omega), if_neg (by omega), if_neg (by omega), if_neg (by omega), if_neg (by omega), if_neg (by omega)] at this
theorem mode_good (low half : Int) (neg : Bool) {mode : Int} (h : ¬ (mode < 1 ∨ mode > 6)) : ∃ g, Pure Tryz.prog 136 [SV.c (.agg (btA low half neg)), SV.c (.int .i64 mode)] (.func (.func g) #[.agg (btA low half neg)] #[]) ∧ Pure Tryz.prog g [SV.c (.agg (btA low half neg))] (.bool (upM mode neg half (decide (low % 2 = 1)))) := by
  have := mode_z low half neg mode
  unfold modeF at this
  unfold upM
  by_cases h1 : mode = 1
  · rw [if_pos h1] at this ⊢; exact ⟨_, this, down_z _ _ _⟩
  rw [if_neg h1] at this ⊢
  by_cases h2 : mode = 2
  · rw [if_pos h2] at this ⊢; exact ⟨_, this, up_z _ _ _⟩
  rw [if_neg h2] at this ⊢
  by_cases h3 : mode = 3
  · rw [if_pos h3] at this ⊢; exact ⟨_, this, floor_z _ _ _⟩
  rw [if_neg h3] at this ⊢
  by_cases h4 : mode = 4
  · rw [if_pos h4] at this ⊢; exact ⟨_, this, ceil_z _ _ _⟩
  rw [if_neg h4] at this ⊢
  by_cases h5 : mode = 5
  · rw [if_pos h5] at this ⊢; exact ⟨_, this, halfUp_z _ _ _⟩
  rw [if_neg h5] at this ⊢
  rw [if_pos (show mode = 6 by omega)] at this
  exact ⟨_, this, halfEven_z _ _ _⟩
/-- a quotient, rounded to a whole number -/
def rndZ (mode x y : Int) : Int := if x % y = 0 then x / y else if upM mode (decide (x < 0)) (cmpI (x % y + x % y) y) (decide (x / y % 2 = 1)) then x / y + 1 else x / y
def rndQ (r : RQ) (n mode : Int) : Int × Int := if !r.ok then (0, 20) else if n < 0 ∨ n > 9 then (0, 30) else if mode < 1 ∨ mode > 6 then (0, 31) else (rndZ mode (r.p * (tp n.toNat : Nat)) r.q, 0)
def resZ (x : Int × Int) : Value := .tuple #[.agg (eA x.1), .int .i64 x.2]
set_option exponentiation.threshold 2000 in
theorem scale_lt2 {x : Int} {n : Nat} (hx : bl x.natAbs ≤ 480) (hn : n ≤ 9) : (x * ((tp n : Nat) : Int)).natAbs < 2 ^ 960 := by
  have h2 : bl (((tp n : Nat) : Int)).natAbs ≤ 480 := by
    rw [Int.natAbs_natCast]
    have := tp_le hn
    rw [tp9] at this
    refine Nat.le_trans (bl_le (k := 30) ?_) (by omega)
    omega
  exact bits_mul hx h2
theorem sign_scaled {x : Int} {n : Nat} : decide (x * ((tp n : Nat) : Int) < 0) = decide (x < 0) := by
  have := tp_pos n
  rw [Bool.eq_iff_iff]
  simp only [decide_eq_true_eq]
  constructor
  · intro h
    rcases Int.lt_or_le x 0 with h1 | h1
    · exact h1
    · have := Int.mul_nonneg h1 (show (0 : Int) ≤ (tp n : Nat) by omega); omega
  · intro h
    exact Int.mul_neg_of_neg_of_pos h (by omega)
set_option exponentiation.threshold 2000 in
set_option smartUnfolding false in
set_option maxRecDepth 100000 in
set_option maxHeartbeats 2000000 in
theorem round_z {r : RQ} (hr : r.In) (n mode : Int) : Pure Tryz.prog 95 [SV.c (.agg r.A), SV.c (.int .i64 n), SV.c (.int .i64 mode)] (resZ (rndQ r n mode)) := by
  refine sx_pure tt_ok mixed at95 _ _ rfl rfl fun w => ?_
  have hc := check_z hr n
  rcases Decidable.em (r.ok = true) with hk | hk
  case inr =>
    have hk : r.ok = false := by simpa using hk
    rw [hk, Bool.not_false, if_pos rfl] at hc
    refine ⟨r.A_size, .inl ⟨_, hc, fun _ => ?_, nofun⟩⟩
    refine ⟨ti25.zero, rfl, eA_fits 0, ?_, trivial⟩
    rw [rndQ, hk, Bool.not_false, if_pos rfl]; rfl
  rw [hk] at hc
  rcases Decidable.em (n < 0 ∨ n > 9) with hn | hn
  · rw [Bool.not_true, if_neg Bool.false_ne_true, if_pos hn] at hc
    refine ⟨r.A_size, .inl ⟨_, hc, fun _ => ?_, nofun⟩⟩
    refine ⟨ti25.zero, rfl, eA_fits 0, ?_, trivial⟩
    rw [rndQ, hk, Bool.not_true, if_neg Bool.false_ne_true, if_pos hn]; rfl
  rw [Bool.not_true, if_neg Bool.false_ne_true, if_neg hn] at hc
  obtain ⟨k, rfl⟩ : ∃ k : Nat, n = k := ⟨n.toNat, by omega⟩
  have hk9 : k ≤ 9 := by omega
  obtain ⟨k1, k2, k3, k4, k5⟩ := RQ.ok_bits hk
  have hs := scaled_z hr hk hk9
  have hl := scale_lt2 k1 hk9
  have hrl : (r.p * ((tp k : Nat) : Int) % r.q).natAbs < 2 ^ 480 := by
    have h1 := Int.emod_lt_of_pos (r.p * ((tp k : Nat) : Int)) k3
    have h2 := Int.emod_nonneg (r.p * ((tp k : Nat) : Int)) (show r.q ≠ 0 by omega)
    have h3 : r.q.natAbs < 2 ^ 480 := Nat.lt_of_lt_of_le (bl_bits _).1 (Nat.pow_le_pow_right (by omega) k2)
    omega
  have hlow : (r.p * ((tp k : Nat) : Int) / r.q).natAbs < 2 ^ 960 := Nat.lt_of_le_of_lt (Int.natAbs_ediv_le_natAbs _ _) hl
  have p1 := hp480
  have p2 := hp960
  have p3 := hp961
  have pp : 2 ^ 480 + 2 ^ 480 ≤ 2 ^ 960 := by decide
  have p4 : 1 ≤ 2 ^ 960 := Nat.pow_pos (by omega)
  rw [rndQ, hk, Bool.not_true, if_neg Bool.false_ne_true, if_neg hn, Int.toNat_natCast]
  unfold rndZ
  have eneg := sign_scaled (x := r.p) (n := k)
  generalize hlowE : r.p * ((tp k : Nat) : Int) / r.q = low at *
  generalize hrestE : r.p * ((tp k : Nat) : Int) % r.q = rest at *
  have ht := add_z (isI_e (z := rest) (by omega)) (isI_e (z := rest) (by omega))
  rw [fitR, if_pos (by omega)] at ht
  have hcm := cmp_z (isI_e (z := rest + rest) (by omega)) hr.den
  have hsn := sign_z hr.num
  rcases Decidable.em (mode < 1 ∨ mode > 6) with hm | hm
  · have hmode := mode_bad low (cmpI (rest + rest) r.q) (decide (sgn r.p < 0)) hm
    refine ⟨r.A_size, .inl ⟨_, hc, nofun, fun _ => .inl ⟨_, hs, eA_fits _, eA_fits _, .inl ⟨_, ht, eA_fits _, by decide, _, r.cat_r, .inl ⟨_, hcm, by decide, _, r.cat_l, .inl ⟨_, hsn, _, fill_bt rfl rfl, .inl ⟨_, hmode, by kernel_rfl, _, runs_nilnil Tryz.underlying37, fun _ => ?_, nofun⟩⟩⟩⟩⟩⟩⟩
    refine ⟨ti25.zero, rfl, eA_fits 0, ?_, trivial⟩
    rw [if_pos hm]; rfl
  · obtain ⟨g, hmode, hup⟩ := mode_good low (cmpI (rest + rest) r.q) (decide (sgn r.p < 0)) hm
    rw [if_neg hm]
    refine ⟨r.A_size, .inl ⟨_, hc, nofun, fun _ => .inl ⟨_, hs, eA_fits _, eA_fits _, .inl ⟨_, ht, eA_fits _, by decide, _, r.cat_r, .inl ⟨_, hcm, by decide, _, r.cat_l, .inl ⟨_, hsn, _, fill_bt rfl rfl, .inl ⟨_, hmode, by kernel_rfl, _, runs_fnil Tryz.underlying37, nofun, fun _ => .inl ⟨_, sign_z (isI_e (z := rest) (by omega)), fun h1 => ?_, fun h1 => ?_⟩⟩⟩⟩⟩⟩⟩⟩
    · rw [sgn_zero] at h1
      have h1 := of_decide_eq_false h1
      rw [if_neg h1]
      refine .inl ⟨_, hup, fun h2 => ?_, fun h2 => ?_⟩
      · have h2 := bnt h2
        refine ⟨eA_fits _, ?_, trivial⟩
        rw [sgn_neg, ← eneg] at h2
        rw [h2, if_neg Bool.false_ne_true]; rfl
      · have h2 := bnf h2
        have ha := add_z (isI_e (z := low) (by omega)) (isI_e (z := 1) (by omega))
        rw [fitR, if_pos (by omega)] at ha
        refine .inl ⟨_, fromInt_z 1 (by omega) (by omega), .inl ⟨_, ha, eA_fits _, by kernel_rfl, eA_fits _, ?_, trivial⟩⟩
        rw [sgn_neg, ← eneg] at h2
        rw [h2, if_pos rfl]; rfl
    · rw [sgn_zero] at h1
      have h1 : rest = 0 := of_decide_eq_true h1
      refine ⟨fun _ => ⟨eA_fits _, ?_, trivial⟩, nofun⟩
      rw [if_pos h1]; rfl
/-- the number of cents and so on, if it is not too large -/
def rndI (x : Int × Int) : Int × Int := if x.2 ≠ 0 then (0, x.2) else if x.1 < -1000000000000000 ∨ x.1 > 1000000000000000 then (0, 33) else (x.1, 0)
def resI (x : Int × Int) : Value := .tuple #[.int .i64 x.1, .int .i64 x.2]
set_option exponentiation.threshold 2000 in
theorem rndZ_lt {r : RQ} (hk : r.ok = true) {n : Nat} (hn : n ≤ 9) (mode : Int) : (rndZ mode (r.p * (tp n : Nat)) r.q).natAbs < BB ^ 32 := by
  obtain ⟨k1, k2, k3, k4, k5⟩ := RQ.ok_bits hk
  have hl := scale_lt2 k1 hn
  have hlow : (r.p * ((tp n : Nat) : Int) / r.q).natAbs < 2 ^ 960 := Nat.lt_of_le_of_lt (Int.natAbs_ediv_le_natAbs _ _) hl
  have p3 := hp961
  have p4 : 1 ≤ 2 ^ 960 := Nat.pow_pos (by omega)
  unfold rndZ
  split
  · omega
  · split <;> omega
theorem rndQ_lt (r : RQ) (n mode : Int) : (rndQ r n mode).1.natAbs < BB ^ 32 := by
  unfold rndQ
  split
  · exact zero_lt
  · split
    · exact zero_lt
    · split
      · exact zero_lt
      · rename_i h1 h2 h3
        exact rndZ_lt (by simpa using h1) (by omega) mode
set_option smartUnfolding false in
set_option maxRecDepth 100000 in
set_option maxHeartbeats 2000000 in
theorem roundInt_z {r : RQ} (hr : r.In) (n mode : Int) : Pure Tryz.prog 50 [SV.c (.agg r.A), SV.c (.int .i64 n), SV.c (.int .i64 mode)] (resI (rndI (rndQ r n mode))) := by
  refine sx_pure tt_ok mixed at50 _ _ rfl rfl fun w => ?_
  have hx := round_z hr n mode
  have hlt := rndQ_lt r n mode
  generalize rndQ r n mode = x at *
  obtain ⟨x, e⟩ := x
  have ht := toInt_z (isI_e hlt)
  have hx : Pure Tryz.prog 95 [SV.c (.agg r.A), SV.c (.int .i64 n), SV.c (.int .i64 mode)] (.tuple #[.agg (eA x), .int .i64 e]) := hx
  have ht : Pure Tryz.prog 48 [SV.c (.agg (eA x))] (toIntR x) := ht
  refine ⟨r.A_size, .inl ⟨_, hx, eA_fits _, fun h => ?_, fun h => ?_⟩⟩
  · have h : e ≠ 0 := by simpa using h
    refine ⟨?_, trivial⟩
    rw [rndI, if_pos h]; rfl
  · have h : ¬ (e ≠ 0) := by simpa using h
    rw [rndI, if_neg h]
    by_cases hz : -9223372036854775808 ≤ x ∧ x ≤ 9223372036854775807
    · rw [toIntR, if_pos hz] at ht
      refine .inl ⟨_, ht, fun _ => ⟨fun h1 => ⟨fun h2 => ?_, fun h2 => ?_⟩, fun h1 => ⟨fun _ => ?_, nofun⟩⟩, nofun⟩
      · have h1 := of_decide_eq_false h1
        have h2 := of_decide_eq_true h2
        refine ⟨?_, trivial⟩
        rw [if_pos (.inr h2)]; rfl
      · have h1 := of_decide_eq_false h1
        have h2 := of_decide_eq_false h2
        refine ⟨?_, trivial⟩
        rw [if_neg (by omega)]; rfl
      · have h1 := of_decide_eq_true h1
        refine ⟨?_, trivial⟩
        rw [if_pos (.inl h1)]; rfl
    · rw [toIntR, if_neg hz] at ht
      refine .inl ⟨_, ht, nofun, fun _ => ⟨nofun, fun _ => ⟨fun _ => ⟨?_, trivial⟩, nofun⟩⟩⟩
      rw [if_pos (show (x, e).1 < -1000000000000000 ∨ (x, e).1 > 1000000000000000 by show x < _ ∨ x > _; omega)]; rfl
end Go.Proofs.YtnfmpddhcjkjbaaGreatDoor
