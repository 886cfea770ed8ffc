/- walks: rounding. walks: the text of a whole number; no condition. -/
import Derived.Test.YtjkgmglmgndaoaaGreatDoorP18
import Derived.Test.YtjkgmglmgndaoaaGreatDoorP2
namespace Go.Proofs.YtjkgmglmgndaoaaGreatDoor
open Go Go.RowKit Go.SX
/-- powers of ten -/
def tp (n : Nat) : Nat := 10 ^ n
theorem tp_le {n k : Nat} (h : n ≤ k) : tp n ≤ tp k := Nat.pow_le_pow_right (by omega) h
theorem tp_pos (n : Nat) : 0 < tp n := Nat.pow_pos (by omega)
theorem tp_succ (n : Nat) : tp (n + 1) = tp n * 10 := Nat.pow_succ ..
theorem tp18 : tp 18 = 1000000000000000000 := rfl
theorem tp9 : tp 9 = 1000000000 := rfl
set_option smartUnfolding false in
set_option maxRecDepth 100000 in
theorem power_z {n : Nat} (h : n ≤ 18) : Pure Tryz.prog 181 [SV.c (.int .i64 n)] (.int .i64 ((tp n : Nat) : Int)) := by
  refine sx_pure tt_ok mixed at181 _ _ rfl rfl fun w => ?_
  refine ⟨fun q f m => ∃ i : Nat, q = n - i ∧ i ≤ n ∧ f = [(3, SV.c (.int .i64 ((tp i : Nat) : Int))), (4, SV.c (.int .i64 n)), (5, SV.c (.int .i64 i))] ∧ m = [], n, ⟨_, _, ⟨0, rfl, Nat.zero_le _, rfl, rfl⟩, ⟨rfl, rfl, rfl, trivial⟩, trivial, rfl⟩, ?_⟩
  rintro q f m ⟨i, rfl, hi, rfl, rfl⟩
  refine ⟨fun h1 => ?_, fun h1 => ?_⟩
  · have h1 : (i : Int) < n := of_decide_eq_true h1
    have hp : tp (i + 1) ≤ tp 18 := tp_le (by omega)
    refine ⟨n - (i + 1), _, _, by omega, ⟨i + 1, rfl, by omega, rfl, rfl⟩, ⟨c_int ?_, rfl, c_int (by rw [i64_in (by omega)]; rfl), trivial⟩, trivial, rfl⟩
    rw [tp_succ, tp18] at hp
    rw [tp_succ]
    rw [i64_in (by omega)]
    omega
  · have h1 : ¬ ((i : Int) < n) := of_decide_eq_false h1
    obtain rfl : i = n := by omega
    exact ⟨rfl, trivial⟩
set_option smartUnfolding false in
set_option maxRecDepth 100000 in
theorem check_z {r : RQ} (hr : r.In) (n : Int) : Pure Tryz.prog 136 [SV.c (.agg r.A), SV.c (.int .i64 n)] (.int .i64 (if !r.ok then 20 else if n < 0 ∨ n > 9 then 30 else 0)) := by
  refine sx_pure tt_ok mixed at136 _ _ rfl rfl fun w => ?_
  refine ⟨r.A_size, .inl ⟨_, valid_raw hr, fun h1 => ?_, fun h1 => ⟨fun h2 => ?_, fun h2 => ?_⟩⟩⟩
  · have h1 := bnt h1
    refine ⟨iv ?_, trivial⟩
    rw [h1]; rfl
  · have h1 := bnf h1
    have h2 := of_decide_eq_false h2
    refine ⟨fun h3 => ⟨iv ?_, trivial⟩, fun h3 => ⟨iv ?_, trivial⟩⟩
    · have h3 := of_decide_eq_true h3
      rw [h1, if_neg (by decide), if_pos (.inr h3)]
    · have h3 := of_decide_eq_false h3
      rw [h1, if_neg (by decide), if_neg (by omega)]
  · have h1 := bnf h1
    have h2 := of_decide_eq_true h2
    refine ⟨fun _ => ⟨iv ?_, trivial⟩, nofun⟩
    rw [h1, if_neg (by decide), if_pos (.inl h2)]
set_option exponentiation.threshold 2000 in
theorem scale_lt {x : Int} {n : Nat} (hx : bl x.natAbs ≤ 480) (hn : n ≤ 9) : (x * ((tp n : Nat) : Int)).natAbs < BB ^ 32 := by
  have h2 : bl (((tp n : Nat) : Int)).natAbs ≤ 480 := by
    rw [Int.natAbs_natCast]
    have := tp_le hn
    rw [tp9] at this
    refine Nat.le_trans (bl_le (k := 30) ?_) (by omega)
    omega
  exact mul_lt' hx h2
set_option smartUnfolding false in
set_option maxRecDepth 100000 in
theorem scaled_z {r : RQ} (hr : r.In) (hk : r.ok = true) {n : Nat} (hn : n ≤ 9) : Pure Tryz.prog 137 [SV.c (.agg r.A), SV.c (.int .i64 n)] (.tuple #[.agg (eA (r.p * ((tp n : Nat) : Int) / r.q)), .agg (eA (r.p * ((tp n : Nat) : Int) % r.q))]) := by
  refine sx_pure tt_ok mixed at137 _ _ rfl rfl fun w => ?_
  obtain ⟨k1, k2, k3, k4, k5⟩ := RQ.ok_bits hk
  have hp := tp_le hn
  rw [tp9] at hp
  have hl := scale_lt k1 hn
  have hm := mul_z hr.num (isI_e (z := ((tp n : Nat) : Int)) (i64_lt (by omega) (by omega)))
  rw [fitR, if_pos hl] at hm
  refine ⟨r.A_size, by decide, _, r.cat_l, .inl ⟨_, power_z (by omega), .inl ⟨_, fromInt_z _ (by omega) (by omega), .inl ⟨_, hm, eA_fits _, by kernel_rfl, by decide, _, r.cat_r, .inl ⟨_, divmod_z (isI_e hl) hr.den (by omega), eA_fits _, eA_fits _, eA_fits _, eA_fits _, by kernel_rfl, rfl, trivial⟩⟩⟩⟩⟩

theorem runs_fnil {E : Env} {t : TypeId} {x y : Operand} {a : Array TypeId} {b : Array TypeId} {c : Bool} (hu : E.P.underlying t = some (.func a b c)) {f : Fn} {p q : Array Value} : Runs E (do eqGuard .eql t x y (.func f p q) .nilFunc; binOp .eql t (.func f p q) .nilFunc) (.bool false) := fun w _ => by
  have h1 : (eqGuard .eql t x y (.func f p q) .nilFunc).run E.P w = .ok () w := by simp [eqGuard]
  have h2 : (Op.equal t (.func f p q) .nilFunc).run E.P w = .ok false w := by
    show (Op.equalIn (9999 + 1) t _ _).run E.P w = _
    rw [Op.equalIn]
    simp only [Sem.run_bind, run_underlying hu, Result.andThen_ok, Sem.run_pure]
  have h3 : binOp .eql t (.func f p q) .nilFunc = (do pure (.bool (← Op.equal t (.func f p q) .nilFunc))) := rfl
  rw [Sem.run_bind, h1, h3]
  simp [h2]
theorem runs_nilnil {E : Env} {t : TypeId} {x y : Operand} {a : Array TypeId} {b : Array TypeId} {c : Bool} (hu : E.P.underlying t = some (.func a b c)) : Runs E (do eqGuard .eql t x y .nilFunc .nilFunc; binOp .eql t .nilFunc .nilFunc) (.bool true) := fun w _ => by
  have h1 : (eqGuard .eql t x y .nilFunc .nilFunc).run E.P w = .ok () w := by simp [eqGuard]
  have h2 : (Op.equal t .nilFunc .nilFunc).run E.P w = .ok true w := by
    show (Op.equalIn (9999 + 1) t _ _).run E.P w = _
    rw [Op.equalIn]
    simp only [Sem.run_bind, run_underlying hu, Result.andThen_ok, Sem.run_pure]
  have h3 : binOp .eql t .nilFunc .nilFunc = (do pure (.bool (← Op.equal t .nilFunc .nilFunc))) := rfl
  rw [Sem.run_bind, h1, h3]
  simp [h2]
/-- a number between two whole ones, in memory -/
def btA (low half : Int) (neg : Bool) : Array Value := eA low ++ #[.int .i64 half, .bool neg]
theorem btA_fits (low half : Int) (neg : Bool) : Fits (btA low half neg) 35 := ⟨by simp [btA, eA_size], by rw [btA, Array.all_append, (eA_fits low).one]; simp [Value.oneCell']⟩
theorem btA_half {low half : Int} {neg : Bool} : (btA low half neg)[33]? = some (.int .i64 half) := by
  rw [btA, Array.getElem?_append_right (by rw [eA_size]; omega), eA_size]; rfl
theorem btA_neg {low half : Int} {neg : Bool} : (btA low half neg)[34]? = some (.bool neg) := by
  rw [btA, Array.getElem?_append_right (by rw [eA_size]; omega), eA_size]; rfl
theorem btA_low {low half : Int} {neg : Bool} : (btA low half neg)[1]? = some (.int .u32 (dg low.natAbs 0 : Nat)) := by
  rw [btA, Array.getElem?_append_left (by rw [eA_size]; omega), eA, iA, Array.getElem?_append_right (by simp)]
  exact mA_get (by omega)
theorem fill_bt {low half : Int} {neg : Bool} {Z : Array Value} (hZ : Z.size = 35) {pl : List (Nat × Nat)} (hpl : pl = [(0, 33), (33, 1), (34, 1)]) : Instr.fill (fun k => pl[k]?) Z [(0, .agg (eA low)), (1, .int .i64 half), (2, .bool neg)] = some (btA low half neg) := by
  subst hpl
  have := fill_all (pl := fun k => [(0, 33), (33, 1), (34, 1)][k]?) (vs := [.agg (eA low), .int .i64 half, .bool neg]) (Z := Z) ⟨by simp [Value.cells, eA_size], by simp [Value.cells, eA_size], by simp [Value.cells, eA_size], trivial⟩ (by simp [catV, Value.cells, eA_size, hZ])
  rw [show catV [.agg (eA low), .int .i64 half, .bool neg] = btA low half neg by simp [catV, Value.cells, btA]] at this
  exact this
/-- is it rounded up -/
def upM (mode : Int) (neg : Bool) (half : Int) (odd : Bool) : Bool :=
  if mode = 1 then neg else if mode = 2 then !neg else if mode = 3 then false else if mode = 4 then true else if mode = 5 then (if half = 0 then !neg else decide (half > 0)) else (if half = 0 then odd else decide (half > 0))
set_option smartUnfolding false in
set_option maxRecDepth 100000 in
theorem down_z (low half : Int) (neg : Bool) : Pure Tryz.prog 185 [SV.c (.agg (btA low half neg))] (.bool neg) := by
  refine sx_pure tt_ok mixed at185 _ _ rfl rfl fun w => ?_
  exact ⟨(btA_fits low half neg).size, _, btA_neg, rfl, trivial⟩
set_option smartUnfolding false in
set_option maxRecDepth 100000 in
theorem up_z (low half : Int) (neg : Bool) : Pure Tryz.prog 186 [SV.c (.agg (btA low half neg))] (.bool !neg) := by
  refine sx_pure tt_ok mixed at186 _ _ rfl rfl fun w => ?_
  exact ⟨(btA_fits low half neg).size, _, btA_neg, rfl, trivial⟩
set_option smartUnfolding false in
set_option maxRecDepth 100000 in
theorem floor_z (low half : Int) (neg : Bool) : Pure Tryz.prog 187 [SV.c (.agg (btA low half neg))] (.bool false) := by
  refine sx_pure tt_ok mixed at187 _ _ rfl rfl fun w => ?_
  exact ⟨(btA_fits low half neg).size, rfl, trivial⟩
set_option smartUnfolding false in
set_option maxRecDepth 100000 in
theorem ceil_z (low half : Int) (neg : Bool) : Pure Tryz.prog 188 [SV.c (.agg (btA low half neg))] (.bool true) := by
  refine sx_pure tt_ok mixed at188 _ _ rfl rfl fun w => ?_
  exact ⟨(btA_fits low half neg).size, rfl, trivial⟩
set_option smartUnfolding false in
set_option maxRecDepth 100000 in
theorem halfUp_z (low half : Int) (neg : Bool) : Pure Tryz.prog 189 [SV.c (.agg (btA low half neg))] (.bool (if half = 0 then !neg else decide (half > 0))) := by
  refine sx_pure tt_ok mixed at189 _ _ rfl rfl fun w => ?_
  refine ⟨(btA_fits low half neg).size, _, btA_half, fun h => .inl ⟨_, up_z low half neg, bv ?_, trivial⟩, fun h => ⟨_, btA_half, bv ?_, trivial⟩⟩
  · rw [if_pos (by simpa using h)]
  · rw [if_neg (by simpa using h)]
theorem dg0 (N : Nat) : dg N 0 = N % 4294967296 := by simp [dg, BB_eq]
set_option smartUnfolding false in
set_option maxRecDepth 100000 in
theorem halfEven_z (low half : Int) (neg : Bool) : Pure Tryz.prog 190 [SV.c (.agg (btA low half neg))] (.bool (if half = 0 then decide (low % 2 = 1) else decide (half > 0))) := by
  refine sx_pure tt_ok mixed at190 _ _ rfl rfl fun w => ?_
  refine ⟨(btA_fits low half neg).size, _, btA_half, fun h => ⟨by decide, by decide, _, btA_low, by decide, bv ?_, trivial⟩, fun h => ⟨_, btA_half, bv ?_, trivial⟩⟩
  · rw [if_pos (by simpa using h), dg0, Bool.eq_iff_iff]
    simp only [beq_iff_eq, decide_eq_true_eq]
    rw [Int.tmod_eq_emod_of_nonneg (by omega)]
    omega
  · rw [if_neg (by simpa using h)]
/-- the function that a mode is -/
def modeF (mode : Int) (v : Value) : Value :=
  if mode = 1 then .func (.func 185) #[v] #[] else if mode = 2 then .func (.func 186) #[v] #[] else if mode = 3 then .func (.func 187) #[v] #[] else if mode = 4 then .func (.func 188) #[v] #[] else if mode = 5 then .func (.func 189) #[v] #[] else if mode = 6 then .func (.func 190) #[v] #[] else .nilFunc
set_option smartUnfolding false in
set_option maxRecDepth 100000 in
theorem mode_z (low half : Int) (neg : Bool) (mode : Int) : Pure Tryz.prog 139 [SV.c (.agg (btA low half neg)), SV.c (.int .i64 mode)] (modeF mode (.agg (btA low half neg))) := by
  refine sx_pure tt_ok mixed at139 _ _ rfl rfl fun w => ?_
  unfold modeF
  refine ⟨(btA_fits low half neg).size, fun h => ⟨?_, trivial⟩, fun h => ⟨fun h2 => ⟨?_, trivial⟩, fun h2 => ⟨fun h3 => ⟨?_, trivial⟩, fun h3 => ⟨fun h4 => ⟨?_, trivial⟩, fun h4 => ⟨fun h5 => ⟨?_, trivial⟩, fun h5 => ⟨fun h6 => ⟨?_, trivial⟩, fun h6 => ⟨?_, trivial⟩⟩⟩⟩⟩⟩⟩
  all_goals simp only [beq_iff_eq, beq_eq_false_iff_ne, ne_eq] at *
  · rw [if_pos h]; rfl
  · rw [if_neg h, if_pos h2]; rfl
  · rw [if_neg h, if_neg h2, if_pos h3]; rfl
  · rw [if_neg h, if_neg h2, if_neg h3, if_pos h4]; rfl
  · rw [if_neg h, if_neg h2, if_neg h3, if_neg h4, if_pos h5]; rfl
  · rw [if_neg h, if_neg h2, if_neg h3, if_neg h4, if_neg h5, if_pos h6]; rfl
  · rw [if_neg h, if_neg h2, if_neg h3, if_neg h4, if_neg h5, if_neg h6]; rfl
theorem mode_bad (low half : Int) (neg : Bool) {mode : Int} (h : mode < 1 ∨ mode > 6) : Pure Tryz.prog 139 [SV.c (.agg (btA low half neg)), SV.c (.int .i64 mode)] .nilFunc := by
  have := mode_z low half neg mode
  unfold modeF at this
  rwa [if_neg (by omega), if_neg (by omega), if_neg (by omega), if_neg (by omega), if_neg (by omega), if_neg (by omega)] at this
theorem mode_good (low half : Int) (neg : Bool) {mode : Int} (h : ¬ (mode < 1 ∨ mode > 6)) : ∃ g, Pure Tryz.prog 139 [SV.c (.agg (btA low half neg)), SV.c (.int .i64 mode)] (.func (.func g) #[.agg (btA low half neg)] #[]) ∧ Pure Tryz.prog g [SV.c (.agg (btA low half neg))] (.bool (upM mode neg half (decide (low % 2 = 1)))) := by
  have := mode_z low half neg mode
  unfold modeF at this
  unfold upM
  by_cases h1 : mode = 1
  · rw [if_pos h1] at this ⊢; exact ⟨_, this, down_z _ _ _⟩
  rw [if_neg h1] at this ⊢
  by_cases h2 : mode = 2
  · rw [if_pos h2] at this ⊢; exact ⟨_, this, up_z _ _ _⟩
  rw [if_neg h2] at this ⊢
  by_cases h3 : mode = 3
  · rw [if_pos h3] at this ⊢; exact ⟨_, this, floor_z _ _ _⟩
  rw [if_neg h3] at this ⊢
  by_cases h4 : mode = 4
  · rw [if_pos h4] at this ⊢; exact ⟨_, this, ceil_z _ _ _⟩
  rw [if_neg h4] at this ⊢
  by_cases h5 : mode = 5
  · rw [if_pos h5] at this ⊢; exact ⟨_, this, halfUp_z _ _ _⟩
  rw [if_neg h5] at this ⊢
  rw [if_pos (show mode = 6 by omega)] at this
  exact ⟨_, this, halfEven_z _ _ _⟩
/-- a quotient, rounded to a whole number -/
def rndZ (mode x y : Int) : Int := if x % y = 0 then x / y else if upM mode (decide (x < 0)) (cmpI (x % y + x % y) y) (decide (x / y % 2 = 1)) then x / y + 1 else x / y
def rndQ (r : RQ) (n mode : Int) : Int × Int := if !r.ok then (0, 20) else if n < 0 ∨ n > 9 then (0, 30) else if mode < 1 ∨ mode > 6 then (0, 31) else (rndZ mode (r.p * (tp n.toNat : Nat)) r.q, 0)
def resZ (x : Int × Int) : Value := .tuple #[.agg (eA x.1), .int .i64 x.2]
set_option exponentiation.threshold 2000 in
theorem scale_lt2 {x : Int} {n : Nat} (hx : bl x.natAbs ≤ 480) (hn : n ≤ 9) : (x * ((tp n : Nat) : Int)).natAbs < 2 ^ 960 := by
  have h2 : bl (((tp n : Nat) : Int)).natAbs ≤ 480 := by
    rw [Int.natAbs_natCast]
    have := tp_le hn
    rw [tp9] at this
    refine Nat.le_trans (bl_le (k := 30) ?_) (by omega)
    omega
  exact bits_mul hx h2
theorem sign_scaled {x : Int} {n : Nat} : decide (x * ((tp n : Nat) : Int) < 0) = decide (x < 0) := by
  have := tp_pos n
  rw [Bool.eq_iff_iff]
  simp only [decide_eq_true_eq]
  constructor
  · intro h
    rcases Int.lt_or_le x 0 with h1 | h1
    · exact h1
    · have := Int.mul_nonneg h1 (show (0 : Int) ≤ (tp n : Nat) by omega); omega
  · intro h
    exact Int.mul_neg_of_neg_of_pos h (by omega)
set_option exponentiation.threshold 2000 in
set_option smartUnfolding false in
set_option maxRecDepth 100000 in
set_option maxHeartbeats 2000000 in
theorem round_z {r : RQ} (hr : r.In) (n mode : Int) : Pure Tryz.prog 100 [SV.c (.agg r.A), SV.c (.int .i64 n), SV.c (.int .i64 mode)] (resZ (rndQ r n mode)) := by
  refine sx_pure tt_ok mixed at100 _ _ rfl rfl fun w => ?_
  have hc := check_z hr n
  rcases Decidable.em (r.ok = true) with hk | hk
  case inr =>
    have hk : r.ok = false := by simpa using hk
    rw [hk, Bool.not_false, if_pos rfl] at hc
    refine ⟨r.A_size, .inl ⟨_, hc, fun _ => ?_, nofun⟩⟩
    refine ⟨ti27.zero, rfl, eA_fits 0, ?_, trivial⟩
    rw [rndQ, hk, Bool.not_false, if_pos rfl]; rfl
  rw [hk] at hc
  rcases Decidable.em (n < 0 ∨ n > 9) with hn | hn
  · rw [Bool.not_true, if_neg Bool.false_ne_true, if_pos hn] at hc
    refine ⟨r.A_size, .inl ⟨_, hc, fun _ => ?_, nofun⟩⟩
    refine ⟨ti27.zero, rfl, eA_fits 0, ?_, trivial⟩
    rw [rndQ, hk, Bool.not_true, if_neg Bool.false_ne_true, if_pos hn]; rfl
  rw [Bool.not_true, if_neg Bool.false_ne_true, if_neg hn] at hc
  obtain ⟨k, rfl⟩ : ∃ k : Nat, n = k := ⟨n.toNat, by omega⟩
  have hk9 : k ≤ 9 := by omega
  obtain ⟨k1, k2, k3, k4, k5⟩ := RQ.ok_bits hk
  have hs := scaled_z hr hk hk9
  have hl := scale_lt2 k1 hk9
  have hrl : (r.p * ((tp k : Nat) : Int) % r.q).natAbs < 2 ^ 480 := by
    have h1 := Int.emod_lt_of_pos (r.p * ((tp k : Nat) : Int)) k3
    have h2 := Int.emod_nonneg (r.p * ((tp k : Nat) : Int)) (show r.q ≠ 0 by omega)
    have h3 : r.q.natAbs < 2 ^ 480 := Nat.lt_of_lt_of_le (bl_bits _).1 (Nat.pow_le_pow_right (by omega) k2)
    omega
  have hlow : (r.p * ((tp k : Nat) : Int) / r.q).natAbs < 2 ^ 960 := Nat.lt_of_le_of_lt (Int.natAbs_ediv_le_natAbs _ _) hl
  have p1 := hp480
  have p2 := hp960
  have p3 := hp961
  have pp : 2 ^ 480 + 2 ^ 480 ≤ 2 ^ 960 := by decide
  have p4 : 1 ≤ 2 ^ 960 := Nat.pow_pos (by omega)
  rw [rndQ, hk, Bool.not_true, if_neg Bool.false_ne_true, if_neg hn, Int.toNat_natCast]
  unfold rndZ
  have eneg := sign_scaled (x := r.p) (n := k)
  generalize hlowE : r.p * ((tp k : Nat) : Int) / r.q = low at *
  generalize hrestE : r.p * ((tp k : Nat) : Int) % r.q = rest at *
  have ht := add_z (isI_e (z := rest) (by omega)) (isI_e (z := rest) (by omega))
  rw [fitR, if_pos (by omega)] at ht
  have hcm := cmp_z (isI_e (z := rest + rest) (by omega)) hr.den
  have hsn := sign_z hr.num
  rcases Decidable.em (mode < 1 ∨ mode > 6) with hm | hm
  · have hmode := mode_bad low (cmpI (rest + rest) r.q) (decide (sgn r.p < 0)) hm
    refine ⟨r.A_size, .inl ⟨_, hc, nofun, fun _ => .inl ⟨_, hs, eA_fits _, eA_fits _, .inl ⟨_, ht, eA_fits _, by decide, _, r.cat_r, .inl ⟨_, hcm, by decide, _, r.cat_l, .inl ⟨_, hsn, _, fill_bt rfl rfl, .inl ⟨_, hmode, by kernel_rfl, _, runs_nilnil Tryz.underlying37, fun _ => ?_, nofun⟩⟩⟩⟩⟩⟩⟩
    refine ⟨ti27.zero, rfl, eA_fits 0, ?_, trivial⟩
    rw [if_pos hm]; rfl
  · obtain ⟨g, hmode, hup⟩ := mode_good low (cmpI (rest + rest) r.q) (decide (sgn r.p < 0)) hm
    rw [if_neg hm]
    refine ⟨r.A_size, .inl ⟨_, hc, nofun, fun _ => .inl ⟨_, hs, eA_fits _, eA_fits _, .inl ⟨_, ht, eA_fits _, by decide, _, r.cat_r, .inl ⟨_, hcm, by decide, _, r.cat_l, .inl ⟨_, hsn, _, fill_bt rfl rfl, .inl ⟨_, hmode, by kernel_rfl, _, runs_fnil Tryz.underlying37, nofun, fun _ => .inl ⟨_, sign_z (isI_e (z := rest) (by omega)), fun h1 => ?_, fun h1 => ?_⟩⟩⟩⟩⟩⟩⟩⟩
    · rw [sgn_zero] at h1
      have h1 := of_decide_eq_false h1
      rw [if_neg h1]
      refine .inl ⟨_, hup, fun h2 => ?_, fun h2 => ?_⟩
      · have h2 := bnt h2
        refine ⟨eA_fits _, ?_, trivial⟩
        rw [sgn_neg, ← eneg] at h2
        rw [h2, if_neg Bool.false_ne_true]; rfl
      · have h2 := bnf h2
        have ha := add_z (isI_e (z := low) (by omega)) (isI_e (z := 1) (by omega))
        rw [fitR, if_pos (by omega)] at ha
        refine .inl ⟨_, fromInt_z 1 (by omega) (by omega), .inl ⟨_, ha, eA_fits _, by kernel_rfl, eA_fits _, ?_, trivial⟩⟩
        rw [sgn_neg, ← eneg] at h2
        rw [h2, if_pos rfl]; rfl
    · rw [sgn_zero] at h1
      have h1 : rest = 0 := of_decide_eq_true h1
      refine ⟨fun _ => ⟨eA_fits _, ?_, trivial⟩, nofun⟩
      rw [if_pos h1]; rfl
/-- the number of cents and so on, if it is not too large -/
def rndI (x : Int × Int) : Int × Int := if x.2 ≠ 0 then (0, x.2) else if x.1 < -1000000000000000 ∨ x.1 > 1000000000000000 then (0, 33) else (x.1, 0)
def resI (x : Int × Int) : Value := .tuple #[.int .i64 x.1, .int .i64 x.2]
set_option exponentiation.threshold 2000 in
theorem rndZ_lt {r : RQ} (hk : r.ok = true) {n : Nat} (hn : n ≤ 9) (mode : Int) : (rndZ mode (r.p * (tp n : Nat)) r.q).natAbs < BB ^ 32 := by
  obtain ⟨k1, k2, k3, k4, k5⟩ := RQ.ok_bits hk
  have hl := scale_lt2 k1 hn
  have hlow : (r.p * ((tp n : Nat) : Int) / r.q).natAbs < 2 ^ 960 := Nat.lt_of_le_of_lt (Int.natAbs_ediv_le_natAbs _ _) hl
  have p3 := hp961
  have p4 : 1 ≤ 2 ^ 960 := Nat.pow_pos (by omega)
  unfold rndZ
  split
  · omega
  · split <;> omega
theorem rndQ_lt (r : RQ) (n mode : Int) : (rndQ r n mode).1.natAbs < BB ^ 32 := by
  unfold rndQ
  split
  · exact zero_lt
  · split
    · exact zero_lt
    · split
      · exact zero_lt
      · rename_i h1 h2 h3
        exact rndZ_lt (by simpa using h1) (by omega) mode
set_option smartUnfolding false in
set_option maxRecDepth 100000 in
set_option maxHeartbeats 2000000 in
theorem roundInt_z {r : RQ} (hr : r.In) (n mode : Int) : Pure Tryz.prog 62 [SV.c (.agg r.A), SV.c (.int .i64 n), SV.c (.int .i64 mode)] (resI (rndI (rndQ r n mode))) := by
  refine sx_pure tt_ok mixed at62 _ _ rfl rfl fun w => ?_
  have hx := round_z hr n mode
  have hlt := rndQ_lt r n mode
  generalize rndQ r n mode = x at *
  obtain ⟨x, e⟩ := x
  have ht := toInt_z (isI_e hlt)
  have hx : Pure Tryz.prog 100 [SV.c (.agg r.A), SV.c (.int .i64 n), SV.c (.int .i64 mode)] (.tuple #[.agg (eA x), .int .i64 e]) := hx
  have ht : Pure Tryz.prog 101 [SV.c (.agg (eA x))] (toIntR x) := ht
  refine ⟨r.A_size, .inl ⟨_, hx, eA_fits _, fun h => ?_, fun h => ?_⟩⟩
  · have h : e ≠ 0 := by simpa using h
    refine ⟨?_, trivial⟩
    rw [rndI, if_pos h]; rfl
  · have h : ¬ (e ≠ 0) := by simpa using h
    rw [rndI, if_neg h]
    by_cases hz : -9223372036854775808 ≤ x ∧ x ≤ 9223372036854775807
    · rw [toIntR, if_pos hz] at ht
      refine .inl ⟨_, ht, fun _ => ⟨fun h1 => ⟨fun h2 => ?_, fun h2 => ?_⟩, fun h1 => ⟨fun _ => ?_, nofun⟩⟩, nofun⟩
      · have h1 := of_decide_eq_false h1
        have h2 := of_decide_eq_true h2
        refine ⟨?_, trivial⟩
        rw [if_pos (.inr h2)]; rfl
      · have h1 := of_decide_eq_false h1
        have h2 := of_decide_eq_false h2
        refine ⟨?_, trivial⟩
        rw [if_neg (by omega)]; rfl
      · have h1 := of_decide_eq_true h1
        refine ⟨?_, trivial⟩
        rw [if_pos (.inl h1)]; rfl
    · rw [toIntR, if_neg hz] at ht
      refine .inl ⟨_, ht, nofun, fun _ => ⟨nofun, fun _ => ⟨fun _ => ⟨?_, trivial⟩, nofun⟩⟩⟩
      rw [if_pos (show (x, e).1 < -1000000000000000 ∨ (x, e).1 > 1000000000000000 by show x < _ ∨ x > _; omega)]; rfl
end Go.Proofs.YtjkgmglmgndaoaaGreatDoor
namespace Go.Proofs.YtjkgmglmgndaoaaGreatDoor
open Go Go.RowKit Go.SX
/-- n bytes -/
def bA (f : Nat → Nat) (n : Nat) : Array Value := ((List.range n).map fun i => Value.int .u8 ((f i : Nat) : Int)).toArray
theorem bA_size (f : Nat → Nat) (n : Nat) : (bA f n).size = n := by simp [bA]
theorem bA_get (f : Nat → Nat) {n i : Nat} (h : i < n) : (bA f n)[i]? = some (.int .u8 ((f i : Nat) : Int)) := by simp [bA, h]
theorem bA_set (f : Nat → Nat) (n k v : Nat) : (bA f n).setIfInBounds k (.int .u8 ((v : Nat) : Int)) = bA (fun x => if x = k then v else f x) n := by
  apply Array.ext_getElem?
  intro i
  by_cases hi : i < n
  · rw [bA_get _ hi]
    by_cases e : i = k
    · subst e; rw [Array.getElem?_setIfInBounds_self_of_lt (by rw [bA_size]; exact hi)]; simp
    · rw [Array.getElem?_setIfInBounds_ne (fun h => e h.symm), bA_get _ hi, if_neg e]
  · rw [Array.getElem?_eq_none (by simp [bA_size]; omega), Array.getElem?_eq_none (by simp [bA_size]; omega)]
/-- the cells begin with these bytes -/
def Has (l : List UInt8) (f : Nat → Nat) : Prop := ∀ i, i < l.length → f i = (l.getD i 0).toNat
theorem Has.push {l : List UInt8} {f : Nat → Nat} (h : Has l f) (b : UInt8) : Has (l ++ [b]) (fun x => if x = l.length then b.toNat else f x) := fun i hi => by
  rw [List.length_append, List.length_singleton] at hi
  by_cases e : i = l.length
  · subst e; simp
  · simp only [if_neg e]
    rw [h i (by omega), List.getD_eq_getElem?_getD, List.getD_eq_getElem?_getD, List.getElem?_append_left (by omega)]
theorem bA_put {G : Nat → Nat} {n i v : Nat} {x y : Int} (hx : x = (i : Nat)) (hy : y = (v : Nat)) : (bA G n).setIfInBounds x.toNat (.int .u8 y) = bA (fun k => if k = i then v else G k) n := by
  subst hx; subst hy; exact bA_set G n i v
theorem bA_push {f : Nat → Nat} {n k v : Nat} {x : Int} (hx : x = (v : Nat)) : splice (bA f n) (0 + k * 1) ((#[Value.int .u8 x] : Array Value).extract 0 (0 + 1 * 1)).toList = bA (fun x => if x = k then v else f x) n := by
  subst hx
  have e : ((#[Value.int .u8 ((v : Nat) : Int)] : Array Value).extract 0 (0 + 1 * 1)).toList = [.int .u8 ((v : Nat) : Int)] := rfl
  rw [e, splice, splice, Nat.zero_add, Nat.mul_one, bA_set]
theorem made_bytes (n : Nat) : madeCells ti5.zero n = bA (fun _ => 0) n := by
  apply Array.ext_getElem?
  intro i
  by_cases hi : i < n
  · rw [bA_get _ hi]
    have hz : ti5.zero = #[.int .u8 0] := rfl
    simp [madeCells, hz, hi, Nat.mod_one]
  · rw [Array.getElem?_eq_none (by rw [size_madeCells]; omega), Array.getElem?_eq_none (by rw [bA_size]; omega)]
theorem sl_len {d o a b c : Nat} (h : a = b) : SV.sl d o a c = SV.sl d o b c := by rw [h]
theorem tmod10 (n : Nat) : Int.tmod (n : Int) 10 = ((n % 10 : Nat) : Int) := (Int.ofNat_tmod n 10).symm
theorem tdiv10 (n : Nat) : Int.tdiv (n : Int) 10 = ((n / 10 : Nat) : Int) := (Int.ofNat_tdiv n 10).symm
theorem fill_byte (v : Int) : Instr.fill (fun k => some (k * ti5.size, ti5.size)) (madeCells ti5.zero (1 * ti5.size)) [(0, .int .u8 v)] = some #[.int .u8 v] := by
  rw [made_bytes]; rfl
set_option exponentiation.threshold 2000 in
theorem big309 : BB ^ 32 ≤ 10 ^ 309 := by decide
set_option smartUnfolding false in
set_option maxRecDepth 100000 in
set_option maxHeartbeats 2000000 in
theorem format_z {A : Array Value} {z : Int} (h : IsI A z) : Pure Tryz.prog 197 [SV.c (.agg A)] (.string (fmtS z)) := by
  refine sx_pureC [14] tt_ok mixed at197 _ _ rfl rfl fun w => ?_
  have hl309 : (rdig z.natAbs).length ≤ 309 := rdig_len 309 _ (Nat.lt_of_lt_of_le h.lt big309)
  refine ⟨h.size, .inl ⟨_, split_z h, mA_fits _, by decide, by decide, by decide, ⟨_, rfl, by show ((1 : Nat) : Int) * 310 ≤ 281474976710656; decide⟩, _, made_bytes _, ?_⟩⟩
  refine ⟨fun q f m => ∃ (M : Nat) (l : List UInt8) (g : Nat → Nat), q = M ∧ M < BB ^ 32 ∧ l ++ rdig M = rdig z.natAbs ∧ Has l g ∧ f = [(3, SV.c (.bool (decide (z < 0)))), (4, SV.ptr 4 0), (5, SV.sl 15 0 l.length 310)] ∧ m = [(4, Blk.row 131 32 (mA M)), (15, Blk.row 5 310 (bA g 310))], z.natAbs, ⟨_, _, ⟨z.natAbs, [], fun _ => 0, rfl, h.lt, by simp, fun i hi => absurd hi (by simp), rfl, rfl⟩, ⟨rfl, rfl, rfl, trivial⟩, ⟨rfl, rfl, trivial⟩, rfl⟩, ?_⟩
  rintro M f m ⟨_, l, g, rfl, hM, hd, hg, rfl, rfl⟩
  refine ⟨mA 0, some_eq mA_zero, _, neq_mag rfl hM zero_lt, fun h1 => ?_, fun h1 => ?_⟩
  · have h1 : M ≠ 0 := by simpa using h1
    have hq : M / 1000000000 < BB ^ 32 := Nat.lt_of_le_of_lt (Nat.div_le_self _ _) hM
    refine .inr ⟨_, _, _, short_own (x := 1000000000) hM (by decide) (by decide) _ rfl 4, ⟨rfl, trivial⟩, rfl, ?_⟩
    refine ⟨fun q f m => ∃ (i R0 : Nat) (l : List UInt8) (g : Nat → Nat), q = 9 - i ∧ i ≤ 9 ∧ R0 < 10 ^ (9 - i) ∧ l ++ rdig (R0 + M / 1000000000 * 10 ^ (9 - i)) = rdig z.natAbs ∧ Has l g ∧ f = [(3, SV.c (.bool (decide (z < 0)))), (4, SV.ptr 4 0), (5, SV.sl 15 0 l.length 310), (6, SV.c (.int .u32 R0)), (7, SV.c (.int .i64 i))] ∧ m = [(4, Blk.row 131 32 (mA (M / 1000000000))), (15, Blk.row 5 310 (bA g 310))], 9, ⟨_, _, ⟨0, M % 1000000000, l, g, rfl, by omega, by show M % 1000000000 < 1000000000; omega, by rw [← hd]; congr 2; show M % 1000000000 + M / 1000000000 * 1000000000 = M; omega, hg, rfl, rfl⟩, ⟨rfl, rfl, rfl, rfl, rfl, trivial⟩, ⟨rfl, rfl, trivial⟩, rfl⟩, ?_⟩
    rintro q f m ⟨i, R0, l, g, rfl, hi, hR, hd, hg, rfl, rfl⟩
    have hll : l.length + (rdig (R0 + M / 1000000000 * 10 ^ (9 - i))).length ≤ 309 := by rw [← List.length_append, hd]; exact hl309
    have hpw0 : 0 < 10 ^ (9 - i) := Nat.pow_pos (by omega)
    have hR9 : R0 < 1000000000 := Nat.lt_of_lt_of_le hR (Nat.pow_le_pow_right (show 0 < 10 by omega) (show 9 - i ≤ 9 by omega))
    refine ⟨fun h2 => ?_, fun h2 => ⟨nofun, fun _ => ?_⟩⟩
    · have h2 : i < 9 := by have := of_decide_eq_true h2; omega
      have hpw : 10 ^ (9 - i) = 10 ^ (9 - (i + 1)) * 10 := by rw [← Nat.pow_succ]; congr 1; omega
      have hch : UInt8.ofNat (48 + (R0 + M / 1000000000 * 10 ^ (9 - i)) % 10) :: rdig ((R0 + M / 1000000000 * 10 ^ (9 - i)) / 10) = UInt8.ofNat (48 + R0 % 10) :: rdig (R0 / 10 + M / 1000000000 * 10 ^ (9 - (i + 1))) := by
        rw [hpw, ← Nat.mul_assoc]
        congr 2
        · congr 1; omega
        · omega
      refine ⟨fun h3 => ⟨mA 0, some_eq mA_zero, _, neq_mag rfl hq zero_lt, fun h4 => ?_, fun h4 => ?_⟩, fun h3 => ⟨fun _ => ?_, nofun⟩⟩
      · have h4 : M / 1000000000 ≠ 0 := by simpa using h4
        have hne : R0 + M / 1000000000 * 10 ^ (9 - i) ≠ 0 := by
          have := hpw
          exact fun h0 => h4 (by have := Nat.eq_zero_of_add_eq_zero_left h0; rcases Nat.mul_eq_zero.1 this with e | e <;> omega)
        rw [rdig_pos hne, hch] at hd hll
        rw [List.length_cons] at hll
        have hb : Int.tmod (R0 : Int) 10 = ((R0 % 10 : Nat) : Int) := tmod10 R0
        have hc : IntKind.u8.wrap (IntKind.u32.wrap (48 + Int.tmod (R0 : Int) 10)) = (((UInt8.ofNat (48 + R0 % 10)).toNat : Nat) : Int) := by rw [hb, digit_nat, u32_in (by omega), u8_wrap]; omega
        refine ⟨by decide, by decide, by decide, _, fill_byte _, rfl, by omega, by decide, by decide, by simp [Value.oneCell'], _, bA_push hc, by decide, ?_⟩
        exact ⟨9 - (i + 1), _, _, by omega, ⟨i + 1, R0 / 10, l ++ [UInt8.ofNat (48 + R0 % 10)], _, rfl, by omega, by rw [hpw] at hR; omega, by rw [← hd]; simp, hg.push _, rfl, rfl⟩, ⟨rfl, rfl, sl_len (by simp), c_int (by rw [tdiv10]; exact u32_in (by omega)), c_int (by rw [i64_in (by omega)]; rfl), trivial⟩, ⟨rfl, rfl, trivial⟩, rfl⟩
      · have h3 : R0 = 0 := by have := of_decide_eq_false h3; omega
        have h4 : M / 1000000000 = 0 := by simpa using h4
        have hq0 : R0 + M / 1000000000 * 10 ^ (9 - i) = M / 1000000000 := by
          rw [h3, h4]; simp
        rw [hq0] at hd
        exact ⟨M / 1000000000, _, _, by omega, ⟨_, l, g, rfl, hq, hd, hg, rfl, rfl⟩, ⟨rfl, rfl, rfl, trivial⟩, ⟨rfl, rfl, trivial⟩, rfl⟩
      · have h3 : 0 < R0 := by have := of_decide_eq_true h3; omega
        have hne : R0 + M / 1000000000 * 10 ^ (9 - i) ≠ 0 := by
          have := hpw
          omega
        rw [rdig_pos hne, hch] at hd hll
        rw [List.length_cons] at hll
        have hb : Int.tmod (R0 : Int) 10 = ((R0 % 10 : Nat) : Int) := tmod10 R0
        have hc : IntKind.u8.wrap (IntKind.u32.wrap (48 + Int.tmod (R0 : Int) 10)) = (((UInt8.ofNat (48 + R0 % 10)).toNat : Nat) : Int) := by rw [hb, digit_nat, u32_in (by omega), u8_wrap]; omega
        refine ⟨by decide, by decide, by decide, _, fill_byte _, rfl, by omega, by decide, by decide, by simp [Value.oneCell'], _, bA_push hc, by decide, ?_⟩
        exact ⟨9 - (i + 1), _, _, by omega, ⟨i + 1, R0 / 10, l ++ [UInt8.ofNat (48 + R0 % 10)], _, rfl, by omega, by rw [hpw] at hR; omega, by rw [← hd]; simp, hg.push _, rfl, rfl⟩, ⟨rfl, rfl, sl_len (by simp), c_int (by rw [tdiv10]; exact u32_in (by omega)), c_int (by rw [i64_in (by omega)]; rfl), trivial⟩, ⟨rfl, rfl, trivial⟩, rfl⟩
    · have h2 : i = 9 := by have := of_decide_eq_false h2; omega
      have h3 : R0 = 0 := by rw [h2] at hR; simp at hR; omega
      have hq0 : R0 + M / 1000000000 * 10 ^ (9 - i) = M / 1000000000 := by
        rw [h3, h2]; simp
      rw [hq0] at hd
      exact ⟨M / 1000000000, _, _, by omega, ⟨_, l, g, rfl, hq, hd, hg, rfl, rfl⟩, ⟨rfl, rfl, rfl, trivial⟩, ⟨rfl, rfl, trivial⟩, rfl⟩
  · have h1 : M = 0 := by simpa using h1
    subst h1
    rw [rdig_zero, List.append_nil] at hd
    subst hd
    have hlz : (rdig z.natAbs).length = 0 ↔ z.natAbs = 0 := by
      constructor
      · intro h0
        rcases Nat.eq_zero_or_pos z.natAbs with e | e
        · exact e
        · rw [rdig_pos (by omega)] at h0; simp at h0
      · intro h0; rw [h0, rdig_zero]; rfl
    refine ⟨fun h2 => ?_, fun h2 => ?_⟩
    · have h2 : (rdig z.natAbs).length = 0 := by have : (((rdig z.natAbs).length : Nat) : Int) = 0 := by simpa using h2
                                                 omega
      have hz : z = 0 := by have := hlz.1 h2; omega
      subst hz
      exact ⟨rfl, trivial⟩
    have h2 : (rdig z.natAbs).length ≠ 0 := by
      intro h0
      rw [h0] at h2; simp at h2
    have hz : z.natAbs ≠ 0 := fun h0 => h2 (hlz.2 h0)
    have hN : fmtN z.natAbs = (rdig z.natAbs).reverse := by rw [fmtN, if_neg hz]
    refine ⟨fun f m => ∃ (l : List UInt8) (g : Nat → Nat), l.length ≤ 310 ∧ Has l g ∧ 0 < l.length ∧ l.reverse = fmtZ z ∧ f = [(5, SV.sl 15 0 l.length 310)] ∧ m = [(15, Blk.row 5 310 (bA g 310))], ⟨fun h3 => ?_, fun h3 => ?_⟩, ?_⟩
    · have h3 := of_decide_eq_true h3
      refine ⟨by decide, by decide, _, fill_byte _, rfl, by omega, by decide, by decide, by simp [Value.oneCell'], _, bA_push (v := (45 : UInt8).toNat) rfl, ?_⟩
      exact ⟨_, _, ⟨rdig z.natAbs ++ [45], _, by simp; omega, hg.push _, by simp, by rw [fmtZ, if_pos h3, hN]; simp, rfl, rfl⟩, ⟨sl_len (by simp), trivial⟩, ⟨rfl, trivial⟩, rfl⟩
    · have h3 := of_decide_eq_false h3
      exact ⟨_, _, ⟨rdig z.natAbs, _, by omega, hg, by omega, by rw [fmtZ, if_neg h3, hN], rfl, rfl⟩, ⟨rfl, trivial⟩, ⟨rfl, trivial⟩, rfl⟩
    rintro f m ⟨l, g, hl, hg, h0, hr, rfl, rfl⟩
    have e1 : IntKind.i64.wrap ((l.length : Int) - 1) = ((l.length - 1 : Nat) : Int) := by rw [i64_in (by omega)]; omega
    refine ⟨fun q f m => ∃ (i j : Nat) (g : Nat → Nat), q = l.length - i ∧ i + j = l.length - 1 ∧ (∀ k, k < l.length → g k = if k < i ∨ j < k then (l.getD (l.length - 1 - k) 0).toNat else (l.getD k 0).toNat) ∧ f = [(5, SV.sl 15 0 l.length 310), (8, SV.c (.int .i64 i)), (9, SV.c (.int .i64 j))] ∧ m = [(15, Blk.row 5 310 (bA g 310))], l.length, ⟨_, _, ⟨0, l.length - 1, g, rfl, by omega, fun k hk => by rw [if_neg (by omega)]; exact hg k hk, rfl, rfl⟩, ⟨rfl, rfl, c_int e1, trivial⟩, ⟨rfl, trivial⟩, rfl⟩, ?_⟩
    rintro q f m ⟨i, j, g, rfl, hij, hg, rfl, rfl⟩
    refine ⟨fun h3 => ?_, fun h3 => ?_⟩
    · have h3 : i < j := by have := of_decide_eq_true h3; omega
      have gi := bA_get g (show i < 310 by omega)
      have gj := bA_get g (show j < 310 by omega)
      refine ⟨by omega, by omega, _, gj, by omega, by omega, _, gi, by omega, by omega, by show i < 310; omega, rfl, _, bA_put (i := i) (x := (i : Int)) rfl rfl, by omega, by omega, by show j < 310; omega, rfl, _, bA_put (i := j) (x := (j : Int)) rfl rfl, by kernel_rfl, ?_⟩
      refine ⟨l.length - (i + 1), _, _, by omega, ⟨i + 1, j - 1, _, rfl, by omega, fun k hk => ?_, rfl, rfl⟩, ⟨rfl, c_int (by rw [i64_in (by omega)]; omega), c_int (by rw [i64_in (by omega)]; omega), trivial⟩, ⟨rfl, trivial⟩, rfl⟩
      have hi := hg i (by omega)
      have hj := hg j (by omega)
      rw [if_neg (by omega)] at hi hj
      have hk2 := hg k hk
      by_cases e1 : k = j
      · subst e1
        rw [if_pos rfl, hi, if_pos (by omega), show l.length - 1 - k = i by omega]
      · rw [if_neg e1]
        by_cases e2 : k = i
        · subst e2
          rw [if_pos rfl, hj, if_pos (by omega), show l.length - 1 - k = j by omega]
        · rw [if_neg e2, hk2]
          by_cases e3 : k < i ∨ j < k
          · rw [if_pos e3, if_pos (by omega)]
          · rw [if_neg e3, if_neg (by omega)]
    · have h3 : ¬ i < j := by have := of_decide_eq_false h3; omega
      refine ⟨rfl, rfl, fmtS z, ⟨?_, fun k hk => ?_⟩, rfl, trivial⟩
      · show (fmtZ z).toArray.size = _
        rw [← hr]; simp
      · have hk' := hg k hk
        rw [Nat.zero_add, bA_get g (by omega), hk']
        have e : ((fmtS z).data.getD k 0) = (l.getD (l.length - 1 - k) 0) := by
          show ((fmtZ z).toArray.getD k 0) = _
          rw [← hr, Array.getD_eq_getD_getElem?, List.getElem?_toArray, List.getElem?_reverse hk, List.getD_eq_getElem?_getD]
        rw [e]
        by_cases e3 : k < i ∨ j < k
        · rw [if_pos e3]
        · rw [if_neg e3, show l.length - 1 - k = k by omega]
end Go.Proofs.YtjkgmglmgndaoaaGreatDoor
