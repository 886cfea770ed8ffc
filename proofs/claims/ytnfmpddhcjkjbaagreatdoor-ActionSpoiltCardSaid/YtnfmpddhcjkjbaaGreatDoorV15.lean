/- walks: prices, actions in memory; no condition. -/
import Derived.Test.YtnfmpddhcjkjbaaGreatDoorV14
namespace Go.Proofs.YtnfmpddhcjkjbaaGreatDoor
open Go Go.RowKit Go.SX
/-- may the byte at a place stand in a name in capitals -/
def capAt (dg : Bool) (l : List UInt8) (j : Nat) : Bool := (decide (65 ≤ (l.getD j 0).toNat) && decide ((l.getD j 0).toNat ≤ 90)) || (dg && !decide (j = 0) && decide (48 ≤ (l.getD j 0).toNat) && decide ((l.getD j 0).toNat ≤ 57))
def capAll (dg : Bool) (l : List UInt8) : Bool := (List.range l.length).all (capAt dg l)
theorem capAll_false {dg : Bool} {l : List UInt8} {j : Nat} (hj : j < l.length) (h : capAt dg l j = false) : capAll dg l = false := by
  unfold capAll
  rw [List.all_eq_false]
  exact ⟨j, by simpa using hj, by simp [h]⟩
theorem capAll_true {dg : Bool} {l : List UInt8} (h : ∀ j, j < l.length → capAt dg l j = true) : capAll dg l = true := by
  unfold capAll
  rw [List.all_eq_true]
  intro j hj
  exact h j (by simpa using hj)
set_option smartUnfolding false in
set_option maxRecDepth 100000 in
set_option maxHeartbeats 1000000 in
theorem capitals_z (l : List UInt8) (lo hi : Int) (dg : Bool) (hl : l.length ≤ 9223372036854775807) : Pure Tryz.prog 117 [SV.c (.string (S l)), SV.c (.int .i64 lo), SV.c (.int .i64 hi), SV.c (.bool dg)] (.bool (capAll dg l && (decide (lo ≤ l.length) && decide ((l.length : Int) ≤ hi)))) := by
  refine sx_pure tt_ok mixed at117 _ _ rfl rfl fun w => ?_
  refine ⟨_, fun w _ => run_len_S Tryz.underlying9 w, ?_⟩
  refine ⟨fun q f m => ∃ i : Nat, q = l.length - i ∧ i ≤ l.length ∧ (∀ j, j < i → capAt dg l j = true) ∧ f = [(0, SV.c (.string (S l))), (1, SV.c (.int .i64 lo)), (2, SV.c (.int .i64 hi)), (3, SV.c (.bool dg)), (11, SV.c (.int .i64 (l.length : Nat))), (12, SV.c (.int .i64 i))] ∧ m = [], l.length, ⟨_, _, ⟨0, rfl, Nat.zero_le _, fun j hj => absurd hj (by omega), rfl, rfl⟩, ⟨rfl, rfl, rfl, rfl, rfl, rfl, trivial⟩, trivial, rfl⟩, ?_⟩
  rintro q f m ⟨i, rfl, hi1, hall, rfl, rfl⟩
  refine ⟨fun h => ?_, fun h => ?_⟩
  · have h : i < l.length := by have := of_decide_eq_true h; omega
    have hx := runs_idx (E := (envP Tryz.prog tt Tryz.f117.ntmps w).toEnv) Tryz.underlying9 (k := .i64) i rfl h
    have hc : capAt dg l i = ((decide (65 ≤ (l.getD i 0).toNat) && decide ((l.getD i 0).toNat ≤ 90)) || (dg && !decide (i = 0) && decide (48 ≤ (l.getD i 0).toNat) && decide ((l.getD i 0).toNat ≤ 57))) := rfl
    generalize (l.getD i 0).toNat = x at *
    have stop : capAt dg l i = false → mkRes [.bool false] = .bool (capAll dg l && (decide (lo ≤ l.length) && decide ((l.length : Int) ≤ hi))) := fun e => by rw [capAll_false h e]; rfl
    have hnext : capAt dg l i = true → ∀ j, j < i + 1 → capAt dg l j = true := fun e j hj => by
      by_cases e2 : j = i
      · rw [e2]; exact e
      · exact hall j (by omega)
    refine ⟨_, hx, fun h1 => ⟨_, hx, fun h2 => ?_, fun h2 => ?_⟩, fun h1 => ⟨fun h2 => ?_, nofun⟩⟩
    · have h1 := of_decide_eq_false h1
      have h2 := of_decide_eq_true h2
      have hlow : (decide (65 ≤ x) && decide (x ≤ 90)) = false := by rw [decide_eq_false (by omega : ¬ x ≤ 90), Bool.and_false]
      rw [hlow, Bool.false_or] at hc
      refine ⟨fun h3 => ⟨fun h4 => ⟨_, hx, fun h5 => ⟨_, hx, fun h6 => ⟨stop ?_, trivial⟩, fun h6 => ?_⟩, fun h5 => ⟨fun _ => ⟨stop ?_, trivial⟩, nofun⟩⟩, fun h4 => ⟨nofun, fun _ => ⟨fun _ => ⟨stop ?_, trivial⟩, nofun⟩⟩⟩, fun h3 => ⟨nofun, fun _ => ⟨nofun, fun _ => ⟨fun _ => ⟨stop ?_, trivial⟩, nofun⟩⟩⟩⟩
      · have h6 := of_decide_eq_true h6
        rw [hc, decide_eq_false (by omega : ¬ x ≤ 57), Bool.and_false]
      · have h3 : dg = true := of_bnf h3
        have h4 : ¬ i = 0 := by intro e; subst e; simp at h4
        have h5 := of_decide_eq_false h5
        have h6 := of_decide_eq_false h6
        exact ⟨l.length - (i + 1), _, _, by omega, ⟨i + 1, rfl, by omega, hnext (by rw [hc, h3, decide_eq_false h4, decide_eq_true (by omega : 48 ≤ x), decide_eq_true (by omega : x ≤ 57)]; rfl), rfl, rfl⟩, ⟨rfl, rfl, rfl, rfl, rfl, c_int (by rw [i64_in (by omega)]; rfl), trivial⟩, trivial, rfl⟩
      · have h5 := of_decide_eq_true h5
        rw [hc, decide_eq_false (by omega : ¬ 48 ≤ x), Bool.and_false, Bool.false_and]
      · have h4 : i = 0 := by have : (i : Int) = 0 := by simpa using h4
                              omega
        rw [hc, decide_eq_true h4, Bool.not_true, Bool.and_false, Bool.false_and, Bool.false_and]
      · have h3 : dg = false := bnt h3
        rw [hc, h3]; rfl
    · have h1 := of_decide_eq_false h1
      have h2 := of_decide_eq_false h2
      refine ⟨nofun, fun _ => ?_⟩
      exact ⟨l.length - (i + 1), _, _, by omega, ⟨i + 1, rfl, by omega, hnext (by rw [hc, decide_eq_true (by omega : 65 ≤ x), decide_eq_true (by omega : x ≤ 90)]; rfl), rfl, rfl⟩, ⟨rfl, rfl, rfl, rfl, rfl, c_int (by rw [i64_in (by omega)]; rfl), trivial⟩, trivial, rfl⟩
    · have h1 := of_decide_eq_true h1
      have hlow : (decide (65 ≤ x) && decide (x ≤ 90)) = false := by rw [decide_eq_false (by omega : ¬ 65 ≤ x), Bool.false_and]
      rw [hlow, Bool.false_or] at hc
      refine ⟨fun h3 => ⟨fun h4 => ⟨_, hx, fun h5 => ⟨_, hx, fun h6 => ⟨stop ?_, trivial⟩, fun h6 => ?_⟩, fun h5 => ⟨fun _ => ⟨stop ?_, trivial⟩, nofun⟩⟩, fun h4 => ⟨nofun, fun _ => ⟨fun _ => ⟨stop ?_, trivial⟩, nofun⟩⟩⟩, fun h3 => ⟨nofun, fun _ => ⟨nofun, fun _ => ⟨fun _ => ⟨stop ?_, trivial⟩, nofun⟩⟩⟩⟩
      · have h6 := of_decide_eq_true h6
        rw [hc, decide_eq_false (by omega : ¬ x ≤ 57), Bool.and_false]
      · have h3 : dg = true := of_bnf h3
        have h4 : ¬ i = 0 := by intro e; subst e; simp at h4
        have h5 := of_decide_eq_false h5
        have h6 := of_decide_eq_false h6
        exact ⟨l.length - (i + 1), _, _, by omega, ⟨i + 1, rfl, by omega, hnext (by rw [hc, h3, decide_eq_false h4, decide_eq_true (by omega : 48 ≤ x), decide_eq_true (by omega : x ≤ 57)]; rfl), rfl, rfl⟩, ⟨rfl, rfl, rfl, rfl, rfl, c_int (by rw [i64_in (by omega)]; rfl), trivial⟩, trivial, rfl⟩
      · have h5 := of_decide_eq_true h5
        rw [hc, decide_eq_false (by omega : ¬ 48 ≤ x), Bool.and_false, Bool.false_and]
      · have h4 : i = 0 := by have : (i : Int) = 0 := by simpa using h4
                              omega
        rw [hc, decide_eq_true h4, Bool.not_true, Bool.and_false, Bool.false_and, Bool.false_and]
      · have h3 : dg = false := bnt h3
        rw [hc, h3]; rfl
  · have h : i = l.length := by have := of_decide_eq_false h; omega
    subst h
    rw [capAll_true hall, Bool.true_and]
    refine ⟨_, fun w _ => run_len_S Tryz.underlying9 w, fun h2 => ⟨_, fun w _ => run_len_S Tryz.underlying9 w, bv ?_, trivial⟩, fun h2 => ⟨bv ?_, trivial⟩⟩
    · rw [decide_eq_true (of_decide_eq_true h2 : lo ≤ (l.length : Int)), Bool.true_and]
    · rw [decide_eq_false (of_decide_eq_false h2 : ¬ lo ≤ (l.length : Int)), Bool.false_and]
set_option smartUnfolding false in
set_option maxRecDepth 100000 in
theorem instrument_z (l : List UInt8) (hl : l.length ≤ 9223372036854775807) : Pure Tryz.prog 115 [SV.c (.string (S l))] (.bool (capAll true l && (decide (1 ≤ l.length) && decide (l.length ≤ 12)))) := by
  refine sx_pure tt_ok mixed at115 _ _ rfl rfl fun w => ?_
  refine .inl ⟨_, capitals_z l 1 12 true hl, bv ?_, trivial⟩
  congr 2
  · rw [Bool.eq_iff_iff]; simp only [decide_eq_true_eq]; omega
  · rw [Bool.eq_iff_iff]; simp only [decide_eq_true_eq]; omega
def facOk (n : Int) : Bool := decide (1 ≤ n) && decide (n ≤ 1000000)
set_option smartUnfolding false in
set_option maxRecDepth 100000 in
theorem factor_z (n : Int) : Pure Tryz.prog 118 [SV.c (.int .i64 n)] (.bool (facOk n)) := by
  refine sx_pure tt_ok mixed at118 _ _ rfl rfl fun w => ?_
  refine ⟨fun h => ⟨bv ?_, trivial⟩, fun h => ⟨bv ?_, trivial⟩⟩
  · rw [facOk, decide_eq_true (of_decide_eq_true h : n ≥ 1), Bool.true_and]
  · rw [facOk, decide_eq_false (of_decide_eq_false h : ¬ n ≥ 1), Bool.false_and]
/-- may a pair be a price per piece -/
def payOk (r : RQ) : Bool := r.ok && (decide (r.p * 1000000 % r.q = 0) && (decide (0 ≤ r.p) && decide (r.p ≤ 1000000000 * r.q)))
theorem tp6 : tp 6 = 1000000 := rfl
theorem bil_ok : (RQ.of 1000000000 1).ok = true := by decide
theorem bil_in : (RQ.of 1000000000 1).In := ⟨Nat.lt_of_lt_of_le (by decide : 1000000000 < 18446744073709551616) two64, Nat.lt_of_lt_of_le (by decide : 1 < 18446744073709551616) two64⟩
theorem sgn_ge (x : Int) : decide (sgn x ≥ 0) = decide (0 ≤ x) := by
  rw [Bool.eq_iff_iff]; simp only [decide_eq_true_eq]; unfold sgn; split
  · omega
  · split <;> omega
theorem cmpI_le (x y : Int) : decide (cmpI x y ≤ 0) = decide (x ≤ y) := by
  rw [Bool.eq_iff_iff]; simp only [decide_eq_true_eq]; unfold cmpI; split
  · omega
  · split <;> omega
/-- a small text has no error -/
theorem txt_small {z : Int} (h : z.natAbs ≤ 1000000000000000) : (txtZ z 6).2 = 0 := by
  have h1 := fmtN_len (k := 16) (N := z.natAbs) (by omega) (by show z.natAbs < 10000000000000000; omega)
  unfold txtZ
  dsimp only
  have h2 : (padZ 6 (fmtN z.natAbs)).length ≤ 16 := by
    unfold padZ; split
    · simp only [List.length_append, List.length_replicate]; omega
    · omega
  rw [if_neg (by omega)]
theorem pay_txt {r : RQ} (hk : r.ok = true) (h0 : 0 ≤ r.p) (h1 : r.p ≤ 1000000000 * r.q) : (txtQ r 6).2 = if r.p * 1000000 % r.q = 0 then 0 else 32 := by
  unfold txtQ
  rw [hk, Bool.not_true, if_neg Bool.false_ne_true, if_neg (by omega)]
  rw [show ((tp (Int.toNat 6) : Nat) : Int) = 1000000 from rfl, show Int.toNat 6 = 6 from rfl]
  by_cases h : r.p * 1000000 % r.q = 0
  · rw [if_neg (by simpa using h), if_pos h]
    obtain ⟨k1, k2, k3, k4, k5⟩ := RQ.ok_bits hk
    apply txt_small
    have h3 : 0 ≤ r.p * 1000000 / r.q := Int.ediv_nonneg (by omega) (by omega)
    have h4 : r.p * 1000000 / r.q ≤ 1000000000000000 := by
      apply Int.ediv_le_of_le_mul k3
      omega
    omega
  · rw [if_pos h, if_neg h]
theorem txt_bad {r : RQ} (hk : r.ok = true) (h : r.p * 1000000 % r.q ≠ 0) : (txtQ r 6).2 = 32 := by
  unfold txtQ
  rw [hk, Bool.not_true, if_neg Bool.false_ne_true, if_neg (by omega)]
  rw [show ((tp (Int.toNat 6) : Nat) : Int) = 1000000 from rfl]
  rw [if_pos h]
theorem txt_inv {r : RQ} (hk : r.ok = false) : (txtQ r 6).2 = 20 := by
  unfold txtQ
  rw [hk, Bool.not_false, if_pos rfl]
theorem pay_eq (r : RQ) : ((txtQ r 6).2 == 0 && (decide ((if r.ok then sgn r.p else 0) ≥ 0) && decide ((if r.ok && (RQ.of 1000000000 1).ok then cmpI (r.p * (RQ.of 1000000000 1).q) ((RQ.of 1000000000 1).p * r.q) else 0) ≤ 0))) = payOk r := by
  unfold payOk
  by_cases hk : r.ok = true
  · rw [hk, bil_ok, RQ.of_p, RQ.of_q]
    simp only [Bool.and_true, if_true, Bool.true_and, sgn_ge, cmpI_le, Int.mul_one]
    by_cases h0 : 0 ≤ r.p
    · by_cases h1 : r.p ≤ 1000000000 * r.q
      · rw [pay_txt hk h0 h1]
        by_cases h : r.p * 1000000 % r.q = 0
        · rw [if_pos h]; simp [h]
        · rw [if_neg h]; simp [h]
      · simp [h1]
    · simp [h0]
  · have hk : r.ok = false := by simpa using hk
    rw [txt_inv hk, hk]; rfl
set_option smartUnfolding false in
set_option maxRecDepth 100000 in
theorem payment_z {r : RQ} (hr : r.In) : Pure Tryz.prog 116 [SV.c (.agg r.A)] (.bool (payOk r)) := by
  refine sx_pure tt_ok mixed at116 _ _ rfl rfl fun w => ?_
  have hc := cmpR_z hr bil_in
  have hw : Pure Tryz.prog 86 [SV.c (.int .i64 1000000000)] (.agg (RQ.of 1000000000 1).A) := whole1_z (by omega) (by omega)
  rw [← pay_eq]
  generalize (if r.ok && (RQ.of 1000000000 1).ok then cmpI (r.p * (RQ.of 1000000000 1).q) ((RQ.of 1000000000 1).p * r.q) else 0) = hi at *
  refine ⟨r.A_size, .inl ⟨_, text_z hr 6, .inl ⟨_, signR_z hr, .inl ⟨_, hw, .inl ⟨_, hc, by kernel_rfl, fun h => ⟨fun h2 => ⟨bv ?_, trivial⟩, fun h2 => ⟨bv ?_, trivial⟩⟩, fun h => ⟨nofun, fun _ => ⟨bv ?_, trivial⟩⟩⟩⟩⟩⟩⟩
  · have h : ((txtQ r 6).2 == 0) = true := h
    have h2 : decide ((if r.ok then sgn r.p else 0) ≥ 0) = true := h2
    rw [h, h2, Bool.true_and, Bool.true_and]
  · have h2 : decide ((if r.ok then sgn r.p else 0) ≥ 0) = false := h2
    rw [h2, Bool.false_and, Bool.and_false]
  · have h : ((txtQ r 6).2 == 0) = false := h
    rw [h, Bool.false_and]
/-- an action, as it lies -/
structure AC where
  kind : Int
  key : List UInt8
  ins : List UInt8
  into : List UInt8
  day : Int
  num : Int
  den : Int
  cash : RQ
  cur : List UInt8
  known : Int
  void : Bool
def AC.pre (a : AC) : Array Value := #[.int .i64 a.kind, .string (S a.key), .string (S a.ins), .string (S a.into), .int .i64 a.day, .int .i64 a.num, .int .i64 a.den]
def AC.post (a : AC) : Array Value := #[.string (S a.cur), .int .i64 a.known, .bool a.void]
def AC.A (a : AC) : Array Value := a.pre ++ (a.cash.A ++ a.post)
structure AC.In (a : AC) : Prop where
  cash : a.cash.In
  key : a.key.length ≤ 9223372036854775807
  ins : a.ins.length ≤ 9223372036854775807
  into : a.into.length ≤ 9223372036854775807
  cur : a.cur.length ≤ 9223372036854775807
  num : -9223372036854775808 ≤ a.num ∧ a.num ≤ 9223372036854775807
  den : -9223372036854775808 ≤ a.den ∧ a.den ≤ 9223372036854775807
theorem AC.size (a : AC) : a.A.size = 76 := by simp [AC.A, AC.pre, AC.post, RQ.A_size]
theorem AC.fits (a : AC) : Fits a.A 76 := ⟨a.size, by
  rw [AC.A, Array.all_append, Array.all_append, a.cash.A_fits.one]
  simp [AC.pre, AC.post, Value.oneCell']⟩
theorem AC.at_pre (a : AC) {i : Nat} (h : i < 7) : a.A[i]? = a.pre[i]? := by
  rw [AC.A, Array.getElem?_append_left (by simpa [AC.pre] using h)]
theorem AC.at_post (a : AC) {i : Nat} (h : 73 ≤ i) : a.A[i]? = a.post[i - 73]? := by
  rw [AC.A, Array.getElem?_append_right (by simp [AC.pre]; omega), Array.getElem?_append_right (by simp [AC.pre, RQ.A_size]; omega)]
  simp only [AC.pre, RQ.A_size]
  congr 1
theorem AC.g0 (a : AC) : a.A[0]? = some (.int .i64 a.kind) := (a.at_pre (by omega)).trans rfl
theorem AC.g1 (a : AC) : a.A[1]? = some (.string (S a.key)) := (a.at_pre (by omega)).trans rfl
theorem AC.g2 (a : AC) : a.A[2]? = some (.string (S a.ins)) := (a.at_pre (by omega)).trans rfl
theorem AC.g3 (a : AC) : a.A[3]? = some (.string (S a.into)) := (a.at_pre (by omega)).trans rfl
theorem AC.g4 (a : AC) : a.A[4]? = some (.int .i64 a.day) := (a.at_pre (by omega)).trans rfl
theorem AC.g5 (a : AC) : a.A[5]? = some (.int .i64 a.num) := (a.at_pre (by omega)).trans rfl
theorem AC.g6 (a : AC) : a.A[6]? = some (.int .i64 a.den) := (a.at_pre (by omega)).trans rfl
theorem AC.g73 (a : AC) : a.A[73]? = some (.string (S a.cur)) := (a.at_post (by omega)).trans rfl
theorem AC.g74 (a : AC) : a.A[74]? = some (.int .i64 a.known) := (a.at_post (by omega)).trans rfl
theorem AC.g75 (a : AC) : a.A[75]? = some (.bool a.void) := (a.at_post (by omega)).trans rfl
theorem ext_mid {X Y Z : Array Value} {i n : Nat} (hX : X.size = i) (hY : Y.size = n) : (X ++ (Y ++ Z)).extract i (i + n) = Y := by
  apply Array.ext_getElem?
  intro j
  rw [Array.getElem?_extract]
  by_cases hj : j < n
  · rw [if_pos (by simp; omega), Array.getElem?_append_right (by omega), Array.getElem?_append_left (by omega)]
    congr 1; omega
  · rw [if_neg (by simp; omega), Array.getElem?_eq_none (by omega)]
theorem AC.gcash (a : AC) : a.A.extract 7 (7 + 66) = a.cash.A := ext_mid rfl a.cash.A_size
theorem AC.gnum (a : AC) : a.A.extract 7 (7 + 33) = iA a.cash.a a.cash.N := by
  rw [AC.A, RQ.A, Array.append_assoc]
  exact ext_mid rfl (iA_size _ _)
end Go.Proofs.YtnfmpddhcjkjbaaGreatDoor
