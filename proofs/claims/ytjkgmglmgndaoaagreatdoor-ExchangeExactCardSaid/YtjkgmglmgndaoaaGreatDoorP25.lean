/- walks: a corporate action, the reference. walks: what an action makes, the reference. walks: the law of an action's effects; no condition. -/
import Derived.Test.YtjkgmglmgndaoaaGreatDoorP24
namespace Go.Proofs.YtjkgmglmgndaoaaGreatDoor
open Go Go.RowKit Go.SX
set_option smartUnfolding false in
set_option maxRecDepth 100000 in
theorem capital_r (x : Nat) : Pure Tryz.prog 118 [SV.c (.int .u8 (x : Nat))] (.bool (decide (65 ≤ x) && decide (x ≤ 90))) := by
  refine sx_pure tt_ok mixed at118 _ _ rfl rfl fun w => ?_
  refine ⟨fun h => ⟨bv ?_, trivial⟩, fun h => ⟨bv ?_, trivial⟩⟩
  · have h := of_decide_eq_true h
    rw [decide_eq_true (by omega : 65 ≤ x), Bool.true_and, Bool.eq_iff_iff]; simp only [decide_eq_true_eq]; omega
  · have h := of_decide_eq_false h
    rw [decide_eq_false (by omega : ¬ 65 ≤ x), Bool.false_and]
set_option smartUnfolding false in
set_option maxRecDepth 100000 in
theorem out_r (n : Int) : Pure Tryz.prog 75 [SV.c (.int .i64 n)] (.bool (decide (n < 0) || decide (n > 73048))) := by
  refine sx_pure tt_ok mixed at75 _ _ rfl rfl fun w => ?_
  refine ⟨fun h => ⟨bv ?_, trivial⟩, fun h => ⟨bv ?_, trivial⟩⟩
  · rw [show decide (n < 0) = false from h, Bool.false_or]
  · rw [show decide (n < 0) = true from h, Bool.true_or]
/-- the reference's capital, at a place -/
def capR (l : List UInt8) (j : Nat) : Bool := decide (65 ≤ (l.getD j 0).toNat) && decide ((l.getD j 0).toNat ≤ 90)
theorem capR_false (l : List UInt8) (j : Nat) : capAt false l j = capR l j := by
  unfold capAt capR; simp
theorem capR_zero (l : List UInt8) : capAt true l 0 = capR l 0 := by
  unfold capAt capR; simp
theorem curOk_eq (l : List UInt8) : curOk l = (decide ((l.length : Int) = 3) && (capR l 0 && (capR l 1 && capR l 2))) := by
  unfold curOk
  by_cases h : l.length = 3
  · rw [decide_eq_true (by omega : (l.length : Int) = 3), decide_eq_true (by omega : (3 : Int) ≤ l.length), decide_eq_true (by omega : (l.length : Int) ≤ 3)]
    simp only [Bool.and_true, Bool.true_and]
    by_cases h0 : capR l 0 = true
    · by_cases h1 : capR l 1 = true
      · by_cases h2 : capR l 2 = true
        · rw [h0, h1, h2]
          apply capAll_true
          intro j hj
          rw [capR_false]
          obtain rfl | rfl | rfl : j = 0 ∨ j = 1 ∨ j = 2 := by omega
          · exact h0
          · exact h1
          · exact h2
        · have h2 : capR l 2 = false := by simpa using h2
          rw [h2, Bool.and_false, Bool.and_false]
          exact capAll_false (j := 2) (by omega) (by rw [capR_false]; exact h2)
      · have h1 : capR l 1 = false := by simpa using h1
        rw [h1, Bool.false_and, Bool.and_false]
        exact capAll_false (j := 1) (by omega) (by rw [capR_false]; exact h1)
    · have h0 : capR l 0 = false := by simpa using h0
      rw [h0, Bool.false_and]
      exact capAll_false (j := 0) (by omega) (by rw [capR_false]; exact h0)
  · rw [decide_eq_false (by omega : ¬ (l.length : Int) = 3), Bool.false_and]
    by_cases h3 : (3 : Int) ≤ l.length
    · rw [decide_eq_false (by omega : ¬ (l.length : Int) ≤ 3), Bool.and_false, Bool.and_false]
    · rw [decide_eq_false h3, Bool.false_and, Bool.and_false]
set_option smartUnfolding false in
set_option maxRecDepth 100000 in
theorem code_r (l : List UInt8) (_hl : l.length ≤ 9223372036854775807) : Pure Tryz.prog 76 [SV.c (.string (S l))] (.bool (curOk l)) := by
  refine sx_pure tt_ok mixed at76 _ _ rfl rfl fun w => ?_
  have hx : ∀ i : Nat, i < l.length → Runs ((envP Tryz.prog tt Tryz.f76.ntmps w).toEnv) (Instr.index 9 (.string (S l)) (.int .i64 (i : Int))) (.int .u8 ((l.getD i 0).toNat : Nat)) := fun i h => runs_idx Tryz.underlying9 i rfl h
  rw [curOk_eq]
  refine ⟨_, fun w _ => run_len_S Tryz.underlying9 w, fun h => ?_, fun h => ?_⟩
  · have h : ((l.length : Int) == 3) = true := h
    have h : (l.length : Int) = 3 := by simpa using h
    rw [decide_eq_true h, Bool.true_and]
    refine ⟨_, hx 0 (by omega), .inl ⟨_, capital_r _, fun h0 => ⟨_, hx 1 (by omega), .inl ⟨_, capital_r _, fun h1 => ⟨_, hx 2 (by omega), .inl ⟨_, capital_r _, bv ?_, trivial⟩⟩, fun h1 => ⟨bv ?_, trivial⟩⟩⟩, fun h0 => ⟨nofun, fun _ => ⟨bv ?_, trivial⟩⟩⟩⟩
    · rw [show capR l 0 = true from h0, show capR l 1 = true from h1]; rfl
    · rw [show capR l 0 = true from h0, show capR l 1 = false from h1]; rfl
    · rw [show capR l 0 = false from h0]; rfl
  · have h : ((l.length : Int) == 3) = false := h
    have h : ¬ (l.length : Int) = 3 := by simpa using h
    rw [decide_eq_false h, Bool.false_and]
    refine ⟨nofun, fun _ => ⟨nofun, fun _ => ⟨rfl, trivial⟩⟩⟩
theorem capAt_eq (l : List UInt8) (j : Nat) : capAt true l j = (capR l j || (!decide (j = 0) && decide (48 ≤ (l.getD j 0).toNat) && decide ((l.getD j 0).toNat ≤ 57))) := by
  unfold capAt capR; rw [Bool.true_and]
set_option smartUnfolding false in
set_option maxRecDepth 100000 in
set_option maxHeartbeats 1000000 in
theorem paper_r (l : List UInt8) (hl : l.length ≤ 9223372036854775807) : Pure Tryz.prog 153 [SV.c (.string (S l))] (.bool (insOk l)) := by
  refine sx_pure tt_ok mixed at153 _ _ rfl rfl fun w => ?_
  have hx : ∀ i : Nat, i < l.length → Runs ((envP Tryz.prog tt Tryz.f153.ntmps w).toEnv) (Instr.index 9 (.string (S l)) (.int .i64 (i : Int))) (.int .u8 ((l.getD i 0).toNat : Nat)) := fun i h => runs_idx Tryz.underlying9 i rfl h
  have hlen : ∀ (w : World), (builtin .len #[9] 3 #[false] #[.string (S l)]).run Tryz.prog w = .ok (.value (.int .i64 (l.length : Nat))) w := fun w => run_len_S Tryz.underlying9 w
  have stop : ∀ j, j < l.length → capAt true l j = false → insOk l = false := fun j hj e => by rw [insOk, capAll_false hj e]; rfl
  refine ⟨_, fun w _ => run_len_S Tryz.underlying9 w, fun h1 => ⟨_, fun w _ => run_len_S Tryz.underlying9 w, fun h2 => ⟨_, hx 0 ?_, .inl ⟨_, capital_r _, fun h3 => ⟨bv ?_, trivial⟩, fun h3 => ?_⟩⟩, fun h2 => ⟨fun _ => ⟨bv ?_, trivial⟩, nofun⟩⟩, fun h1 => ⟨nofun, fun _ => ⟨fun _ => ⟨bv ?_, trivial⟩, nofun⟩⟩⟩
  · have h1 : decide ((l.length : Int) < 1) = false := h1
    have h1 := of_decide_eq_false h1
    omega
  · have h3 : capR l 0 = false := bnt h3
    have h1 : decide ((l.length : Int) < 1) = false := h1
    have h1 := of_decide_eq_false h1
    rw [stop 0 (by omega) (by rw [capR_zero]; exact h3)]
  · have h1 : decide ((l.length : Int) < 1) = false := h1
    have h1 := of_decide_eq_false h1
    have h2 : decide ((l.length : Int) > 12) = false := h2
    have h2 := of_decide_eq_false h2
    have h3 : capR l 0 = true := of_bnf h3
    refine ⟨fun q f m => ∃ i : Nat, q = l.length - i ∧ i ≤ l.length ∧ (∀ j, j < i → capAt true l j = true) ∧ f = [(0, SV.c (.string (S l))), (3, SV.c (.int .i64 i))] ∧ m = [], l.length, ⟨_, _, ⟨0, rfl, Nat.zero_le _, fun j hj => absurd hj (by omega), rfl, rfl⟩, ⟨rfl, rfl, trivial⟩, trivial, rfl⟩, ?_⟩
    rintro q f m ⟨i, rfl, hi1, hall, rfl, rfl⟩
    refine ⟨_, fun w _ => run_len_S Tryz.underlying9 w, fun h => ?_, fun h => ?_⟩
    · have h : i < l.length := by have := of_decide_eq_true h; omega
      have hnext : capAt true l i = true → ∀ j, j < i + 1 → capAt true l j = true := fun e j hj => by
        by_cases e2 : j = i
        · rw [e2]; exact e
        · exact hall j (by omega)
      refine ⟨_, hx i h, .inl ⟨_, capital_r _, fun h4 => ⟨_, hx i h, fun h5 => ⟨_, hx i h, fun h6 => ⟨bv ?_, trivial⟩, fun h6 => ?_⟩, fun h5 => ⟨fun _ => ⟨bv ?_, trivial⟩, nofun⟩⟩, fun h4 => ⟨nofun, fun _ => ?_⟩⟩⟩
      · have h4 : capR l i = false := bnt h4
        have h6 := of_decide_eq_true h6
        rw [stop i h]
        rw [capAt_eq, h4, decide_eq_false (by omega : ¬ (l.getD i 0).toNat ≤ 57), Bool.and_false, Bool.or_false]
      · have h4 : capR l i = false := bnt h4
        have h5 := of_decide_eq_false h5
        have h6 := of_decide_eq_false h6
        have hi0 : ¬ i = 0 := by intro e; rw [e, h3] at h4; cases h4
        exact ⟨l.length - (i + 1), _, _, by omega, ⟨i + 1, rfl, by omega, hnext (by rw [capAt_eq, h4, decide_eq_false hi0, decide_eq_true (by omega : 48 ≤ (l.getD i 0).toNat), decide_eq_true (by omega : (l.getD i 0).toNat ≤ 57)]; rfl), rfl, rfl⟩, ⟨rfl, c_int (by rw [i64_in (by omega)]; rfl), trivial⟩, trivial, rfl⟩
      · have h4 : capR l i = false := bnt h4
        have h5 := of_decide_eq_true h5
        rw [stop i h]
        rw [capAt_eq, h4, decide_eq_false (by omega : ¬ 48 ≤ (l.getD i 0).toNat), Bool.and_false, Bool.false_and, Bool.or_false]
      · have h4 : capR l i = true := of_bnf h4
        exact ⟨l.length - (i + 1), _, _, by omega, ⟨i + 1, rfl, by omega, hnext (by rw [capAt_eq, h4, Bool.true_or]), rfl, rfl⟩, ⟨rfl, c_int (by rw [i64_in (by omega)]; rfl), trivial⟩, trivial, rfl⟩
    · have h : i = l.length := by have := of_decide_eq_false h; omega
      subst h
      refine ⟨bv ?_, trivial⟩
      rw [insOk, capAll_true hall, decide_eq_true (by omega : 1 ≤ l.length), decide_eq_true (by omega : l.length ≤ 12)]; rfl
  · have h2 : decide ((l.length : Int) > 12) = true := h2
    have h2 := of_decide_eq_true h2
    rw [insOk, decide_eq_false (by omega : ¬ l.length ≤ 12), Bool.and_false, Bool.and_false]
  · have h1 : decide ((l.length : Int) < 1) = true := h1
    have h1 := of_decide_eq_true h1
    rw [insOk, decide_eq_false (by omega : ¬ 1 ≤ l.length), Bool.false_and, Bool.and_false]
theorem betQ_pay {r : RQ} : ((txtQ r 6).2 == 0 && betQ r 0 1000000000) = payOk r := by
  unfold payOk betQ
  by_cases hk : r.ok = true
  · rw [hk]
    simp only [Bool.true_and, Int.zero_mul]
    by_cases h0 : 0 ≤ r.p
    · by_cases h1 : r.p ≤ 1000000000 * r.q
      · rw [pay_txt hk h0 h1]
        by_cases h : r.p * 1000000 % r.q = 0
        · rw [if_pos h]; simp [h]
        · rw [if_neg h]; simp [h]
      · simp [h1]
    · simp [h0]
  · have hk : r.ok = false := by simpa using hk
    rw [txt_inv hk, hk]; rfl
set_option smartUnfolding false in
set_option maxRecDepth 100000 in
theorem price_r {r : RQ} (hr : r.In) : Pure Tryz.prog 155 [SV.c (.agg r.A)] (.bool (payOk r)) := by
  refine sx_pure tt_ok mixed at155 _ _ rfl rfl fun w => ?_
  rw [← betQ_pay]
  refine ⟨r.A_size, .inl ⟨_, text_r hr 6, fun h => .inl ⟨_, between_r hr (by decide) (by decide) (by decide) (by decide), bv ?_, trivial⟩, fun h => ⟨bv ?_, trivial⟩⟩⟩
  · rw [show ((txtQ r 6).2 == 0) = true from h, Bool.true_and]
  · rw [show ((txtQ r 6).2 == 0) = false from h, Bool.false_and]
theorem one_in0 : (RQ.of 0 1).In := ⟨i64_lt (n := 0) (by omega) (by omega), i64_lt (n := 1) (by omega) (by omega)⟩
theorem neq_zero {r : RQ} (h : payOk r = true) : (!r.beq (.of 0 1)) = decide (sgn r.p > 0) := by
  unfold payOk at h
  simp only [Bool.and_eq_true, decide_eq_true_eq] at h
  obtain ⟨hk, -, h0, -⟩ := h
  obtain ⟨-, -, k3, k4, k5⟩ := RQ.ok_bits hk
  by_cases hp : r.p = 0
  · rw [hp] at k4
    have : r.q = 1 := by rw [Int.gcd_zero_left] at k4; omega
    rw [hp, this] at k5
    rw [(RQ.beq_iff _ _).mpr k5, hp]; rfl
  · have : r.beq (.of 0 1) = false := by
      cases e : r.beq (.of 0 1) with
      | false => rfl
      | true => exact absurd (by rw [(RQ.beq_iff _ _).mp e, RQ.of_p]) hp
    rw [this]
    have : sgn r.p > 0 := by
      unfold sgn
      repeat' split
      all_goals omega
    rw [decide_eq_true this]; rfl
end Go.Proofs.YtjkgmglmgndaoaaGreatDoor
namespace Go.Proofs.YtjkgmglmgndaoaaGreatDoor
open Go Go.RowKit Go.SX
end Go.Proofs.YtjkgmglmgndaoaaGreatDoor
namespace Go.Proofs.YtjkgmglmgndaoaaGreatDoor
open Go Go.RowKit Go.SX
/-- is what an action makes of a holding alike -/
def EF.beq (x y : EF) : Bool := decide (x.ins = y.ins) && ((x.qty == y.qty) && ((x.cash == y.cash) && true))
theorem EF.beq_self (x : EF) : x.beq x = true := by simp [EF.beq]
theorem RQ.beq_self (r : RQ) : r.beq r = true := (r.beq_iff r).mpr rfl
set_option smartUnfolding false in
set_option maxRecDepth 100000 in
theorem made_of {n d : Int} (h1 : -9223372036854775808 ≤ n) (h2 : n ≤ 9223372036854775807) (h3 : -9223372036854775808 ≤ d) (h4 : d ≤ 9223372036854775807) : Pure Tryz.prog 41 [SV.c (.int .i64 n), SV.c (.int .i64 d)] (.agg (mkQ n d).1.A) := by
  refine sx_pure tt_ok mixed at41 _ _ rfl rfl fun w => ?_
  exact .inl ⟨_, of_r h1 h2 h3 h4, RQ.A_fits _, RQ.A_fits _, rfl, trivial⟩
theorem eqs_ratio {E : Env} (hE : E.P = Tryz.prog) {r : RQ} (hr : r.In) {u v : Operand} : Runs E (do eqGuard .eql 29 u v (.agg r.A) (.agg r.A); binOp .eql 29 (.agg r.A) (.agg r.A)) (.bool true) := by
  have := eql_ratio hE hr hr (u := u) (v := v)
  rwa [RQ.beq_self] at this
end Go.Proofs.YtjkgmglmgndaoaaGreatDoor
