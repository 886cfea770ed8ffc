/- walks: actions; no condition. -/
import Derived.Test.YtnfmpddhcjkjbaaGreatDoorV15
namespace Go.Proofs.YtnfmpddhcjkjbaaGreatDoor
open Go Go.RowKit Go.SX
def RQ.beq (r s : RQ) : Bool := (r.a == s.a && (decide (r.N = s.N) && true)) && ((r.b == s.b && (decide (r.D = s.D) && true)) && true)
theorem RQ.beq_iff (r s : RQ) : r.beq s = true ↔ r = s := by
  obtain ⟨a, N, b, D⟩ := r
  obtain ⟨a', N', b', D'⟩ := s
  simp [RQ.beq]
  constructor
  · rintro ⟨⟨h1, h2⟩, h3, h4⟩; exact ⟨h1, h2, h3, h4⟩
  · rintro ⟨h1, h2, h3, h4⟩; exact ⟨⟨h1, h2⟩, h3, h4⟩
set_option maxRecDepth 100000 in
theorem eq_ratio_raw {d : Nat} {r s : RQ} (hr : r.In) (hs : s.In) (w : World) : (Op.equalIn (d + 1 + 1 + 1 + 1) 27 (.agg r.A) (.agg s.A)).run Tryz.prog w = .ok (r.beq s) w := by
  rw [run_equalIn_struct w (d + 1 + 1 + 1) 27 _ _ (by simp only [Program.fieldsOf, Tryz.underlying27]) (by kernel_rfl)]
  rw [show (Tryz.prog.fieldsOf 27).toList = [⟨"Num", 25, 0, false, "", "", 0⟩, ⟨"Den", 25, 33, false, "", "", 132⟩] from by simp only [Program.fieldsOf, Tryz.underlying27]]
  refine eqF_cons (a := .agg (iA r.a r.N)) (b := .agg (iA s.a s.N)) (by decide) ?_ ?_ (eq_int_raw hr.N hs.N w) fun _ => ?_
  · rw [part_agg tok25 rfl _ _ w]; exact congrArg (fun x => Result.ok (Value.agg x) w) r.cat_l
  · rw [part_agg tok25 rfl _ _ w]; exact congrArg (fun x => Result.ok (Value.agg x) w) s.cat_l
  refine eqF_cons (a := .agg (iA r.b r.D)) (b := .agg (iA s.b s.D)) (by decide) ?_ ?_ (eq_int_raw hr.D hs.D w) fun _ => eqF_nil
  · rw [part_agg tok25 rfl _ _ w]; exact congrArg (fun x => Result.ok (Value.agg x) w) r.cat_r
  · rw [part_agg tok25 rfl _ _ w]; exact congrArg (fun x => Result.ok (Value.agg x) w) s.cat_r
theorem guard_ratio : Tryz.prog.eqGuardType Tryz.prog.depth 27 = false := by kernel_rfl
theorem eql_ratio {E : Env} (hE : E.P = Tryz.prog) {r s : RQ} (hr : r.In) (hs : s.In) {u v : Operand} : Runs E (do eqGuard .eql 27 u v (.agg r.A) (.agg s.A); binOp .eql 27 (.agg r.A) (.agg s.A)) (.bool (r.beq s)) :=
  runs_eql (by rw [hE]; exact guard_ratio) fun w => by rw [hE]; exact eq_ratio_raw hr hs w
theorem neq_ratio {E : Env} (hE : E.P = Tryz.prog) {r s : RQ} (hr : r.In) (hs : s.In) {u v : Operand} : Runs E (do eqGuard .neq 27 u v (.agg r.A) (.agg s.A); binOp .neq 27 (.agg r.A) (.agg s.A)) (.bool (!(r.beq s))) :=
  runs_neq (by rw [hE]; exact guard_ratio) fun w => by rw [hE]; exact eq_ratio_raw hr hs w
def AC.beq (a b : AC) : Bool := (a.kind == b.kind) && (decide (a.key = b.key) && (decide (a.ins = b.ins) && (decide (a.into = b.into) && ((a.day == b.day) && ((a.num == b.num) && ((a.den == b.den) && (a.cash.beq b.cash && (decide (a.cur = b.cur) && ((a.known == b.known) && ((a.void == b.void) && true))))))))))
theorem eq_int64 {d : Nat} (t : TypeId) (ht : Tryz.prog.underlying t = some (.int .i64)) (x y : Int) (w : World) : (Op.equalIn (d + 1) t (.int .i64 x) (.int .i64 y)).run Tryz.prog w = .ok (x == y) w := run_equalIn_int w d t _ _ _ _ ht
theorem eq_str {d : Nat} (x y : List UInt8) (w : World) : (Op.equalIn (d + 1) 9 (.string (S x)) (.string (S y))).run Tryz.prog w = .ok (decide (x = y)) w := by
  rw [← S_beq]; exact run_equalIn_string w d 9 _ _ Tryz.underlying9
set_option maxRecDepth 100000 in
theorem eq_action_raw {d : Nat} {a b : AC} (ha : a.cash.In) (hb : b.cash.In) (w : World) : (Op.equalIn (d + 1 + 1 + 1 + 1 + 1) 29 (.agg a.A) (.agg b.A)).run Tryz.prog w = .ok (a.beq b) w := by
  rw [run_equalIn_struct w (d + 1 + 1 + 1 + 1) 29 _ _ (by simp only [Program.fieldsOf, Tryz.underlying29]) (by kernel_rfl)]
  rw [show (Tryz.prog.fieldsOf 29).toList = [⟨"Kind", 3, 0, false, "", "", 0⟩, ⟨"Key", 9, 1, false, "", "", 8⟩, ⟨"Instrument", 9, 2, false, "", "", 24⟩, ⟨"Into", 9, 3, false, "", "", 40⟩, ⟨"Day", 3, 4, false, "", "", 56⟩, ⟨"Num", 3, 5, false, "", "", 64⟩, ⟨"Den", 3, 6, false, "", "", 72⟩, ⟨"Cash", 27, 7, false, "", "", 80⟩, ⟨"Currency", 9, 73, false, "", "", 344⟩, ⟨"Known", 3, 74, false, "", "", 360⟩, ⟨"Void", 4, 75, false, "", "", 368⟩] from by simp only [Program.fieldsOf, Tryz.underlying29]]
  refine eqF_cons (by decide) (part_cell tok3 rfl a.g0 w) (part_cell tok3 rfl b.g0 w) (eq_int64 _ Tryz.underlying3 _ _ w) fun _ => ?_
  refine eqF_cons (by decide) (part_cell tok9 rfl a.g1 w) (part_cell tok9 rfl b.g1 w) (eq_str _ _ w) fun _ => ?_
  refine eqF_cons (by decide) (part_cell tok9 rfl a.g2 w) (part_cell tok9 rfl b.g2 w) (eq_str _ _ w) fun _ => ?_
  refine eqF_cons (by decide) (part_cell tok9 rfl a.g3 w) (part_cell tok9 rfl b.g3 w) (eq_str _ _ w) fun _ => ?_
  refine eqF_cons (by decide) (part_cell tok3 rfl a.g4 w) (part_cell tok3 rfl b.g4 w) (eq_int64 _ Tryz.underlying3 _ _ w) fun _ => ?_
  refine eqF_cons (by decide) (part_cell tok3 rfl a.g5 w) (part_cell tok3 rfl b.g5 w) (eq_int64 _ Tryz.underlying3 _ _ w) fun _ => ?_
  refine eqF_cons (by decide) (part_cell tok3 rfl a.g6 w) (part_cell tok3 rfl b.g6 w) (eq_int64 _ Tryz.underlying3 _ _ w) fun _ => ?_
  refine eqF_cons (a := .agg a.cash.A) (b := .agg b.cash.A) (by decide) ?_ ?_ (eq_ratio_raw ha hb w) fun _ => ?_
  · rw [part_agg tok27 rfl _ _ w]; exact congrArg (fun x => Result.ok (Value.agg x) w) a.gcash
  · rw [part_agg tok27 rfl _ _ w]; exact congrArg (fun x => Result.ok (Value.agg x) w) b.gcash
  refine eqF_cons (by decide) (part_cell tok9 rfl a.g73 w) (part_cell tok9 rfl b.g73 w) (eq_str _ _ w) fun _ => ?_
  refine eqF_cons (by decide) (part_cell tok3 rfl a.g74 w) (part_cell tok3 rfl b.g74 w) (eq_int64 _ Tryz.underlying3 _ _ w) fun _ => ?_
  refine eqF_cons (by decide) (part_cell tok4 rfl a.g75 w) (part_cell tok4 rfl b.g75 w) (run_equalIn_bool' w _ 4 _ _ Tryz.underlying4) fun _ => eqF_nil
theorem guard_action : Tryz.prog.eqGuardType Tryz.prog.depth 29 = false := by kernel_rfl
theorem eql_action {E : Env} (hE : E.P = Tryz.prog) {a b : AC} (ha : a.cash.In) (hb : b.cash.In) {u v : Operand} : Runs E (do eqGuard .eql 29 u v (.agg a.A) (.agg b.A); binOp .eql 29 (.agg a.A) (.agg b.A)) (.bool (a.beq b)) :=
  runs_eql (by rw [hE]; exact guard_action) fun w => by rw [hE]; exact eq_action_raw ha hb w
theorem neq_action {E : Env} (hE : E.P = Tryz.prog) {a b : AC} (ha : a.cash.In) (hb : b.cash.In) {u v : Operand} : Runs E (do eqGuard .neq 29 u v (.agg a.A) (.agg b.A); binOp .neq 29 (.agg a.A) (.agg b.A)) (.bool (!(a.beq b))) :=
  runs_neq (by rw [hE]; exact guard_action) fun w => by rw [hE]; exact eq_action_raw ha hb w
/-- a void action -/
def AC.nil (key : List UInt8) (known : Int) : AC := ⟨0, key, [], [], 0, 0, 0, ⟨false, 0, false, 0⟩, [], known, true⟩
set_option maxRecDepth 100000 in
theorem fill_void (key : List UInt8) (known : Int) {pl : List (Nat × Nat)} (hpl : pl = [(0, 1), (1, 1), (2, 1), (3, 1), (4, 1), (5, 1), (6, 1), (7, 66), (73, 1), (74, 1), (75, 1)]) : Instr.fill (fun k => pl[k]?) ti29.zero [(1, .string (S key)), (9, .int .i64 known), (10, .bool true)] = some (AC.nil key known).A := by
  subst hpl
  kernel_rfl
theorem fill_one1 {A Z : Array Value} {n : Nat} (hA : A.size = n) (hZ : Z.size = n) {pl : List (Nat × Nat)} (hpl : pl = [(0, n)]) : Instr.fill (fun k => pl[k]?) Z [(0, .agg A)] = some A := by
  subst hpl
  have := fill_all (pl := fun k => [(0, n)][k]?) (vs := [.agg A]) (Z := Z) ⟨by simp [Value.cells, hA], trivial⟩ (by simp [catV, Value.cells, hA, hZ])
  rw [show catV [.agg A] = A by simp [catV, Value.cells]] at this
  exact this
def insOk (l : List UInt8) : Bool := capAll true l && (decide (1 ≤ l.length) && decide (l.length ≤ 12))
def curOk (l : List UInt8) : Bool := capAll false l && (decide ((3 : Int) ≤ l.length) && decide ((l.length : Int) ≤ 3))
def hdrOk (a : AC) : Bool := !(((a.key.length : Nat) : Int) == 0) && (!decide (((a.key.length : Nat) : Int) > 64) && (!decide (a.known < 1) && !decide (a.known > 2147483647)))
def bodyOk (a : AC) : Bool := insOk a.ins && (!decide (a.day < 0) && (!decide (a.day > 73048) && (payOk a.cash && curOk a.cur)))
def kindOk (a : AC) : Bool :=
  if a.kind = 1 then decide (a.into = []) && (facOk a.num && facOk a.den)
  else if a.kind = 2 then decide (a.into = []) && ((a.num == 0) && ((a.den == 0) && decide (sgn a.cash.p > 0)))
  else if a.kind = 3 then insOk a.into && (!decide (a.into = a.ins) && (facOk a.num && facOk a.den))
  else false
def validA (a : AC) : Bool := hdrOk a && (if a.void then a.beq (.nil a.key a.known) else bodyOk a && kindOk a)
theorem nil_in : (⟨false, 0, false, 0⟩ : RQ).In := ⟨zero_lt, zero_lt⟩
set_option smartUnfolding false in
set_option maxRecDepth 100000 in
set_option maxHeartbeats 2000000 in
theorem valid_z {a : AC} (ha : a.In) : Pure Tryz.prog 82 [SV.c (.agg a.A)] (.bool (validA a)) := by
  refine sx_pure tt_ok mixed at82 _ _ rfl rfl fun w => ?_
  have no : hdrOk a = false → mkRes [.bool false] = .bool (validA a) := fun h => by rw [validA, h]; rfl
  have len : ∀ (E : Env), E.P = Tryz.prog → ∀ (ty : TypeId) (l : List UInt8) (cs : Array Bool) (w : World), OldW E w → (builtin .len #[9] ty cs #[.string (S l)]).run E.P w = .ok (.value (.int .i64 (l.length : Nat))) w := fun E hE ty l cs w _ => by rw [hE]; exact run_len_S Tryz.underlying9 w
  refine ⟨a.size, a.fits, _, a.g1, _, len _ rfl _ _ _, fun h1 => ⟨_, a.g1, _, len _ rfl _ _ _, fun h2 => ⟨_, a.g74, fun h3 => ⟨_, a.g74, fun h4 => ?_, fun h4 => ?_⟩, fun h3 => ?_⟩, fun h2 => ?_⟩, fun h1 => ?_⟩
  · have h4 : decide (a.known > 2147483647) = true := h4
    refine ⟨no ?_, trivial⟩
    rw [hdrOk, h4]; simp
  · have h1 : (((a.key.length : Nat) : Int) == 0) = false := h1
    have h2 : decide (((a.key.length : Nat) : Int) > 64) = false := h2
    have h3 : decide (a.known < 1) = false := h3
    have h4 : decide (a.known > 2147483647) = false := h4
    have hh : hdrOk a = true := by rw [hdrOk, h1, h2, h3, h4]; rfl
    have va : validA a = (if a.void then a.beq (.nil a.key a.known) else bodyOk a && kindOk a) := by rw [validA, hh, Bool.true_and]
    rw [va]
    refine ⟨_, a.g75, fun h5 => ?_, fun h5 => ?_⟩
    · have h5 : a.void = true := h5
      rw [if_pos h5]
      exact ⟨_, a.g1, _, a.g74, _, fill_void a.key a.known rfl, _, eql_action rfl ha.cash nil_in, rfl, trivial⟩
    · have h5 : ¬ (a.void = true) := by intro e; rw [e] at h5; cases h5
      rw [if_neg h5]
      have nob : bodyOk a = false → mkRes [.bool false] = .bool (bodyOk a && kindOk a) := fun h => by rw [h]; rfl
      have hp := payment_z ha.cash
      have hc := capitals_z a.cur 3 3 false ha.cur
      have hi : Pure Tryz.prog 115 [SV.c (.string (S a.ins))] (.bool (insOk a.ins)) := instrument_z a.ins ha.ins
      have hi2 : Pure Tryz.prog 115 [SV.c (.string (S a.into))] (.bool (insOk a.into)) := instrument_z a.into ha.into
      have hc : Pure Tryz.prog 117 [SV.c (.string (S a.cur)), SV.c (.int .i64 3), SV.c (.int .i64 3), SV.c (.bool false)] (.bool (curOk a.cur)) := hc
      have hs := sign_z ha.cash.num
      refine ⟨_, a.g2, .inl ⟨_, hi, fun q1 => ⟨_, a.g4, fun q2 => ⟨_, a.g4, fun q3 => ⟨by decide, _, a.gcash, .inl ⟨_, hp, fun q4 => ⟨_, a.g73, .inl ⟨_, hc, fun q5 => ?_, fun q5 => ?_⟩⟩, fun q4 => ?_⟩⟩, fun q3 => ?_⟩, fun q2 => ?_⟩, fun q1 => ?_⟩⟩
      · have q5 : curOk a.cur = false := bnt q5
        refine ⟨nob ?_, trivial⟩
        rw [bodyOk, q5]; simp
      · have q1 : insOk a.ins = true := of_bnf q1
        have q2 : decide (a.day < 0) = false := q2
        have q3 : decide (a.day > 73048) = false := q3
        have q4 : payOk a.cash = true := of_bnf q4
        have q5 : curOk a.cur = true := of_bnf q5
        have hb : bodyOk a = true := by rw [bodyOk, q1, q2, q3, q4, q5]; rfl
        rw [hb, Bool.true_and]
        have ein : ((S a.into).toList == (S []).toList) = decide (a.into = []) := S_beq _ []
        have ens : ((S a.into).toList == (S a.ins).toList) = decide (a.into = a.ins) := S_beq _ _
        refine ⟨_, a.g0, fun k1 => ⟨_, a.g3, fun k2 => ⟨_, a.g5, .inl ⟨_, factor_z _, fun k3 => ⟨_, a.g6, .inl ⟨_, factor_z _, bv ?_, trivial⟩⟩, fun k3 => ⟨bv ?_, trivial⟩⟩⟩, fun k2 => ⟨nofun, fun _ => ⟨bv ?_, trivial⟩⟩⟩, fun k1 => ⟨fun m1 => ⟨_, a.g3, fun k2 => ⟨_, a.g5, fun k3 => ⟨_, a.g6, fun k4 => ⟨by decide, _, a.gnum, .inl ⟨_, hs, bv ?_, trivial⟩⟩, fun k4 => ⟨bv ?_, trivial⟩⟩, fun k3 => ⟨nofun, fun _ => ⟨bv ?_, trivial⟩⟩⟩, fun k2 => ⟨nofun, fun _ => ⟨nofun, fun _ => ⟨bv ?_, trivial⟩⟩⟩⟩, fun m1 => ⟨fun n1 => ⟨_, a.g3, .inl ⟨_, hi2, fun k2 => ⟨_, a.g3, _, a.g2, fun k3 => ⟨_, a.g5, .inl ⟨_, factor_z _, fun k4 => ⟨_, a.g6, .inl ⟨_, factor_z _, bv ?_, trivial⟩⟩, fun k4 => ⟨bv ?_, trivial⟩⟩⟩, fun k3 => ⟨nofun, fun _ => ⟨bv ?_, trivial⟩⟩⟩, fun k2 => ⟨nofun, fun _ => ⟨nofun, fun _ => ⟨bv ?_, trivial⟩⟩⟩⟩⟩, fun n1 => ⟨bv ?_, trivial⟩⟩⟩⟩
        · have k2 := ein.symm.trans k2
          have k1 : a.kind = 1 := by simpa using k1
          have k3 : facOk a.num = true := k3
          rw [kindOk, if_pos k1, k2, k3, Bool.true_and, Bool.true_and]
        · have k2 := ein.symm.trans k2
          have k1 : a.kind = 1 := by simpa using k1
          have k3 : facOk a.num = false := k3
          rw [kindOk, if_pos k1, k3, Bool.false_and, Bool.and_false]
        · have k2 := ein.symm.trans k2
          have k1 : a.kind = 1 := by simpa using k1
          rw [kindOk, if_pos k1, k2]; rfl
        · have k2 := ein.symm.trans k2
          have k1 : ¬ a.kind = 1 := by intro e; rw [e] at k1; simp at k1
          have m1 : a.kind = 2 := by simpa using m1
          have k3 : (a.num == 0) = true := k3
          have k4 : (a.den == 0) = true := k4
          rw [kindOk, if_neg k1, if_pos m1, k2, k3, k4, Bool.true_and, Bool.true_and, Bool.true_and]
        · have k1 : ¬ a.kind = 1 := by intro e; rw [e] at k1; simp at k1
          have m1 : a.kind = 2 := by simpa using m1
          have k4 : (a.den == 0) = false := k4
          rw [kindOk, if_neg k1, if_pos m1, k4, Bool.false_and, Bool.and_false, Bool.and_false]
        · have k1 : ¬ a.kind = 1 := by intro e; rw [e] at k1; simp at k1
          have m1 : a.kind = 2 := by simpa using m1
          have k3 : (a.num == 0) = false := k3
          rw [kindOk, if_neg k1, if_pos m1, k3, Bool.false_and, Bool.and_false]
        · have k2 := ein.symm.trans k2
          have k1 : ¬ a.kind = 1 := by intro e; rw [e] at k1; simp at k1
          have m1 : a.kind = 2 := by simpa using m1
          rw [kindOk, if_neg k1, if_pos m1, k2]; rfl
        · have k1 : ¬ a.kind = 1 := by intro e; rw [e] at k1; simp at k1
          have m1 : ¬ a.kind = 2 := by intro e; rw [e] at m1; simp at m1
          have n1 : a.kind = 3 := by simpa using n1
          have k2 : insOk a.into = true := k2
          have k3 := bnt (ens ▸ k3)
          have k4 : facOk a.num = true := k4
          rw [kindOk, if_neg k1, if_neg m1, if_pos n1, k2, k3, k4]; rfl
        · have k1 : ¬ a.kind = 1 := by intro e; rw [e] at k1; simp at k1
          have m1 : ¬ a.kind = 2 := by intro e; rw [e] at m1; simp at m1
          have n1 : a.kind = 3 := by simpa using n1
          have k4 : facOk a.num = false := k4
          rw [kindOk, if_neg k1, if_neg m1, if_pos n1, k4, Bool.false_and, Bool.and_false, Bool.and_false]
        · have k1 : ¬ a.kind = 1 := by intro e; rw [e] at k1; simp at k1
          have m1 : ¬ a.kind = 2 := by intro e; rw [e] at m1; simp at m1
          have n1 : a.kind = 3 := by simpa using n1
          have k3 := of_bnf (ens ▸ k3)
          rw [kindOk, if_neg k1, if_neg m1, if_pos n1, k3, Bool.not_true, Bool.false_and, Bool.and_false]
        · have k1 : ¬ a.kind = 1 := by intro e; rw [e] at k1; simp at k1
          have m1 : ¬ a.kind = 2 := by intro e; rw [e] at m1; simp at m1
          have n1 : a.kind = 3 := by simpa using n1
          have k2 : insOk a.into = false := k2
          rw [kindOk, if_neg k1, if_neg m1, if_pos n1, k2]; rfl
        · have k1 : ¬ a.kind = 1 := by intro e; rw [e] at k1; simp at k1
          have m1 : ¬ a.kind = 2 := by intro e; rw [e] at m1; simp at m1
          have n1 : ¬ a.kind = 3 := by intro e; rw [e] at n1; simp at n1
          rw [kindOk, if_neg k1, if_neg m1, if_neg n1]
      · have q4 : payOk a.cash = false := bnt q4
        refine ⟨fun _ => ⟨nob ?_, trivial⟩, nofun⟩
        rw [bodyOk, q4]; simp
      · have q3 : decide (a.day > 73048) = true := q3
        refine ⟨nofun, fun _ => ⟨fun _ => ⟨nob ?_, trivial⟩, nofun⟩⟩
        rw [bodyOk, q3]; simp
      · have q2 : decide (a.day < 0) = true := q2
        refine ⟨nofun, fun _ => ⟨nofun, fun _ => ⟨fun _ => ⟨nob ?_, trivial⟩, nofun⟩⟩⟩
        rw [bodyOk, q2]; simp
      · have q1 : insOk a.ins = false := bnt q1
        refine ⟨nofun, fun _ => ⟨nofun, fun _ => ⟨nofun, fun _ => ⟨fun _ => ⟨nob ?_, trivial⟩, nofun⟩⟩⟩⟩
        rw [bodyOk, q1]; rfl
  · have h3 : decide (a.known < 1) = true := h3
    refine ⟨fun _ => ⟨no ?_, trivial⟩, nofun⟩
    rw [hdrOk, h3]; simp
  · have h2 : decide (((a.key.length : Nat) : Int) > 64) = true := h2
    refine ⟨nofun, fun _ => ⟨fun _ => ⟨no ?_, trivial⟩, nofun⟩⟩
    rw [hdrOk, h2]; simp
  · have h1 : (((a.key.length : Nat) : Int) == 0) = true := h1
    refine ⟨nofun, fun _ => ⟨nofun, fun _ => ⟨fun _ => ⟨no ?_, trivial⟩, nofun⟩⟩⟩
    rw [hdrOk, h1]; simp
/-- nothing -/
def AC.zero : AC := ⟨0, [], [], [], 0, 0, 0, ⟨false, 0, false, 0⟩, [], 0, false⟩
def ofA (a : AC) : AC × Int := if a.void || !validA a then (.zero, 170) else (a, 0)
set_option maxRecDepth 100000 in
theorem zero_eff : ti79.zero = AC.zero.A := by kernel_rfl
theorem zero_size : ti79.zero.size = 76 := by kernel_rfl
theorem zero_size2 : ti77.zero.size = 76 := by kernel_rfl
set_option smartUnfolding false in
set_option maxRecDepth 100000 in
set_option maxHeartbeats 2000000 in
theorem of_a {a : AC} (ha : a.In) : Pure Tryz.prog 46 [SV.c (.agg a.A)] (.tuple #[.agg (ofA a).1.A, .int .i64 (ofA a).2]) := by
  refine sx_pure tt_ok mixed at46 _ _ rfl rfl fun w => ?_
  have bad : a.void = true ∨ validA a = false → mkRes [.agg ti79.zero, .int .i64 170] = .tuple #[.agg (ofA a).1.A, .int .i64 (ofA a).2] := fun h => by
    have : ofA a = (.zero, 170) := by
      unfold ofA
      rcases h with h | h <;> rw [h] <;> simp
    rw [this, zero_eff]; rfl
  refine ⟨a.size, _, fill_one1 a.size zero_size2 rfl, a.fits, _, a.g75, fun h1 => .inl ⟨_, valid_z ha, fun h2 => ⟨ti79.zero, rfl, by rw [zero_eff]; exact AC.zero.fits, bad (.inr (bnt h2)), trivial⟩, fun h2 => ⟨_, fill_one1 a.size zero_size rfl, a.fits, ?_, trivial⟩⟩, fun h1 => ⟨fun _ => ⟨ti79.zero, rfl, by rw [zero_eff]; exact AC.zero.fits, bad (.inl h1), trivial⟩, nofun⟩⟩
  have h1 : a.void = false := h1
  have h2 := bnf h2
  have : ofA a = (a, 0) := by unfold ofA; rw [h1, h2]; simp
  rw [this]; rfl
def intoA (a : AC) : List UInt8 := if a.kind = 3 then a.into else a.ins
set_option smartUnfolding false in
set_option maxRecDepth 100000 in
theorem into_z (a : AC) : Pure Tryz.prog 51 [SV.c (.agg a.A)] (.string (S (intoA a))) := by
  refine sx_pure tt_ok mixed at51 _ _ rfl rfl fun w => ?_
  refine ⟨a.size, _, a.g0, fun h => ⟨_, a.g3, ?_, trivial⟩, fun h => ⟨_, a.g2, ?_, trivial⟩⟩
  · have h : a.kind = 3 := by simpa using h
    rw [intoA, if_pos h]; rfl
  · have h : ¬ a.kind = 3 := by intro e; rw [e] at h; simp at h
    rw [intoA, if_neg h]; rfl
/-- the new quantity, and what is paid -/
def pieQ (a : AC) (q : Int) : Int := if a.kind = 2 then q else q * a.num / a.den
def paidQ (a : AC) (q : Int) : RQ := if a.kind = 2 then .of q 1 else (mkQ (q * a.num % a.den) a.den).1
theorem paidQ_in (a : AC) {q : Int} (h0 : 0 ≤ q) (h1 : q ≤ 1000000000000000) : (paidQ a q).In := by
  unfold paidQ; split
  · exact ⟨i64_lt (by omega) (by omega), i64_lt (n := 1) (by omega) (by omega)⟩
  · exact mkQ_in _ _
set_option smartUnfolding false in
set_option maxRecDepth 100000 in
set_option maxHeartbeats 2000000 in
theorem pieces_z {a : AC} {q : Int} (h0 : 0 ≤ q) (h1 : q ≤ 1000000000000000) (hk : a.kind = 2 ∨ (1 ≤ a.num ∧ a.num ≤ 1000000 ∧ 1 ≤ a.den ∧ a.den ≤ 1000000)) : Pure Tryz.prog 47 [SV.c (.agg a.A), SV.c (.int .i64 q)] (.tuple #[.agg (eA (pieQ a q)), .agg (paidQ a q).A]) := by
  refine sx_pure tt_ok mixed at47 _ _ rfl rfl fun w => ?_
  have hq := fromInt_z q (by omega) (by omega)
  refine ⟨a.size, .inl ⟨_, hq, eA_fits _, _, a.g0, fun h => ?_, fun h => ?_⟩⟩
  · have h : a.kind = 2 := by simpa using h
    rw [pieQ, paidQ, if_pos h, if_pos h]
    exact .inl ⟨_, whole1_z (by omega) (by omega), eA_fits _, RQ.A_fits _, by kernel_rfl, rfl, trivial⟩
  · have h : ¬ a.kind = 2 := by intro e; rw [e] at h; simp at h
    rw [pieQ, paidQ, if_neg h, if_neg h]
    obtain ⟨n1, n2, d1, d2⟩ := hk.resolve_left h
    have hn := fromInt_z a.num (by omega) (by omega)
    have hd := fromInt_z a.den (by omega) (by omega)
    have hb : 0 ≤ q * a.num ∧ q * a.num ≤ 1000000000000000 * 1000000 := ⟨Int.mul_nonneg h0 (by omega), Int.mul_le_mul h1 n2 (by omega) (by omega)⟩
    have big : 1000000000000000000000 < BB ^ 32 := Nat.lt_of_lt_of_le (by decide : 1000000000000000000000 < BB ^ 3) (Nat.pow_le_pow_right BB_pos (by omega))
    have hm := mul_z (isI_e (i64_lt (n := q) (by omega) (by omega))) (isI_e (i64_lt (n := a.num) (by omega) (by omega)))
    rw [fitR, if_pos (by omega)] at hm
    have hdd := isI_e (i64_lt (n := a.den) (by omega) (by omega))
    have hdm := divmod_z (isI_e (z := q * a.num) (by omega)) hdd (by omega)
    have hr : (q * a.num % a.den).natAbs < BB ^ 32 := by
      have := Int.emod_nonneg (q * a.num) (show a.den ≠ 0 by omega)
      have := Int.emod_lt_of_pos (q * a.num) (show 0 < a.den by omega)
      omega
    have hmk := make_z (isI_e hr) hdd
    exact ⟨_, a.g5, .inl ⟨_, hn, .inl ⟨_, hm, eA_fits _, by kernel_rfl, _, a.g6, .inl ⟨_, hd, .inl ⟨_, hdm, eA_fits _, eA_fits _, by kernel_rfl, _, a.g6, .inl ⟨_, hd, .inl ⟨_, hmk, RQ.A_fits _, by kernel_rfl, eA_fits _, RQ.A_fits _, by kernel_rfl, rfl, trivial⟩⟩⟩⟩⟩⟩⟩
end Go.Proofs.YtnfmpddhcjkjbaaGreatDoor
