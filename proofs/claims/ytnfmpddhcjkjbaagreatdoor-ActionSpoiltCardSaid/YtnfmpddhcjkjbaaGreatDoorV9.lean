/- walks: equality of rows; no condition. -/
import Derived.Test.YtnfmpddhcjkjbaaGreatDoorV8
namespace Go.Proofs.YtnfmpddhcjkjbaaGreatDoor
open Go Go.RowKit Go.SX
theorem part_agg {P : Program} {e : TypeId} {i : TI} (h : TIok P e i) (hr : i.row = true) (xs : Array Value) (off : Nat) (w : World) : (part e xs off).run P w = .ok (.agg (xs.extract off (off + i.size))) w := by
  simp [part, run_isAgg h, run_sizeOf h, hr]
theorem part_cell {P : Program} {e : TypeId} {i : TI} (h : TIok P e i) (hr : i.row = false) {xs : Array Value} {off : Nat} {v : Value} (hx : xs[off]? = some v) (w : World) : (part e xs off).run P w = .ok v w := by
  simp [part, run_isAgg h, hr, hx]
theorem eqF_cons {P : Program} {d : Nat} {xs ys : Array Value} {f : Field} {fs : List Field} {a b : Value} {r s : Bool} {w : World} (hn : f.name ≠ "_") (ha : (part f.type xs f.offset).run P w = .ok a w) (hb : (part f.type ys f.offset).run P w = .ok b w) (hr : (Op.equalIn d f.type a b).run P w = .ok r w) (hs : r = true → (Op.eqFields d xs ys fs).run P w = .ok s w) :
    (Op.eqFields d xs ys (f :: fs)).run P w = .ok (r && s) w := by
  simp only [Op.eqFields, if_pos hn, Sem.run_bind, ha, hb, hr, Result.andThen_ok]
  cases r
  · simp
  · simpa using hs rfl
theorem eqF_nil {P : Program} {d : Nat} {xs ys : Array Value} {w : World} : (Op.eqFields d xs ys []).run P w = .ok true w := rfl
theorem and_true_r (a : Bool) : a = (a && true) := by simp
theorem eq_int_raw {d : Nat} {a b : Bool} {N M : Nat} (hN : N < BB ^ 32) (hM : M < BB ^ 32) (w : World) : (Op.equalIn (d + 1 + 1 + 1) 25 (.agg (iA a N)) (.agg (iA b M))).run Tryz.prog w = .ok (a == b && (decide (N = M) && true)) w := by
  rw [run_equalIn_struct w (d + 1 + 1) 25 _ _ (by simp only [Program.fieldsOf, Tryz.underlying25]) (by kernel_rfl)]
  rw [show (Tryz.prog.fieldsOf 25).toList = [⟨"Neg", 4, 0, false, "", "", 0⟩, ⟨"Mag", 23, 1, false, "", "", 4⟩] from by simp only [Program.fieldsOf, Tryz.underlying25]]
  refine eqF_cons (by decide) (part_cell tok4 rfl iA_neg w) (part_cell tok4 rfl iA_neg w) (run_equalIn_bool' w _ 4 a b Tryz.underlying4) fun _ => ?_
  refine eqF_cons (by decide) (part_agg tok23 rfl _ _ w) (part_agg tok23 rfl _ _ w) ?_ fun _ => eqF_nil
  rw [show (1 : Nat) + ti23.size = 33 from rfl, iA_mag, iA_mag]
  exact eq_mag hN hM 23 Tryz.underlying23 w
theorem eA_inj {x y : Int} : (decide (x < 0) == decide (y < 0) && (decide (x.natAbs = y.natAbs) && true)) = decide (x = y) := by
  rw [Bool.eq_iff_iff]
  simp only [Bool.and_eq_true, beq_iff_eq, decide_eq_true_eq, and_true, decide_eq_decide]
  omega
theorem eq_int {d : Nat} {x y : Int} (hx : x.natAbs < BB ^ 32) (hy : y.natAbs < BB ^ 32) (w : World) : (Op.equalIn (d + 1 + 1 + 1) 25 (.agg (eA x)) (.agg (eA y))).run Tryz.prog w = .ok (decide (x = y)) w := by
  rw [← eA_inj]; exact eq_int_raw hx hy w
theorem guard_int : Tryz.prog.eqGuardType Tryz.prog.depth 25 = false := by kernel_rfl
theorem eql_int {E : Env} (hE : E.P = Tryz.prog) {x y : Int} (hx : x.natAbs < BB ^ 32) (hy : y.natAbs < BB ^ 32) {u v : Operand} : Runs E (do eqGuard .eql 25 u v (.agg (eA x)) (.agg (eA y)); binOp .eql 25 (.agg (eA x)) (.agg (eA y))) (.bool (decide (x = y))) :=
  runs_eql (by rw [hE]; exact guard_int) fun w => by rw [hE]; exact eq_int hx hy w
end Go.Proofs.YtnfmpddhcjkjbaaGreatDoor
