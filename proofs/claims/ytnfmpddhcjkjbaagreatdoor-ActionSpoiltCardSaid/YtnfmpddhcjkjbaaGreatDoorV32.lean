/- walks: the law of an action's effects; no condition. -/
import Derived.Test.YtnfmpddhcjkjbaaGreatDoorV31
namespace Go.Proofs.YtnfmpddhcjkjbaaGreatDoor
open Go Go.RowKit Go.SX
/-- is what an action makes of a holding alike -/
def EF.beq (x y : EF) : Bool := decide (x.ins = y.ins) && ((x.qty == y.qty) && ((x.cash == y.cash) && true))
theorem EF.beq_self (x : EF) : x.beq x = true := by simp [EF.beq]
set_option maxRecDepth 100000 in
theorem eq_ef_raw {d : Nat} (x y : EF) (w : World) : (Op.equalIn (d + 1 + 1) 31 (.agg x.A) (.agg y.A)).run Tryz.prog w = .ok (x.beq y) w := by
  rw [run_equalIn_struct w (d + 1) 31 _ _ (by simp only [Program.fieldsOf, Tryz.underlying31]) (by kernel_rfl)]
  rw [show (Tryz.prog.fieldsOf 31).toList = [⟨"Instrument", 9, 0, false, "", "", 0⟩, ⟨"Quantity", 3, 1, false, "", "", 16⟩, ⟨"Cash", 3, 2, false, "", "", 24⟩] from by simp only [Program.fieldsOf, Tryz.underlying31]]
  refine eqF_cons (by decide) (part_cell tok9 rfl rfl w) (part_cell tok9 rfl rfl w) (eq_str _ _ w) fun _ => ?_
  refine eqF_cons (by decide) (part_cell tok3 rfl rfl w) (part_cell tok3 rfl rfl w) (eq_int64 _ Tryz.underlying3 _ _ w) fun _ => ?_
  exact eqF_cons (by decide) (part_cell tok3 rfl rfl w) (part_cell tok3 rfl rfl w) (eq_int64 _ Tryz.underlying3 _ _ w) fun _ => eqF_nil
theorem guard_ef : Tryz.prog.eqGuardType Tryz.prog.depth 31 = false := by kernel_rfl
theorem eql_ef {E : Env} (hE : E.P = Tryz.prog) (x y : EF) {u v : Operand} : Runs E (do eqGuard .eql 31 u v (.agg x.A) (.agg y.A); binOp .eql 31 (.agg x.A) (.agg y.A)) (.bool (x.beq y)) :=
  runs_eql (by rw [hE]; exact guard_ef) fun w => by rw [hE]; exact eq_ef_raw x y w
theorem RQ.beq_self (r : RQ) : r.beq r = true := (r.beq_iff r).mpr rfl
set_option smartUnfolding false in
set_option maxRecDepth 100000 in
theorem made_of {n d : Int} (h1 : -9223372036854775808 ≤ n) (h2 : n ≤ 9223372036854775807) (h3 : -9223372036854775808 ≤ d) (h4 : d ≤ 9223372036854775807) : Pure Tryz.prog 24 [SV.c (.int .i64 n), SV.c (.int .i64 d)] (.agg (mkQ n d).1.A) := by
  refine sx_pure tt_ok mixed at24 _ _ rfl rfl fun w => ?_
  exact .inl ⟨_, of_r h1 h2 h3 h4, RQ.A_fits _, RQ.A_fits _, rfl, trivial⟩
def splitA (n d : Int) (r : RQ) : AC := ⟨1, [115], [65, 67, 77, 69], [], 5, n, d, r, [85, 83, 68], 1, false⟩
set_option maxRecDepth 100000 in
theorem fill_split (n d : Int) (r : RQ) {pl : List (Nat × Nat)} (hpl : pl = [(0, 1), (1, 1), (2, 1), (3, 1), (4, 1), (5, 1), (6, 1), (7, 66), (73, 1), (74, 1), (75, 1)]) : Instr.fill (fun k => pl[k]?) ti29.zero [(0, .int .i64 1), (1, .string (S [115])), (2, .string (S [65, 67, 77, 69])), (4, .int .i64 5), (5, .int .i64 n), (6, .int .i64 d), (7, .agg r.A), (8, .string (S [85, 83, 68])), (9, .int .i64 1)] = some (splitA n d r).A := by
  subst hpl
  kernel_rfl
def divA (r : RQ) : AC := ⟨2, [100], [65, 67, 77, 69], [], 5, 0, 0, r, [85, 83, 68], 1, false⟩
set_option maxRecDepth 100000 in
theorem fill_div (r : RQ) {pl : List (Nat × Nat)} (hpl : pl = [(0, 1), (1, 1), (2, 1), (3, 1), (4, 1), (5, 1), (6, 1), (7, 66), (73, 1), (74, 1), (75, 1)]) : Instr.fill (fun k => pl[k]?) ti29.zero [(0, .int .i64 2), (1, .string (S [100])), (2, .string (S [65, 67, 77, 69])), (4, .int .i64 5), (7, .agg r.A), (8, .string (S [85, 83, 68])), (9, .int .i64 1)] = some (divA r).A := by
  subst hpl
  kernel_rfl
set_option smartUnfolding false in
set_option maxRecDepth 100000 in
theorem split_f (n d : Int) (r : RQ) : Pure Tryz.prog 26 [SV.c (.int .i64 n), SV.c (.int .i64 d), SV.c (.agg r.A)] (.agg (splitA n d r).A) := by
  refine sx_pure tt_ok mixed at26 _ _ rfl rfl fun w => ?_
  exact ⟨r.A_size, _, fill_split n d r rfl, AC.fits _, rfl, trivial⟩
theorem splitA_in {n d : Int} {r : RQ} (hr : r.In) (h1 : -9223372036854775808 ≤ n) (h2 : n ≤ 9223372036854775807) (h3 : -9223372036854775808 ≤ d) (h4 : d ≤ 9223372036854775807) : (splitA n d r).In := ⟨hr, by simp [splitA], by simp [splitA], by simp [splitA], by simp [splitA], ⟨h1, h2⟩, ⟨h3, h4⟩⟩
theorem divA_in {r : RQ} (hr : r.In) : (divA r).In := ⟨hr, by simp [divA], by simp [divA], by simp [divA], by simp [divA], by simp [divA], by simp [divA]⟩
set_option maxRecDepth 100000 in
theorem known_1 : applyA (splitA 3 2 (mkQ 10 1).1) 7 = (⟨[65, 67, 77, 69], 10, 500⟩, 0) := by kernel_rfl
set_option maxRecDepth 100000 in
theorem known_2 : applyA (divA (mkQ 1 8).1) 7 = (⟨[65, 67, 77, 69], 7, 88⟩, 0) := by kernel_rfl
set_option maxRecDepth 100000 in
theorem known_3 : adjustA (splitA 3 2 (mkQ 10 1).1) (mkQ 30 1).1 = ((mkQ 20 1).1, 0) := by kernel_rfl
theorem eqs_ef {E : Env} (hE : E.P = Tryz.prog) (x : EF) {u v : Operand} : Runs E (do eqGuard .eql 31 u v (.agg x.A) (.agg x.A); binOp .eql 31 (.agg x.A) (.agg x.A)) (.bool true) := by
  have := eql_ef hE x x (u := u) (v := v)
  rwa [EF.beq_self] at this
theorem eqs_ratio {E : Env} (hE : E.P = Tryz.prog) {r : RQ} (hr : r.In) {u v : Operand} : Runs E (do eqGuard .eql 27 u v (.agg r.A) (.agg r.A); binOp .eql 27 (.agg r.A) (.agg r.A)) (.bool true) := by
  have := eql_ratio hE hr hr (u := u) (v := v)
  rwa [RQ.beq_self] at this
set_option smartUnfolding false in
set_option maxRecDepth 100000 in
set_option maxHeartbeats 2000000 in
theorem known_f : Pure Tryz.prog 15 [] (.bool true) := by
  refine sx_pure tt_ok mixed at15 _ _ rfl rfl fun w => ?_
  have o1 := made_of (n := 10) (d := 1) (by decide) (by decide) (by decide) (by decide)
  have o2 := made_of (n := 1) (d := 8) (by decide) (by decide) (by decide) (by decide)
  have o3 := made_of (n := 30) (d := 1) (by decide) (by decide) (by decide) (by decide)
  have o4 := made_of (n := 20) (d := 1) (by decide) (by decide) (by decide) (by decide)
  have s1 := splitA_in (n := 3) (d := 2) (mkQ_in 10 1) (by decide) (by decide) (by decide) (by decide)
  have d1 := divA_in (mkQ_in 1 8)
  have a1 := apply_z s1 7
  rw [known_1] at a1
  have a2 := apply_z d1 7
  rw [known_2] at a2
  have a3 := adjust_z s1 (mkQ_in 30 1)
  rw [known_3] at a3
  have sp := split_f 3 2 (mkQ 10 1).1
  have q4 := mkQ_in 20 1
  generalize mkQ 10 1 = x1 at *
  generalize mkQ 1 8 = x2 at *
  generalize mkQ 30 1 = x3 at *
  generalize mkQ 20 1 = x4 at *
  refine .inl ⟨_, o1, .inl ⟨_, sp, .inl ⟨_, a1, EF.fits _, .inl ⟨_, o2, _, fill_div x2.1 rfl, AC.fits _, .inl ⟨_, a2, EF.fits _, .inl ⟨_, o1, .inl ⟨_, sp, .inl ⟨_, o3, .inl ⟨_, a3, RQ.A_fits _, ?_⟩⟩⟩⟩⟩⟩⟩⟩⟩
  have fe : ∀ (x : EF), Instr.fill (fun k => [(0, 1), (1, 1), (2, 1)][k]?) ti31.zero [(0, .string (S x.ins)), (1, .int .i64 x.qty), (2, .int .i64 x.cash)] = some x.A := fun x => fill_ef x rfl
  exact ⟨fun _ => ⟨_, fill_ef ⟨[65, 67, 77, 69], 10, 500⟩ rfl, _, eqs_ef rfl ⟨[65, 67, 77, 69], 10, 500⟩, fun _ => ⟨fun _ => ⟨_, fill_ef ⟨[65, 67, 77, 69], 7, 88⟩ rfl, _, eqs_ef rfl ⟨[65, 67, 77, 69], 7, 88⟩, fun _ => ⟨fun _ => .inl ⟨_, o4, _, eqs_ratio rfl q4, by kernel_rfl, rfl, trivial⟩, nofun⟩, nofun⟩, nofun⟩, nofun⟩, nofun⟩
theorem adjust_in {a : AC} (ha : a.In) {r : RQ} (hr : r.In) : (adjustA a r).1.In := by
  unfold adjustA
  split
  · exact ⟨zero_lt, zero_lt⟩
  · split
    · exact sumQ_in _ _ _
    · exact mulQ_in _ _
set_option smartUnfolding false in
set_option maxRecDepth 100000 in
set_option maxHeartbeats 2000000 in
theorem actionExact_f {a : AC} (ha : a.In) (q : Int) {r : RQ} (hr : r.In) : Pure Tryz.prog 3 [SV.c (.agg a.A), SV.c (.int .i64 q), SV.c (.agg r.A)] (.bool true) := by
  refine sx_pure tt_ok mixed at3 _ _ rfl rfl fun w => ?_
  have a1 := apply_z ha q
  have a2 := apply_r ha q
  have a3 := adjust_z ha hr
  have a4 := adjust_r ha hr
  have i3 : (adjustA a r).1.In := adjust_in ha hr
  generalize applyA a q = x at *
  generalize adjustA a r = y at *
  obtain ⟨x, e⟩ := x
  obtain ⟨y, f⟩ := y
  refine ⟨a.size, r.A_size, .inl ⟨_, a1, EF.fits _, .inl ⟨_, a2, EF.fits _, .inl ⟨_, a3, RQ.A_fits _, .inl ⟨_, a4, RQ.A_fits _, .inl ⟨_, known_f, ?_⟩⟩⟩⟩⟩⟩
  exact ⟨fun _ => ⟨_, eqs_ef rfl x, fun _ => ⟨fun _ => ⟨_, eqs_ratio rfl i3, fun _ => ⟨bv (beq_self_eq_true f), trivial⟩, nofun⟩, fun h => absurd h (by rw [show ((e : Int) == e) = true from beq_self_eq_true e]; decide)⟩, nofun⟩, nofun⟩
end Go.Proofs.YtnfmpddhcjkjbaaGreatDoor
