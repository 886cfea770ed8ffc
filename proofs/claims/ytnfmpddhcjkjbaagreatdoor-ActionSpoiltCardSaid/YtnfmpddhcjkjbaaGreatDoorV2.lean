/- walks: signs and magnitudes; no condition. -/
import Derived.Test.YtnfmpddhcjkjbaaGreatDoorV1
import Derived.Laws.StructEq
namespace Go.Proofs.YtnfmpddhcjkjbaaGreatDoor
open Go Go.RowKit Go.SX
section
open Go.Op
theorem range_go {P : Program} (f : Nat → Sem Bool) (g : Nat → Bool) (w : World) : ∀ (l : List Nat), (∀ i, i ∈ l → (f i).run P w = .ok (g i) w) →
    (forIn l ((none : Option Bool), ()) (fun i _ => do
      let b ← f i
      if (!b) = true then pure (ForInStep.done (some false, ())) else pure (ForInStep.yield (none, ())))).run P w
      = .ok (if l.all g then (none, ()) else (some false, ())) w
  | [], _ => by simp
  | i :: l, h => by
    rw [List.forIn_cons]
    have h1 := h i (by simp)
    have ih := range_go f g w l (fun j hj => h j (by simp [hj]))
    cases hg : g i
    · rw [hg] at h1
      simp [h1, hg]
    · rw [hg] at h1
      simp only [Sem.run_bind, h1, Result.andThen_ok, Bool.not_true, Bool.false_eq_true, if_false, Sem.run_pure, List.all_cons, hg, Bool.true_and]
      exact ih
theorem run_part_one {P : Program} {w : World} {e : TypeId} {k : IntKind} (he : P.underlying e = some (.int k)) {xs : Array Value} {off : Nat} {v : Value} (hx : xs[off]? = some v) : (part e xs off).run P w = .ok v w := by
  have ha : (isAgg e).run P w = .ok false w := by
    unfold isAgg
    rw [Sem.run_bind, run_underlying he w]
    rfl
  simp [part, ha, hx]
theorem run_equalIn_ints {P : Program} (w : World) (d : Nat) (t e : TypeId) (n : Nat) (k : IntKind) (i : TypeInfo) (xs ys : Array Value) (x y : Nat → Int) (ht : P.underlying t = some (.array n e)) (he : P.underlying e = some (.int k)) (hi : P.info? e = some i) (hs : i.size = 1)
    (hx : ∀ j, j < n → xs[j]? = some (.int k (x j))) (hy : ∀ j, j < n → ys[j]? = some (.int k (y j))) :
  (Op.equalIn (d + 1 + 1) t (.agg xs) (.agg ys)).run P w = .ok ((List.range n).all fun j => x j == y j) w := by
  rw [Op.equalIn]
  simp only [Sem.run_bind, run_underlying ht, Result.andThen_ok]
  have h1 : (sizeOf e).run P w = .ok 1 w := by simp [sizeOf, typeInfo, hi, hs]
  rw [h1]
  simp only [Result.andThen_ok]
  rw [Std.Legacy.Range.forIn_eq_forIn_range']
  have h2 := range_go (P := P) (fun j => do
      let a ← part e xs (j * 1)
      let b ← part e ys (j * 1)
      equalIn (d + 1) e a b) (fun j => x j == y j) w (List.range n) (fun j hj => by
    have hj : j < n := by simpa using hj
    simp only [Nat.mul_one, Sem.run_bind, run_part_one he (hx j hj), run_part_one he (hy j hj), Result.andThen_ok]
    exact run_equalIn_int w d e k k _ _ he)
  simp only [bind_assoc] at h2
  have e3 : List.range' ([:n] : Std.Legacy.Range).start ([:n] : Std.Legacy.Range).size ([:n] : Std.Legacy.Range).step = List.range n := by simp [List.range_eq_range', Std.Legacy.Range.size]
  rw [e3, h2]
  simp only [Result.andThen_ok]
  cases (List.range n).all fun j => x j == y j <;> simp

end


/-- the first step of an equality -/
theorem run_guard {P : Program} {op : BinOp} {t : TypeId} {x y : Operand} {A B : Array Value} (h : P.eqGuardType P.depth t = false) (w : World) : (eqGuard op t x y (.agg A) (.agg B)).run P w = .ok () w := by
  unfold eqGuard
  cases op <;> simp [program, Sem.run, h]
theorem runs_neq {E : Env} {t : TypeId} {x y : Operand} {A B : Array Value} {b : Bool} (hg : E.P.eqGuardType E.P.depth t = false) (h : ∀ w, (Op.equalIn 10000 t (.agg A) (.agg B)).run E.P w = .ok b w) : Runs E (do eqGuard .neq t x y (.agg A) (.agg B); binOp .neq t (.agg A) (.agg B)) (.bool (!b)) := fun w _ => by
  rw [Sem.run_bind, run_guard hg]
  simp only [Result.andThen_ok]
  have : binOp .neq t (.agg A) (.agg B) = (do pure (.bool (!(← Op.equal t (.agg A) (.agg B))))) := rfl
  rw [this, Sem.run_bind]
  have h2 : (Op.equal t (.agg A) (.agg B)).run E.P w = .ok b w := h w
  rw [h2]
  simp
theorem runs_eql {E : Env} {t : TypeId} {x y : Operand} {A B : Array Value} {b : Bool} (hg : E.P.eqGuardType E.P.depth t = false) (h : ∀ w, (Op.equalIn 10000 t (.agg A) (.agg B)).run E.P w = .ok b w) : Runs E (do eqGuard .eql t x y (.agg A) (.agg B); binOp .eql t (.agg A) (.agg B)) (.bool b) := fun w _ => by
  rw [Sem.run_bind, run_guard hg]
  simp only [Result.andThen_ok]
  have : binOp .eql t (.agg A) (.agg B) = (do pure (.bool (← Op.equal t (.agg A) (.agg B)))) := rfl
  rw [this, Sem.run_bind]
  have h2 : (Op.equal t (.agg A) (.agg B)).run E.P w = .ok b w := h w
  rw [h2]
  simp
theorem guard_mag : Tryz.prog.eqGuardType Tryz.prog.depth 121 = false := by kernel_rfl
set_option smartUnfolding false in
set_option maxRecDepth 100000 in
theorem eq_mag {d : Nat} {N M : Nat} (hN : N < BB ^ 32) (hM : M < BB ^ 32) (t : TypeId) (ht : Tryz.prog.underlying t = some (.array 32 22)) (w : World) : (Op.equalIn (d + 1 + 1) t (.agg (mA N)) (.agg (mA M))).run Tryz.prog w = .ok (decide (N = M)) w := by
  obtain ⟨i, hi, hs⟩ : ∃ i, Tryz.prog.info? 22 = some i ∧ i.size = 1 := Option.map_eq_some_iff.1 (tok22 : TIok _ _ _).size
  rw [run_equalIn_ints w d t 22 32 .u32 i (mA N) (mA M) (fun j => dg N j) (fun j => dg M j) ht Tryz.underlying22 hi hs (fun j hj => mA_get hj) (fun j hj => mA_get hj)]
  congr 1
  rw [Bool.eq_iff_iff]
  simp only [List.all_eq_true, List.mem_range, decide_eq_true_eq, beq_iff_eq]
  constructor
  · intro h
    exact dg_ext hN hM fun i hi => by have := h i hi; omega
  · intro h; subst h; intros; rfl
theorem neq_mag {E : Env} (hE : E.P = Tryz.prog) {N M : Nat} (hN : N < BB ^ 32) (hM : M < BB ^ 32) {x y : Operand} : Runs E (do eqGuard .neq 121 x y (.agg (mA N)) (.agg (mA M)); binOp .neq 121 (.agg (mA N)) (.agg (mA M))) (.bool (!decide (N = M))) :=
  runs_neq (by rw [hE]; exact guard_mag) fun w => by rw [hE]; exact eq_mag hN hM _ Tryz.underlying121 w
theorem eql_mag {E : Env} (hE : E.P = Tryz.prog) {N M : Nat} (hN : N < BB ^ 32) (hM : M < BB ^ 32) {x y : Operand} : Runs E (do eqGuard .eql 121 x y (.agg (mA N)) (.agg (mA M)); binOp .eql 121 (.agg (mA N)) (.agg (mA M))) (.bool (decide (N = M))) :=
  runs_eql (by rw [hE]; exact guard_mag) fun w => by rw [hE]; exact eq_mag hN hM _ Tryz.underlying121 w
theorem zero_lt : 0 < BB ^ 32 := pow_pos' 32
theorem mA_zero : Array.replicate 32 (Value.int .u32 0) = mA 0 := rfl
theorem some_eq {α : Type} {a b : α} (h : a = b) : some a = some b := by rw [h]
/-- the parts of a composite value fill it -/
def placed (pl : Nat → Option (Nat × Nat)) : Nat → Nat → List Value → Prop
  | _, _, [] => True
  | k, o, v :: r => pl k = some (o, v.cells.size) ∧ placed pl (k + 1) (o + v.cells.size) r
def catV : List Value → Array Value
  | [] => #[]
  | v :: r => v.cells ++ catV r
def numbered : Nat → List Value → List (Nat × Value)
  | _, [] => []
  | k, v :: r => (k, v) :: numbered (k + 1) r
theorem foldl_splice : ∀ (l : List Value) (off : Nat) (A : Array Value) (i : Nat), (l.zipIdx i).foldl (fun cs (c, j) => cs.setIfInBounds (off + j) c) A = splice A (off + i) l
  | [], _, _, _ => rfl
  | v :: r, off, A, i => by
    simp only [List.zipIdx_cons, List.foldl_cons, splice]
    rw [foldl_splice r off _ (i + 1)]; rfl
theorem splice_mid (P0 V R : Array Value) (hR : V.size ≤ R.size) : splice (P0 ++ R) P0.size V.toList = P0 ++ V ++ R.extract V.size R.size := by
  apply Array.ext_getElem?
  intro j
  rw [splice_get]
  by_cases h1 : j < P0.size
  · rw [if_pos (.inl h1), Array.getElem?_append_left h1, Array.append_assoc, Array.getElem?_append_left h1]
  · by_cases h2 : P0.size + V.size ≤ j
    · rw [if_pos (.inr (by simpa using h2)), Array.getElem?_append_right (by omega), Array.getElem?_append_right (by simp; omega), Array.getElem?_extract]
      simp only [Array.size_append]
      split
      · congr 1; omega
      · rw [Array.getElem?_eq_none (by omega)]
    · rw [if_neg (by simp; omega), if_pos (by simp; omega), Array.getElem?_append_left (by simp; omega), Array.getElem?_append_right (by omega)]
      simp
theorem fill_cat (pl : Nat → Option (Nat × Nat)) : ∀ (vs : List Value) (k : Nat) (P0 R : Array Value), placed pl k P0.size vs → R.size = (catV vs).size → Instr.fill pl (P0 ++ R) (numbered k vs) = some (P0 ++ catV vs)
  | [], k, P0, R, _, hR => by
    have : R = #[] := by apply Array.eq_empty_of_size_eq_zero; simpa [catV] using hR
    subst this; rfl
  | v :: r, k, P0, R, ⟨h1, h2⟩, hR => by
    simp only [numbered, Instr.fill, h1]
    simp only [catV, Array.size_append] at hR
    have hc : ¬ (v.cells.size ≠ v.cells.size || P0.size + v.cells.size > (P0 ++ R).size) = true := by simp; omega
    rw [if_neg hc]
    have e : (v.cells.zipIdx.foldl (fun cs (c, j) => cs.setIfInBounds (P0.size + j) c) (P0 ++ R)) = P0 ++ v.cells ++ R.extract v.cells.size R.size := by
      have h3 := foldl_splice v.cells.toList P0.size (P0 ++ R) 0
      rw [Nat.add_zero] at h3
      rw [← splice_mid P0 v.cells R (by omega), ← h3, ← Array.foldl_toList, Array.toList_zipIdx]
    rw [e]
    have := fill_cat pl r (k + 1) (P0 ++ v.cells) (R.extract v.cells.size R.size) (by simpa using h2) (by simp; omega)
    rw [this, Array.append_assoc]; rfl
theorem fill_all {pl : Nat → Option (Nat × Nat)} {vs : List Value} {Z : Array Value} (h1 : placed pl 0 0 vs) (h2 : Z.size = (catV vs).size) : Instr.fill pl Z (numbered 0 vs) = some (catV vs) := by
  have := fill_cat pl vs 0 #[] Z h1 h2
  simpa using this
/-- the cells of a sign and a magnitude -/
def iA (neg : Bool) (N : Nat) : Array Value := #[.bool neg] ++ mA N
theorem iA_size (neg : Bool) (N : Nat) : (iA neg N).size = 33 := by simp [iA, mA_size]
theorem iA_fits (neg : Bool) (N : Nat) : Fits (iA neg N) 33 := ⟨iA_size _ _, by
  rw [iA, Array.all_append, (mA_fits N).one]; simp [Value.oneCell']⟩
theorem iA_neg {neg : Bool} {N : Nat} : (iA neg N)[0]? = some (.bool neg) := (Array.getElem?_append_left (by simp)).trans rfl
theorem iA_mag {neg : Bool} {N : Nat} : (iA neg N).extract 1 33 = mA N := by
  rw [iA, Array.extract_append]
  have := mA_size N
  simp [this]
theorem fill_int {neg : Bool} {N : Nat} {pl : List (Nat × Nat)} (hpl : pl = [(0, 1), (1, 32)]) {Z : Array Value} (hZ : Z.size = 33) : Instr.fill (fun k => pl[k]?) Z [(0, .bool neg), (1, .agg (mA N))] = some (iA neg N) := by
  subst hpl
  have := fill_all (pl := fun k => [(0, 1), (1, 32)][k]?) (vs := [.bool neg, .agg (mA N)]) (Z := Z) ⟨rfl, by simp [Value.cells, mA_size], trivial⟩ (by simp [catV, Value.cells, mA_size, hZ])
  rw [show catV [.bool neg, .agg (mA N)] = iA neg N by simp [catV, Value.cells, iA]] at this
  exact this
set_option smartUnfolding false in
set_option maxRecDepth 100000 in
theorem split_pure (neg : Bool) (N : Nat) (hN : N < BB ^ 32) : Pure Tryz.prog 90 [SV.c (.agg (iA neg N))] (.tuple #[.bool (neg && !decide (N = 0)), .agg (mA N)]) := by
  refine sx_pure tt_ok mixed at90 _ _ rfl rfl fun w => ?_
  refine ⟨iA_size _ _, by decide, _, iA_mag, mA_fits N, _, iA_neg, fun h => ?_, fun h => ?_⟩
  · subst h
    exact ⟨mA 0, some_eq mA_zero, _, neq_mag rfl hN zero_lt, mA_fits _, by kernel_rfl, rfl, trivial⟩
  · have h : neg = false := h
    subst h
    exact ⟨mA_fits _, by kernel_rfl, rfl, trivial⟩
set_option smartUnfolding false in
set_option maxRecDepth 100000 in
theorem made_pure (neg : Bool) (N : Nat) (hN : N < BB ^ 32) : Pure Tryz.prog 120 [SV.c (.bool neg), SV.c (.agg (mA N))] (.agg (iA (neg && !decide (N = 0)) N)) := by
  refine sx_pure tt_ok mixed at120 _ _ rfl rfl fun w => ?_
  refine ⟨mA_size _, fun h => ?_, fun h => ?_⟩
  · subst h
    exact ⟨mA 0, some_eq mA_zero, _, neq_mag rfl hN zero_lt, _, fill_int rfl rfl, iA_fits _ _, by kernel_rfl, rfl, trivial⟩
  · have h : neg = false := h
    subst h
    exact ⟨_, fill_int rfl rfl, iA_fits _ _, by kernel_rfl, rfl, trivial⟩
end Go.Proofs.YtnfmpddhcjkjbaaGreatDoor
