/- walks: the reference, decimals read and written; no condition. -/
import Derived.Test.YtnfmpddhcjkjbaaGreatDoorV27
namespace Go.Proofs.YtnfmpddhcjkjbaaGreatDoor
open Go Go.RowKit Go.SX
/-- the decimal with k places -/
def wrt (z : Int) (k : Nat) : List UInt8 :=
  (if z < 0 then [45] else []) ++ (if 0 < k then (padZ k (fmtN z.natAbs)).take ((padZ k (fmtN z.natAbs)).length - k) ++ (46 :: (padZ k (fmtN z.natAbs)).drop ((padZ k (fmtN z.natAbs)).length - k)) else padZ k (fmtN z.natAbs))
theorem fmtZ_nat (n : Nat) : fmtZ (n : Int) = fmtN n := by
  unfold fmtZ; rw [if_neg (by omega), Int.natAbs_natCast]
theorem pad_step {k i : Nat} {l : List UInt8} (h : i + l.length ≤ k) : (48 : UInt8) :: (List.replicate i 48 ++ l) = List.replicate (i + 1) 48 ++ l := by
  rw [List.replicate_succ]; rfl
set_option smartUnfolding false in
set_option maxRecDepth 100000 in
set_option maxHeartbeats 2000000 in
theorem written_r {A : Array Value} {z : Int} (h : IsI A z) {k : Nat} (hk : k ≤ 9) : Pure Tryz.prog 161 [SV.c (.agg A), SV.c (.int .i64 k)] (.string (S (wrt z k))) := by
  have hl : (fmtN z.natAbs).length ≤ 309 := fmtN_len (by omega) (Nat.lt_of_lt_of_le h.lt big309)
  have hab := abs_r h
  have hf := format_r (isI_e (z := (z.natAbs : Int)) (by simpa using h.lt))
  rw [fmtS, fmtZ_nat] at hf
  have hf : Pure Tryz.prog 178 [SV.c (.agg (eA (z.natAbs : Int)))] (.string (S (fmtN z.natAbs))) := hf
  have hs := sign_r h
  refine sx_pureC [4, 6] tt_ok mixed at161 _ _ rfl rfl fun w => ?_
  refine ⟨h.size, .inl ⟨_, hab, .inl ⟨_, hf, fun f m => f = [(1, SV.c (.int .i64 k)), (2, SV.ptr 2 0), (5, SV.c (.string (S (padZ k (fmtN z.natAbs)))))] ∧ m = [(2, Blk.row 25 33 A)], ?_, ?_⟩⟩⟩
  · refine ⟨fun q f m => ∃ i : Nat, q = k + 1 - i ∧ (i = 0 ∨ i + (fmtN z.natAbs).length ≤ k + 1) ∧ f = [(1, SV.c (.int .i64 k)), (2, SV.ptr 2 0), (5, SV.c (.string (S (List.replicate i 48 ++ fmtN z.natAbs))))] ∧ m = [(2, Blk.row 25 33 A)], k + 1, ⟨[(1, SV.c (.int .i64 k)), (2, SV.ptr 2 0), (5, SV.c (.string (S (List.replicate 0 48 ++ fmtN z.natAbs))))], [(2, Blk.row 25 33 A)], ⟨0, rfl, .inl rfl, rfl, rfl⟩, ⟨rfl, rfl, rfl, trivial⟩, ⟨rfl, trivial⟩, rfl⟩, ?_⟩
    rintro q f m ⟨i, rfl, hi, rfl, rfl⟩
    refine ⟨_, fun w _ => run_len_S Tryz.underlying9 w, fun h1 => ?_, fun h1 => ?_⟩
    · have h1 : i + (fmtN z.natAbs).length ≤ k := by
        have := of_decide_eq_true h1
        simp only [List.length_append, List.length_replicate] at this; omega
      have es : S [48] ++ S (List.replicate i 48 ++ fmtN z.natAbs) = S (List.replicate (i + 1) 48 ++ fmtN z.natAbs) := by
        rw [S_add, ← pad_step h1]; rfl
      refine ⟨by rw [S_size]; show 1 + _ ≤ _; simp only [List.length_append, List.length_replicate]; omega, k + 1 - (i + 1), _, _, by omega, ⟨i + 1, rfl, by omega, rfl, rfl⟩, ⟨rfl, rfl, c_str es, trivial⟩, ⟨rfl, trivial⟩, rfl⟩
    · have h1 : ¬ i + (fmtN z.natAbs).length ≤ k := by
        have := of_decide_eq_false h1
        simp only [List.length_append, List.length_replicate] at this; omega
      have e : List.replicate i 48 ++ fmtN z.natAbs = padZ k (fmtN z.natAbs) := by
        unfold padZ
        split
        · congr 2; omega
        · have : i = 0 := by omega
          subst this; rfl
      exact ⟨_, _, ⟨rfl, rfl⟩, ⟨rfl, rfl, c_str (by rw [e]), trivial⟩, ⟨rfl, trivial⟩, rfl⟩
  rintro f m ⟨rfl, rfl⟩
  have hpl := padZ_len k (fmtN z.natAbs)
  have hpl2 : (padZ k (fmtN z.natAbs)).length ≤ 1000 := by
    unfold padZ; split
    · simp only [List.length_append, List.length_replicate]; omega
    · omega
  unfold wrt
  generalize padZ k (fmtN z.natAbs) = s at *
  refine ⟨fun f m => ∃ t : List UInt8, t.length ≤ 2000 ∧ t = (if 0 < k then s.take (s.length - k) ++ (46 :: s.drop (s.length - k)) else s) ∧ f = [(2, SV.ptr 2 0), (5, SV.c (.string (S t)))] ∧ m = [(2, Blk.row 25 33 A)], ⟨fun h1 => ?_, fun h1 => ?_⟩, ?_⟩
  · have h1 : 0 < k := by have := of_decide_eq_true h1; omega
    have e2 : IntKind.i64.wrap ((s.length : Int) - (k : Nat)) = ((s.length - k : Nat) : Int) := by rw [i64_in (by omega)]; omega
    have e3 : S (s.take (s.length - k)) ++ S [46] = S (s.take (s.length - k) ++ [46]) := S_add _ _
    have e4 : S (s.take (s.length - k)) ++ S [46] ++ S (s.drop (s.length - k)) = S (s.take (s.length - k) ++ (46 :: s.drop (s.length - k))) := by
      rw [e3, S_add, List.append_assoc]; rfl
    refine ⟨_, fun w _ => run_len_S Tryz.underlying9 w, _, runs_hi Tryz.underlying9 _ e2 (by omega), by rw [S_size]; show _ + 1 ≤ _; simp only [List.length_take]; omega, _, fun w _ => run_len_S Tryz.underlying9 w, _, runs_lo Tryz.underlying9 _ e2 (by omega), ?_, by kernel_rfl, _, _, ⟨_, ?_, by rw [if_pos h1], rfl, rfl⟩, ⟨rfl, c_str e4, trivial⟩, ⟨rfl, trivial⟩, rfl⟩
    · show (S (s.take (s.length - k)) ++ S [46]).size + (S (s.drop (s.length - k))).size ≤ _
      rw [e3, S_size, S_size]
      simp only [List.length_append, List.length_take, List.length_drop, List.length_cons, List.length_nil]; omega
    · simp only [List.length_append, List.length_take, List.length_drop, List.length_cons]; omega
  · have h1 : ¬ 0 < k := by have := of_decide_eq_false h1; omega
    exact ⟨_, _, ⟨s, by omega, by rw [if_neg h1], rfl, rfl⟩, ⟨rfl, rfl, trivial⟩, ⟨rfl, trivial⟩, rfl⟩
  rintro f m ⟨t, htl, ht, rfl, rfl⟩
  rw [← ht]
  refine .inl ⟨_, hs, fun h1 => ⟨?_, ?_, trivial⟩, fun h1 => ⟨?_, trivial⟩⟩
  · show (S [45]).size + (S t).size ≤ _
    rw [S_size, S_size]; simp; omega
  · have h1 : decide (sgn z < 0) = true := h1
    rw [sgn_neg] at h1
    have e : S [45] ++ S t = S ([45] ++ t) := S_add _ _
    rw [if_pos (of_decide_eq_true h1), ← e]; rfl
  · have h1 : decide (sgn z < 0) = false := h1
    rw [sgn_neg] at h1
    rw [if_neg (of_decide_eq_false h1)]; rfl
def isD (b : UInt8) : Bool := decide (48 ≤ b.toNat) && decide (b.toNat ≤ 57)
/-- how many digits stand at the beginning -/
def digs : List UInt8 → Nat
  | [] => 0
  | b :: r => if isD b then digs r + 1 else 0
theorem digs_le : ∀ l : List UInt8, digs l ≤ l.length
  | [] => Nat.le_refl _
  | b :: r => by
    unfold digs
    split
    · have := digs_le r; simp; exact this
    · simp
theorem digs_of : ∀ (l : List UInt8) (n : Nat), n ≤ l.length → (∀ j, j < n → isD (l.getD j 0) = true) → (n = l.length ∨ isD (l.getD n 0) = false) → digs l = n
  | [], n, h, _, _ => by simp at h; subst h; rfl
  | b :: r, 0, _, _, h => by
    rcases h with h | h
    · simp at h
    · unfold digs
      have h : isD b = false := h
      rw [h]; rfl
  | b :: r, n + 1, hn, hd, h => by
    have h0 : isD b = true := hd 0 (by omega)
    unfold digs
    rw [h0, if_pos rfl, digs_of r n (by simpa using hn) (fun j hj => by have := hd (j + 1) (by omega); simpa using this) (by
      rcases h with h | h
      · left; simpa using h
      · right; simpa using h)]
theorem digs_all {l : List UInt8} (h : ∀ b ∈ l, isD b = true) : digs l = l.length := by
  induction l with
  | nil => rfl
  | cons b r ih =>
    unfold digs
    rw [h b (by simp), if_pos rfl, ih (fun x hx => h x (by simp [hx]))]
    rfl
theorem digs_app {l m : List UInt8} (h : ∀ b ∈ l, isD b = true) (hm : digs m = 0) : digs (l ++ m) = l.length := by
  induction l with
  | nil => simpa using hm
  | cons b r ih =>
    rw [List.cons_append]
    unfold digs
    rw [h b (by simp), if_pos rfl, ih (fun x hx => h x (by simp [hx]))]
    rfl
set_option smartUnfolding false in
set_option maxRecDepth 100000 in
set_option maxHeartbeats 1000000 in
theorem digits_r (l : List UInt8) (hl : l.length ≤ 9223372036854775807) : Pure Tryz.prog 179 [SV.c (.string (S l))] (.int .i64 (digs l : Nat)) := by
  refine sx_pure tt_ok mixed at179 _ _ rfl rfl fun w => ?_
  refine ⟨fun q f m => ∃ i : Nat, q = l.length - i ∧ i ≤ l.length ∧ (∀ j, j < i → isD (l.getD j 0) = true) ∧ f = [(0, SV.c (.string (S l))), (3, SV.c (.int .i64 i))] ∧ m = [], l.length, ⟨_, _, ⟨0, rfl, Nat.zero_le _, fun j hj => absurd hj (by omega), rfl, rfl⟩, ⟨rfl, rfl, trivial⟩, trivial, rfl⟩, ?_⟩
  rintro q f m ⟨i, rfl, hi, hd, rfl, rfl⟩
  refine ⟨_, fun w _ => run_len_S Tryz.underlying9 w, fun h1 => ?_, fun h1 => ⟨nofun, fun _ => ?_⟩⟩
  · have h1 : i < l.length := by have := of_decide_eq_true h1; omega
    have hx := runs_idx (E := (envP Tryz.prog tt Tryz.f179.ntmps w).toEnv) Tryz.underlying9 (k := .i64) i rfl h1
    have stop : isD (l.getD i 0) = false → mkRes [.int .i64 (i : Nat)] = .int .i64 (digs l : Nat) := fun e => by rw [digs_of l i hi hd (.inr e)]; rfl
    have hD : isD (l.getD i 0) = (decide (48 ≤ (l.getD i 0).toNat) && decide ((l.getD i 0).toNat ≤ 57)) := rfl
    refine ⟨_, hx, fun h2 => ⟨_, hx, fun h3 => ?_, fun h3 => ⟨stop ?_, trivial⟩⟩, fun h2 => ⟨nofun, fun _ => ⟨stop ?_, trivial⟩⟩⟩
    · have e : isD (l.getD i 0) = true := by
        rw [hD, decide_eq_true (by have := of_decide_eq_true h2; omega), decide_eq_true (by have := of_decide_eq_true h3; omega)]; rfl
      refine ⟨l.length - (i + 1), _, _, by omega, ⟨i + 1, rfl, by omega, fun j hj => ?_, rfl, rfl⟩, ⟨rfl, c_int (by rw [i64_in (by omega)]; rfl), trivial⟩, trivial, rfl⟩
      by_cases e2 : j = i
      · rw [e2]; exact e
      · exact hd j (by omega)
    · rw [hD, decide_eq_false (show ¬ (l.getD i 0).toNat ≤ 57 by have := of_decide_eq_false h3; omega), Bool.and_false]
    · rw [hD, decide_eq_false (show ¬ 48 ≤ (l.getD i 0).toNat by have := of_decide_eq_false h2; omega), Bool.false_and]
  · have h1 : i = l.length := by have := of_decide_eq_false h1; omega
    subst h1
    refine ⟨nofun, fun _ => ⟨?_, trivial⟩⟩
    rw [digs_of l _ hi hd (.inl rfl)]; rfl
/-- the number of a row of digits -/
def dval (l : List UInt8) : Nat := l.foldl (fun a b => a * 10 + (b.toNat - 48)) 0
theorem dval_snoc (l : List UInt8) (b : UInt8) : dval (l ++ [b]) = dval l * 10 + (b.toNat - 48) := by
  unfold dval; rw [List.foldl_append]; rfl
theorem dval_aux : ∀ (l : List UInt8) (a : Nat), (∀ b ∈ l, isD b = true) → l.foldl (fun a b => a * 10 + (b.toNat - 48)) a < (a + 1) * 10 ^ l.length
  | [], a, _ => by simp
  | b :: r, a, h => by
    have h2 := h b (by simp)
    unfold isD at h2
    simp only [Bool.and_eq_true, decide_eq_true_eq] at h2
    have h3 := dval_aux r (a * 10 + (b.toNat - 48)) (fun x hx => h x (by simp [hx]))
    rw [List.foldl_cons, List.length_cons, Nat.pow_succ]
    refine Nat.lt_of_lt_of_le h3 ?_
    rw [Nat.mul_comm (10 ^ r.length) 10, ← Nat.mul_assoc]
    exact Nat.mul_le_mul_right _ (by omega)
theorem dval_lt {l : List UInt8} (h : ∀ b ∈ l, isD b = true) : dval l < 10 ^ l.length := by
  have := dval_aux l 0 h
  simpa [dval] using this
theorem digs_take {l : List UInt8} : ∀ b ∈ l.take (digs l), isD b = true := by
  induction l with
  | nil => intro b hb; simp at hb
  | cons x r ih =>
    intro b hb
    unfold digs at hb
    split at hb
    · rename_i hx
      rw [List.take_succ_cons] at hb
      rcases List.mem_cons.1 hb with rfl | hb
      · exact hx
      · exact ih b hb
    · simp at hb
theorem dval_take {l : List UInt8} {i : Nat} (hi : i < l.length) : dval (l.take (i + 1)) = dval (l.take i) * 10 + ((l.getD i 0).toNat - 48) := by
  rw [← List.take_append_getElem hi, dval_snoc, List.getD_eq_getElem?_getD, List.getElem?_eq_getElem hi]; rfl
/-- the number of a decimal, and whether it is one -/
def reaN (s : List UInt8) (k : Nat) (neg : Bool) : RQ × Bool :=
  if neg && decide (dval s = 0) then (.of 0 0, false) else ((mkQ (zN neg (dval s)) (tp k : Nat)).1, true)
def reaR (neg : Bool) (whole rest : List UInt8) (p : Int) : RQ × Bool :=
  match rest with
  | [] => reaN whole 0 neg
  | b :: r => if b = 46 then (if digs r = 0 ∨ digs r ≠ r.length ∨ ((digs r : Nat) : Int) > p then (.of 0 0, false) else reaN (whole ++ r) (digs r) neg) else (.of 0 0, false)
def reaU (neg : Bool) (s : List UInt8) (p : Int) : RQ × Bool :=
  if digs s = 0 ∨ digs s > 15 ∨ (digs s > 1 ∧ s.getD 0 0 = 48) then (.of 0 0, false) else reaR neg (s.take (digs s)) (s.drop (digs s)) p
def reaNeg (s : List UInt8) (m : Bool) : Bool := m && (decide (0 < s.length) && decide (s.getD 0 0 = 45))
def reaS (s : List UInt8) (p : Int) (m : Bool) : RQ × Bool := if reaNeg s m then reaU true (s.drop 1) p else reaU false s p
def resB (x : RQ × Bool) : Value := .tuple #[.agg x.1.A, .bool x.2]
theorem u8_eq (a b : UInt8) : (((a.toNat : Nat) : Int) == ((b.toNat : Nat) : Int)) = decide (a = b) := by
  rw [Bool.eq_iff_iff]
  simp only [beq_iff_eq, decide_eq_true_eq]
  constructor
  · intro h; exact UInt8.toNat_inj.1 (by omega)
  · intro h; rw [h]
set_option smartUnfolding false in
set_option maxRecDepth 100000 in
set_option maxHeartbeats 4000000 in
theorem read_r (s : List UInt8) (p : Int) (hp : p ≤ 9) (m : Bool) (hs : s.length ≤ 9223372036854775807) : Pure Tryz.prog 162 [SV.c (.string (S s)), SV.c (.int .i64 p), SV.c (.bool m)] (resB (reaS s p m)) := by
  refine sx_pureC [2, 4, 7, 16, 27] tt_ok mixed at162 _ _ rfl rfl fun w => ?_
  have join : ∀ b : Bool, b = reaNeg s m → ∃ f1 m1, (f1 = [(0, SV.c (.string (S s))), (1, SV.c (.int .i64 p)), (6, SV.ptr 6 0), (8, SV.c (.bool (reaNeg s m)))] ∧ m1 = [(6, Blk.row 27 66 ti27.zero)]) ∧ True := fun _ _ => ⟨_, _, ⟨rfl, rfl⟩, trivial⟩
  refine ⟨fun f1 m1 => f1 = [(0, SV.c (.string (S s))), (1, SV.c (.int .i64 p)), (6, SV.ptr 6 0), (8, SV.c (.bool (reaNeg s m)))] ∧ m1 = [(6, Blk.row 27 66 ti27.zero)], ⟨fun h1 => ⟨_, fun w _ => run_len_S Tryz.underlying9 w, fun h2 => ⟨_, runs_idx Tryz.underlying9 0 rfl (by have := of_decide_eq_true h2; omega), _, _, ⟨rfl, rfl⟩, ⟨rfl, rfl, rfl, c_bool ?_, trivial⟩, ⟨rfl, trivial⟩, rfl⟩, fun h2 => ⟨_, _, ⟨rfl, rfl⟩, ⟨rfl, rfl, rfl, c_bool ?_, trivial⟩, ⟨rfl, trivial⟩, rfl⟩⟩, fun h1 => ⟨nofun, fun _ => ⟨_, _, ⟨rfl, rfl⟩, ⟨rfl, rfl, rfl, c_bool ?_, trivial⟩, ⟨rfl, trivial⟩, rfl⟩⟩⟩, ?_⟩
  · have h1 : m = true := h1
    have h2 := of_decide_eq_true h2
    have e := u8_eq (s.getD 0 0) 45
    rw [reaNeg, h1, decide_eq_true (by omega : 0 < s.length), ← e]; rfl
  · have h2 := of_decide_eq_false h2
    rw [reaNeg, decide_eq_false (by omega : ¬ 0 < s.length), Bool.false_and, Bool.and_false]
  · have h1 : m = false := h1
    rw [reaNeg, h1]; rfl
  rintro f1 m1 ⟨rfl, rfl⟩
  refine ⟨fun f1 m1 => ∃ (neg : Bool) (u : List UInt8), u.length ≤ 9223372036854775807 ∧ reaS s p m = reaU neg u p ∧ f1 = [(0, SV.c (.string (S u))), (1, SV.c (.int .i64 p)), (6, SV.ptr 6 0), (8, SV.c (.bool neg))] ∧ m1 = [(6, Blk.row 27 66 ti27.zero)], ⟨fun h1 => ?_, fun h1 => ?_⟩, ?_⟩
  · have h1 : reaNeg s m = true := h1
    have h0 : 0 < s.length := by
      unfold reaNeg at h1
      simp only [Bool.and_eq_true, decide_eq_true_eq] at h1
      exact h1.2.1
    exact ⟨_, runs_lo Tryz.underlying9 1 rfl h0, _, _, ⟨true, s.drop 1, by simp; omega, by rw [reaS, h1, if_pos rfl], rfl, rfl⟩, ⟨rfl, rfl, rfl, c_bool h1, trivial⟩, ⟨rfl, trivial⟩, rfl⟩
  · have h1 : reaNeg s m = false := h1
    exact ⟨_, _, ⟨false, s, hs, by rw [reaS, h1, if_neg Bool.false_ne_true], rfl, rfl⟩, ⟨rfl, rfl, rfl, c_bool h1, trivial⟩, ⟨rfl, trivial⟩, rfl⟩
  rintro f1 m1 ⟨neg, u, hu, hS, rfl, rfl⟩
  rw [hS]
  have hdl := digs_le u
  have bad : (digs u = 0 ∨ digs u > 15 ∨ (digs u > 1 ∧ u.getD 0 0 = 48)) → mkRes [.agg ti27.zero, .bool false] = resB (reaU neg u p) := fun h => by rw [reaU, if_pos h]; rfl
  have fit0 : Fits ti27.zero 66 := (RQ.of 0 0).A_fits
  have c48 := u8_eq (u.getD 0 0) 48
  have h48 : (48 : UInt8).toNat = 48 := rfl
  rw [h48] at c48
  refine .inl ⟨_, digits_r u hu, fun f1 m1 => (0 < digs u ∧ digs u ≤ 15 ∧ reaU neg u p = reaR neg (u.take (digs u)) (u.drop (digs u)) p) ∧ f1 = [(0, SV.c (.string (S u))), (1, SV.c (.int .i64 p)), (6, SV.ptr 6 0), (8, SV.c (.bool neg)), (9, SV.c (.int .i64 (digs u : Nat)))] ∧ m1 = [(6, Blk.row 27 66 ti27.zero)], ⟨fun h1 => ⟨fun h2 => ⟨fun h3 => ⟨_, runs_idx Tryz.underlying9 0 rfl (by have := of_decide_eq_true h3; omega), fun h4 => ⟨ti27.zero, rfl, fit0, bad ?_, trivial⟩, fun h4 => ⟨_, _, ⟨?_, rfl, rfl⟩, ⟨rfl, rfl, rfl, rfl, rfl, trivial⟩, ⟨rfl, trivial⟩, rfl⟩⟩, fun h3 => ⟨nofun, fun _ => ⟨_, _, ⟨?_, rfl, rfl⟩, ⟨rfl, rfl, rfl, rfl, rfl, trivial⟩, ⟨rfl, trivial⟩, rfl⟩⟩⟩, fun h2 => ⟨fun _ => ⟨ti27.zero, rfl, fit0, bad ?_, trivial⟩, nofun⟩⟩, fun h1 => ⟨nofun, fun _ => ⟨fun _ => ⟨ti27.zero, rfl, fit0, bad ?_, trivial⟩, nofun⟩⟩⟩, ?_⟩
  · have h3 := of_decide_eq_true h3
    have h4 := of_decide_eq_true (c48.symm.trans h4)
    exact .inr (.inr ⟨by omega, h4⟩)
  · have h1 : digs u ≠ 0 := by intro e; rw [e] at h1; simp at h1
    have h2 := of_decide_eq_false h2
    have h4 := of_decide_eq_false (c48.symm.trans h4)
    refine ⟨by omega, by omega, ?_⟩
    rw [reaU, if_neg]
    rintro (h | h | h)
    · exact h1 h
    · omega
    · exact h4 h.2
  · have h1 : digs u ≠ 0 := by intro e; rw [e] at h1; simp at h1
    have h2 := of_decide_eq_false h2
    have h3 := of_decide_eq_false h3
    refine ⟨by omega, by omega, ?_⟩
    rw [reaU, if_neg]
    rintro (h | h | h)
    · exact h1 h
    · omega
    · omega
  · have h2 := of_decide_eq_true h2
    exact .inr (.inl (by omega))
  · have h1 : digs u = 0 := by have : ((digs u : Nat) : Int) = 0 := by simpa using h1
                               omega
    exact .inl h1
  rintro f1 m1 ⟨⟨hn0, hn15, hU⟩, rfl, rfl⟩
  rw [hU]
  have hw := digs_take (l := u)
  have hwl : (u.take (digs u)).length = digs u := by simp; omega
  have s1 := runs_hi (E := (envP Tryz.prog tt Tryz.f162.ntmps w [2, 4, 7, 16, 27]).toEnv) Tryz.underlying9 (l := u) (k := .i64) (digs u) rfl hdl
  have s2 := runs_lo (E := (envP Tryz.prog tt Tryz.f162.ntmps w [2, 4, 7, 16, 27]).toEnv) Tryz.underlying9 (l := u) (k := .i64) (digs u) rfl hdl
  have hrl : (u.drop (digs u)).length ≤ 9223372036854775807 := by simp; omega
  generalize u.take (digs u) = wh at *
  generalize u.drop (digs u) = re at *
  clear hU bad c48
  refine ⟨_, s1, _, s2, by kernel_rfl, ?_⟩
  refine ⟨fun f1 m1 => ∃ (r : List UInt8) (k : Nat), r.length ≤ 9 ∧ k ≤ 9 ∧ (∀ b ∈ r, isD b = true) ∧ reaR neg wh re p = reaN (wh ++ r) k neg ∧ f1 = [(6, SV.ptr 6 0), (8, SV.c (.bool neg)), (10, SV.c (.string (S wh))), (11, SV.c (.string (S r))), (12, SV.c (.int .i64 k))] ∧ m1 = [(6, Blk.row 27 66 ti27.zero)], ⟨_, fun w _ => run_len_S Tryz.underlying9 w, fun h1 => ?_, fun h1 => ?_⟩, ?_⟩
  · have h1 : 0 < re.length := by have := of_decide_eq_true h1; omega
    obtain ⟨b, r, rfl⟩ : ∃ b r, re = b :: r := by cases re with
      | nil => simp at h1
      | cons b r => exact ⟨b, r, rfl⟩
    have hrl : r.length ≤ 9223372036854775807 := by simp at hrl; omega
    have hdr := digs_le r
    have c46 := u8_eq b 46
    have h46 : (46 : UInt8).toNat = 46 := rfl
    rw [h46] at c46
    refine ⟨_, runs_idx Tryz.underlying9 0 rfl h1, fun h2 => ⟨ti27.zero, rfl, fit0, ?_, trivial⟩, fun h2 => ⟨_, runs_lo Tryz.underlying9 1 rfl h1, .inl ⟨_, digits_r r hrl, fun h3 => ⟨_, fun w _ => run_len_S Tryz.underlying9 w, fun h4 => ⟨fun h5 => ⟨ti27.zero, rfl, fit0, ?_, trivial⟩, fun h5 => ⟨_, _, ⟨r, digs r, ?_, ?_, ?_, ?_, rfl, rfl⟩, ⟨rfl, rfl, rfl, rfl, rfl, trivial⟩, ⟨rfl, trivial⟩, rfl⟩⟩, fun h4 => ⟨fun _ => ⟨ti27.zero, rfl, fit0, ?_, trivial⟩, nofun⟩⟩, fun h3 => ⟨nofun, fun _ => ⟨fun _ => ⟨ti27.zero, rfl, fit0, ?_, trivial⟩, nofun⟩⟩⟩⟩⟩
    · have h2 : b ≠ 46 := of_decide_eq_false (c46.symm.trans (bnt h2))
      rw [reaR, if_neg h2]; rfl
    all_goals have h2 : b = 46 := of_decide_eq_true (c46.symm.trans (bnf h2))
    · have h5 := of_decide_eq_true h5
      rw [reaR, if_pos h2, if_pos (.inr (.inr h5))]; rfl
    · have h5 := of_decide_eq_false h5
      have h4 : digs r = r.length := by have : ((digs r : Nat) : Int) = (r.length : Nat) := by simpa using h4
                                        omega
      omega
    · have h5 := of_decide_eq_false h5
      omega
    · have h4 : digs r = r.length := by have : ((digs r : Nat) : Int) = (r.length : Nat) := by simpa using h4
                                        omega
      have := digs_take (l := r)
      rw [h4, List.take_length] at this
      exact this
    · have h5 := of_decide_eq_false h5
      have h4 : digs r = r.length := by have : ((digs r : Nat) : Int) = (r.length : Nat) := by simpa using h4
                                        omega
      have h3 : digs r ≠ 0 := by intro e; rw [e] at h3; simp at h3
      rw [reaR, if_pos h2, if_neg]
      rintro (h | h | h)
      · exact h3 h
      · exact h h4
      · exact h5 h
    · have h4 : digs r ≠ r.length := by
        intro e; rw [e] at h4; simp at h4
      rw [reaR, if_pos h2, if_pos (.inr (.inl h4))]; rfl
    · have h3 : digs r = 0 := by have : ((digs r : Nat) : Int) = 0 := by simpa using h3
                                 omega
      rw [reaR, if_pos h2, if_pos (.inl h3)]; rfl
  · have h1 : re = [] := List.length_eq_zero_iff.1 (by have := of_decide_eq_false h1; omega)
    subst h1
    exact ⟨_, _, ⟨[], 0, by simp, by omega, by simp, by rw [reaR, List.append_nil], rfl, rfl⟩, ⟨rfl, rfl, rfl, rfl, rfl, trivial⟩, ⟨rfl, trivial⟩, rfl⟩
  rintro f1 m1 ⟨r, k, hr9, hk9, hrd, hR, rfl, rfl⟩
  rw [hR]
  have hld : ∀ b ∈ wh ++ r, isD b = true := fun b hb => by
    rcases List.mem_append.1 hb with h | h
    · exact hw b h
    · exact hrd b h
  have hll : (wh ++ r).length ≤ 24 := by rw [List.length_append]; omega
  have es : S wh ++ S r = S (wh ++ r) := S_add _ _
  have hsz : (S wh).size + (S r).size ≤ 9223372036854775807 := by rw [S_size, S_size]; omega
  unfold reaN
  generalize wh ++ r = l at *
  have big : 10 ^ 25 ≤ BB ^ 32 := Nat.le_trans (by decide : 10 ^ 25 ≤ BB ^ 3) (Nat.pow_le_pow_right BB_pos (by omega))
  have hv : ∀ i, dval (l.take i) < 10 ^ 24 := fun i => by
    have h1 := dval_lt (l := l.take i) (fun b hb => hld b (List.mem_of_mem_take hb))
    have h2 : (l.take i).length ≤ 24 := by simp; omega
    exact Nat.lt_of_lt_of_le h1 (Nat.pow_le_pow_right (by omega) h2)
  have hvl := hv l.length
  rw [List.take_length] at hvl
  have p25 : 10 ^ 25 = 10 ^ 24 * 10 := by decide
  have ten := fromInt_r 10 (by omega) (by omega)
  have i10 := isI_e (i64_lt (n := 10) (by omega) (by omega))
  have key : ∀ i, i < l.length → Pure Tryz.prog 35 [SV.c (.agg (eA ((dval (l.take i) : Nat) : Int))), SV.c (.agg (eA 10))] (.tuple #[.agg (eA ((dval (l.take i) * 10 : Nat) : Int)), .int .i64 0]) := fun i _ => by
    have h1 := hv i
    have h := mul_r (isI_e (z := ((dval (l.take i) : Nat) : Int)) (by omega)) i10
    rw [show ((dval (l.take i) : Nat) : Int) * 10 = ((dval (l.take i) * 10 : Nat) : Int) by omega, fitR, if_pos (by omega)] at h
    exact h
  have dig : ∀ i, i < l.length → 48 ≤ (l.getD i 0).toNat ∧ (l.getD i 0).toNat ≤ 57 := fun i hi => by
    have h := hld (l.getD i 0) (by rw [List.getD_eq_getElem?_getD, List.getElem?_eq_getElem hi]; exact List.getElem_mem hi)
    unfold isD at h
    simpa using h
  refine ⟨ti25.zero, rfl, eA_fits 0, hsz, ?_⟩
  refine ⟨fun q f mm => ∃ i : Nat, q = l.length - i ∧ i ≤ l.length ∧ f = [(6, SV.ptr 6 0), (8, SV.c (.bool neg)), (12, SV.c (.int .i64 k)), (13, SV.ptr 13 0), (14, SV.c (.string (S l))), (15, SV.c (.int .i64 i))] ∧ mm = [(6, Blk.row 27 66 ti27.zero), (13, Blk.row 25 33 (eA ((dval (l.take i) : Nat) : Int)))], l.length, ⟨_, _, ⟨0, rfl, Nat.zero_le _, rfl, rfl⟩, ⟨rfl, rfl, rfl, rfl, c_str es, rfl, trivial⟩, ⟨rfl, row_eq (by rw [List.take_zero]; rfl), trivial⟩, rfl⟩, ?_⟩
  rintro q f mm ⟨i, rfl, hi, rfl, rfl⟩
  refine ⟨_, fun w _ => run_len_S Tryz.underlying9 w, fun h1 => ?_, fun h1 => ?_⟩
  · have h1 : i < l.length := by have := of_decide_eq_true h1; omega
    have hx := runs_idx (E := (envP Tryz.prog tt Tryz.f162.ntmps w [2, 4, 7, 16, 27]).toEnv) Tryz.underlying9 (k := .i64) i rfl h1
    obtain ⟨d1, d2⟩ := dig i h1
    have dv := dval_take h1
    have hvi := hv i
    generalize (l.getD i 0).toNat = c at *
    have ec : IntKind.i64.wrap (IntKind.u8.wrap ((c : Int) - 48)) = ((c - 48 : Nat) : Int) := by rw [u8_wrap, show ((c : Int) - 48) % 256 = ((c - 48 : Nat) : Int) by omega, i64_in (by omega)]
    have hfc := fromInt_r ((c - 48 : Nat) : Int) (by omega) (by omega)
    rw [← ec] at hfc
    have hadd := add_r (isI_e (z := ((dval (l.take i) * 10 : Nat) : Int)) (by omega)) (isI_e (z := ((c - 48 : Nat) : Int)) (by omega))
    rw [show ((dval (l.take i) * 10 : Nat) : Int) + ((c - 48 : Nat) : Int) = ((dval (l.take (i + 1)) : Nat) : Int) by rw [dv]; omega, fitR, if_pos (by have := hv (i + 1); omega)] at hadd
    rw [← ec] at hadd
    exact .inl ⟨_, ten, .inl ⟨_, key i h1, eA_fits _, by kernel_rfl, _, hx, .inl ⟨_, hfc, .inl ⟨_, hadd, eA_fits _, by kernel_rfl, l.length - (i + 1), _, _, by omega, ⟨i + 1, rfl, by omega, rfl, rfl⟩, ⟨rfl, rfl, rfl, rfl, rfl, c_int (by rw [i64_in (by omega)]; rfl), trivial⟩, ⟨rfl, rfl, trivial⟩, rfl⟩⟩⟩⟩
  · have h1 : i = l.length := by have := of_decide_eq_false h1; omega
    subst h1
    rw [List.take_length]
    have iD := isI_e (z := ((dval l : Nat) : Int)) (by omega)
    refine ⟨fun f1 m1 => ((neg && decide (dval l = 0)) = false) ∧ f1 = [(6, SV.ptr 6 0), (12, SV.c (.int .i64 k)), (13, SV.ptr 13 0)] ∧ m1 = [(6, Blk.row 27 66 ti27.zero), (13, Blk.row 25 33 (eA (zN neg (dval l))))], ⟨fun h2 => .inl ⟨_, sign_r iD, fun h3 => ⟨ti27.zero, rfl, fit0, ?_, trivial⟩, fun h3 => .inl ⟨_, neg_r iD, eA_fits _, _, _, ⟨?_, rfl, rfl⟩, ⟨rfl, rfl, rfl, trivial⟩, ⟨rfl, row_eq ?_, trivial⟩, rfl⟩⟩, fun h2 => ⟨_, _, ⟨?_, rfl, rfl⟩, ⟨rfl, rfl, rfl, trivial⟩, ⟨rfl, row_eq ?_, trivial⟩, rfl⟩⟩, ?_⟩
    · have h2 : neg = true := h2
      rw [sgn_zero] at h3
      have h3 : ((dval l : Nat) : Int) = 0 := of_decide_eq_true h3
      rw [h2, decide_eq_true (show dval l = 0 by omega), Bool.true_and, if_pos rfl]; rfl
    · rw [sgn_zero] at h3
      have h3 : ¬ ((dval l : Nat) : Int) = 0 := of_decide_eq_false h3
      rw [decide_eq_false (show ¬ dval l = 0 by omega), Bool.and_false]
    · have h2 : neg = true := h2
      rw [h2]; rfl
    · have h2 : neg = false := h2
      rw [h2, Bool.false_and]
    · have h2 : neg = false := h2
      rw [h2]; rfl
    rintro f1 m1 ⟨hz, rfl, rfl⟩
    rw [hz, if_neg Bool.false_ne_true]
    have hpk := tp_le (show k ≤ 18 by omega)
    rw [tp18] at hpk
    have hmk := make_r (isI_e (z := zN neg (dval l)) (by rw [zN_abs]; omega)) (isI_e (z := ((tp k : Nat) : Int)) (i64_lt (by omega) (by omega)))
    exact .inl ⟨_, power_r (by omega), _, runs_num rfl (.of _ _), .inl ⟨_, hmk, RQ.A_fits _, by kernel_rfl, RQ.A_fits _, rfl, trivial⟩⟩
end Go.Proofs.YtnfmpddhcjkjbaaGreatDoor
