/- walks: days and actions that are made. walks: a number that is made. walks: ratios that are made. walks: the law ActionPlays. a tape that came in. plain laws on made ratios, and the walks of the laws ActionValue, ActionDividend, ActionMonotone, ActionInverse; no condition. -/
import Derived.Test.YtinojijgeabfnaaGreatDoorP22
import Derived.Lib.MinMax
import Derived.ProofKit
import Derived.Lib.SmallJoins
import Derived.ChangeSlices
namespace Go.Proofs.YtinojijgeabfnaaGreatDoor
open Go Go.RowKit Go.SX
set_option maxRecDepth 100000 in
theorem AC.set3 (a : AC) (l : List UInt8) : a.A.setIfInBounds (0 + 3) (.string (S l)) = ({ a with into := l } : AC).A := by kernel_rfl
set_option maxRecDepth 100000 in
theorem AC.set0 (a : AC) (n : Int) : a.A.setIfInBounds (0 + 0) (.int .i64 n) = ({ a with kind := n } : AC).A := by kernel_rfl
theorem run_min_ct {P : Program} {ats : Array TypeId} {ty : TypeId} {cs : Array Bool} (x y : Int) (w : World) : (builtin .min ats ty cs #[.int .i64 x, .int .i64 y]).run P w = .ok (.value (.int .i64 (min x y))) w := by
  simp [builtin, Sem.run_bind, Go.Lib.run_min_ints]
end Go.Proofs.YtinojijgeabfnaaGreatDoor
namespace Go.Proofs.YtinojijgeabfnaaGreatDoor
open Go Go.RowKit Go.SX
/-- the number that comes off the tape next -/
def nx (zs : List Int) (k : Nat) (n : Int) : Int := foldI (if k < zs.length then zs.getD k 0 else (IntKind.i64.wrap ((k : Nat) * 7)).tmod 11) n
end Go.Proofs.YtinojijgeabfnaaGreatDoor
namespace Go.Proofs.YtinojijgeabfnaaGreatDoor
open Go Go.RowKit Go.SX
/-- ratios, one after the other -/
def rats : List RQ → Array Value
  | [] => #[]
  | x :: r => x.A ++ rats r
theorem rats_get : ∀ {xs : List RQ} {i : Nat} (h : i < xs.length), (rats xs).extract (0 + i * 66) (0 + i * 66 + 66) = xs[i].A
  | x :: r, 0, _ => by
    have := @ext_mid #[] x.A (rats r) 0 66 rfl x.A_size
    simpa [rats] using this
  | x :: r, i + 1, h => by
    have ih := rats_get (xs := r) (i := i) (by simpa using h)
    rw [rats, Array.extract_append, x.A_size]
    have e1 : 0 + (i + 1) * 66 - 66 = 0 + i * 66 := by omega
    have e2 : 0 + (i + 1) * 66 + 66 - 66 = 0 + i * 66 + 66 := by omega
    rw [e1, e2, ih, Array.extract_empty_of_size_le_start (by rw [x.A_size]; omega)]
    simp
set_option smartUnfolding false in
set_option maxRecDepth 100000 in
theorem pickratio4_g {a b c d' : RQ} (hin : ∀ x ∈ [a, b, c, d'], x.In) : GenL 26 29 (rats [a, b, c, d']) 264 4 1 (RA RQ.In) := by
  intro zs k hk
  obtain ⟨r, k', h4, h5, ⟨i, rfl, h6, h7⟩, hO⟩ := next_g (n := 4) (by decide) zs k hk
  have hi : i.toNat < [a, b, c, d'].length := by show i.toNat < 4; omega
  refine ⟨_, k', h4, h5, ⟨[a, b, c, d'][i.toNat], rfl, hin _ (List.getElem_mem hi)⟩, fun E v d e hde hE hv => ?_⟩
  refine sx_ownT2 [] tt_ok mixed at26 E hE d e hde (48, 2, tb v k, tb v k') (29, 264, rats [a, b, c, d'], rats [a, b, c, d']) [SV.ptr 1000 0, SV.sl 1001 0 4 4] _ rfl rfl fun w b b' hT => ?_
  have := hO _ v 1000 rfl (hv.of_old hE.symm hT)
  have hoff : 0 + i.toNat * 66 + 66 ≤ 264 := by omega
  exact ⟨nofun, fun _ => .inr ⟨_, _, _, this, ⟨rfl, trivial⟩, rfl, h6, by show i < 4; omega, hoff, _, rats_get hi, RQ.A_fits _, rfl, rfl, rfl, trivial⟩⟩
end Go.Proofs.YtinojijgeabfnaaGreatDoor
namespace Go.Proofs.YtinojijgeabfnaaGreatDoor
open Go Go.RowKit Go.SX
theorem fill_tape (a : Option Addr) (len cap : Nat) {pl : List (Nat × Nat)} (hpl : pl = [(0, 1), (1, 1)]) : Instr.fill (fun k => pl[k]?) ti48.zero [(0, .slice a len cap)] = some (tb (.slice a len cap) 0) := by
  subst hpl
  rfl
end Go.Proofs.YtinojijgeabfnaaGreatDoor
namespace Go.Proofs.YtinojijgeabfnaaGreatDoor
open Go Go.RowKit Go.SX
open ChangeShapes
theorem add_flat (b o n : Nat) : (⟨b, o, none⟩ : Addr).add n = ⟨b, o + n, none⟩ := by simp [Addr.add]
theorem cell_in {w : World} {b o : Nat} {v : Value} (h : w.cell? ⟨b, o, none⟩ = some v) : b < w.heap.size := by
  by_cases hb : b < w.heap.size
  · exact hb
  · have : w.heap[b]? = none := Array.getElem?_eq_none (by omega)
    simp [World.cell?, this] at h
theorem cell_same {w w' : World} {b o : Nat} (h : w'.heap[b]? = w.heap[b]?) : w'.cell? ⟨b, o, none⟩ = w.cell? ⟨b, o, none⟩ := by
  simp only [World.cell?, h]
/-- a tape that came in -/
theorem tp_of {H : Type} {enc : TypeId × Value → H} {W : World} {fuel nt : Nat} {c : Value} {y : DataW H × List MemPlace} (h : DataW.trod enc Tryz.prog W 0 (fun _ => true) true fuel 45 [c] = some y) : ∃ zs, Tp (envP Tryz.prog tt nt W).toEnv c zs := by
  rcases open_ints Tryz.underlying45 Tryz.underlying3 (by kernel_rfl) h with ⟨hcs, _⟩ | ⟨a, len, cap, zs, hcs, _, hl, hm, hz, _, hcell, _⟩
  · simp only [List.cons.injEq, and_true] at hcs
    subst hcs
    exact ⟨[], none, 0, rfl, fun i hi => absurd hi (by simp)⟩
  · simp only [List.cons.injEq, and_true] at hcs
    subst hcs
    simp only [if_true] at hz
    have hlz : (zs.take len).length = len := by simp; omega
    refine ⟨zs.take len, some a, cap, by rw [hlz], fun i hi => ?_⟩
    rw [hlz] at hi
    have hc := hcell i (by omega)
    have hsp := World.cell?_spot (hcell 0 (by omega))
    obtain ⟨b, o, sp⟩ := a
    have h2 : sp = none := by simpa [Addr.add] using hsp
    subst h2
    rw [add_flat] at hc
    have hb := cell_in hc
    refine ⟨⟨b, o + i, none⟩, fun w' hw => ?_, fun w' hw => ?_⟩
    · simp only [Instr.indexAt, asIntOf, Sem.run_bind, run_underlying Tryz.underlying45, Result.andThen_ok, Sem.run_pure]
      have hcc : 0 ≤ (i : Int) ∧ (i : Int) < (len : Int) := by omega
      simp only [hcc, and_self, if_true, Sem.run_bind, Go.SX.run_sizeOf tok3, Result.andThen_ok, Sem.run_pure]
      have e : (i : Int).toNat * ti3.size = i := by show i * 1 = i; omega
      rw [e, add_flat]
    · have hg : (zs.take len).getD i 0 = zs.getD i 0 := by simp [List.getElem?_take, hi]
      rw [hg]
      refine load_cell tok3 ?_ rfl
      rw [cell_same (hw.old b hb (by simp))]
      exact hc
end Go.Proofs.YtinojijgeabfnaaGreatDoor
namespace Go.Proofs.YtinojijgeabfnaaGreatDoor
open Go Go.RowKit Go.SX
/-- numbers that are short enough make a ratio, and its value is theirs -/
theorem mkQ_val {x y : Int} (hy : 0 < y) (hx : x.natAbs < 2 ^ 480) (hy2 : y.natAbs < 2 ^ 480) : ∃ r : RQ, mkQ x y = (r, 0) ∧ r.ok = true ∧ r.p * y = x * r.q ∧ r.p.natAbs ≤ x.natAbs ∧ r.q ≤ y := by
  have hg : 0 < Int.gcd x y := Int.gcd_pos_of_ne_zero_right x (by omega)
  have hs : sgn y = 1 := by unfold sgn; rw [if_neg (by omega), if_neg (by omega)]
  obtain ⟨p, hp⟩ : ((Int.gcd x y : Nat) : Int) ∣ x := Int.gcd_dvd_left x y
  obtain ⟨q, hq⟩ : ((Int.gcd x y : Nat) : Int) ∣ y := Int.gcd_dvd_right x y
  have hg0 : ((Int.gcd x y : Nat) : Int) ≠ 0 := by omega
  have ex : x / ((Int.gcd x y : Nat) : Int) = p := by conv => lhs; lhs; rw [hp]
                                                      exact Int.mul_ediv_cancel_left p hg0
  have ey : y / ((Int.gcd x y : Nat) : Int) = q := by conv => lhs; lhs; rw [hq]
                                                      exact Int.mul_ediv_cancel_left q hg0
  have hgcd : Int.gcd p q = 1 := by
    have h1 : Int.gcd x y = Int.gcd (((Int.gcd x y : Nat) : Int) * p) (((Int.gcd x y : Nat) : Int) * q) := by rw [← hp, ← hq]
    rw [Int.gcd_mul_left, Int.natAbs_natCast] at h1
    exact Nat.eq_of_mul_eq_mul_left hg (by rw [← h1, Nat.mul_one])
  have hg1 : 0 < ((Int.gcd x y : Nat) : Int) := by omega
  have hmk : mkQ x y = if bl p.natAbs ≤ 480 ∧ bl q.natAbs ≤ 480 then (.of p q, 0) else (.of 0 0, 10) := by
    unfold mkQ
    rw [if_neg (by omega), hs, Int.one_mul, ex, ey]
  generalize ((Int.gcd x y : Nat) : Int) = g at *
  have hq0 : 0 < q := by
    rcases Int.lt_trichotomy q 0 with h | h | h
    · have := Int.mul_neg_of_pos_of_neg hg1 h; omega
    · subst h; simp at hq; omega
    · exact h
  have hpx : p.natAbs ≤ x.natAbs := by
    rw [hp, Int.natAbs_mul]; exact Nat.le_mul_of_pos_left _ (by omega)
  have hqy : q.natAbs ≤ y.natAbs := by
    rw [hq, Int.natAbs_mul]; exact Nat.le_mul_of_pos_left _ (by omega)
  have b1 : bl p.natAbs ≤ 480 := bl_le (Nat.lt_of_le_of_lt hpx hx)
  have b2 : bl q.natAbs ≤ 480 := bl_le (Nat.lt_of_le_of_lt hqy hy2)
  refine ⟨.of p q, by rw [hmk, if_pos ⟨b1, b2⟩], ?_, ?_, ?_, ?_⟩
  · unfold RQ.ok RQ.of
    refine decide_eq_true ⟨b1, b2, fun h => ?_, ?_, by show 0 < q.natAbs; omega, hgcd⟩
    · have h := of_decide_eq_true h
      show p.natAbs ≠ 0
      omega
    · show decide (q < 0) = false
      exact decide_eq_false (by omega)
  · rw [RQ.of_p, RQ.of_q]
    conv => lhs; rw [hq]
    conv => rhs; rw [hp]
    rw [Int.mul_comm p, Int.mul_assoc, Int.mul_assoc, Int.mul_comm q p]
  · rw [RQ.of_p]; exact hpx
  · rw [RQ.of_q]; omega
theorem mulQ_val {r s : RQ} (hr : r.ok = true) (hs : s.ok = true) {P Q P' Q' : Nat} (h1 : r.p.natAbs ≤ P) (h2 : r.q.natAbs ≤ Q) (h3 : s.p.natAbs ≤ P') (h4 : s.q.natAbs ≤ Q') (h5 : P * P' < 2 ^ 480) (h6 : Q * Q' < 2 ^ 480) : ∃ t : RQ, mulQ r s = (t, 0) ∧ t.ok = true ∧ t.p * (r.q * s.q) = r.p * s.p * t.q ∧ t.p.natAbs ≤ P * P' ∧ t.q.natAbs ≤ Q * Q' := by
  obtain ⟨-, -, q1, -, -⟩ := RQ.ok_bits hr
  obtain ⟨-, -, q2, -, -⟩ := RQ.ok_bits hs
  have e1 : (r.p * s.p).natAbs ≤ P * P' := by rw [Int.natAbs_mul]; exact Nat.mul_le_mul h1 h3
  have e2 : (r.q * s.q).natAbs ≤ Q * Q' := by rw [Int.natAbs_mul]; exact Nat.mul_le_mul h2 h4
  have hpos : 0 < r.q * s.q := Int.mul_pos q1 q2
  obtain ⟨t, m1, m2, m3, m4, m5⟩ := mkQ_val (x := r.p * s.p) (y := r.q * s.q) hpos (Nat.lt_of_le_of_lt e1 h5) (Nat.lt_of_le_of_lt e2 h6)
  obtain ⟨-, -, q3, -, -⟩ := RQ.ok_bits m2
  refine ⟨t, by rw [mulQ, hr, hs]; exact m1, m2, m3, Nat.le_trans m4 e1, ?_⟩
  refine Nat.le_trans ?_ e2
  generalize r.q * s.q = z at *
  omega
theorem sumQ_val (m : Bool) {r s : RQ} (hr : r.ok = true) (hs : s.ok = true) {P Q P' Q' : Nat} (h1 : r.p.natAbs ≤ P) (h2 : r.q.natAbs ≤ Q) (h3 : s.p.natAbs ≤ P') (h4 : s.q.natAbs ≤ Q') (h5 : P * Q' + P' * Q < 2 ^ 480) (h6 : Q * Q' < 2 ^ 480) : ∃ t : RQ, sumQ m r s = (t, 0) ∧ t.ok = true ∧ t.p * (r.q * s.q) = (r.p * s.q + sg m (s.p * r.q)) * t.q ∧ t.p.natAbs ≤ P * Q' + P' * Q ∧ t.q.natAbs ≤ Q * Q' := by
  obtain ⟨-, -, q1, -, -⟩ := RQ.ok_bits hr
  obtain ⟨-, -, q2, -, -⟩ := RQ.ok_bits hs
  have e0 : (sg m (s.p * r.q)).natAbs = (s.p * r.q).natAbs := by cases m <;> simp [sg]
  have e1 : (r.p * s.q + sg m (s.p * r.q)).natAbs ≤ P * Q' + P' * Q := by
    have a1 : (r.p * s.q).natAbs ≤ P * Q' := by rw [Int.natAbs_mul]; exact Nat.mul_le_mul h1 h4
    have a2 : (s.p * r.q).natAbs ≤ P' * Q := by rw [Int.natAbs_mul]; exact Nat.mul_le_mul h3 h2
    have := Int.natAbs_add_le (r.p * s.q) (sg m (s.p * r.q))
    omega
  have e2 : (r.q * s.q).natAbs ≤ Q * Q' := by rw [Int.natAbs_mul]; exact Nat.mul_le_mul h2 h4
  have hpos : 0 < r.q * s.q := Int.mul_pos q1 q2
  obtain ⟨t, m1, m2, m3, m4, m5⟩ := mkQ_val (x := r.p * s.q + sg m (s.p * r.q)) (y := r.q * s.q) hpos (Nat.lt_of_le_of_lt e1 h5) (Nat.lt_of_le_of_lt e2 h6)
  obtain ⟨-, -, q3, -, -⟩ := RQ.ok_bits m2
  refine ⟨t, by rw [sumQ, hr, hs]; exact m1, m2, m3, Nat.le_trans m4 e1, ?_⟩
  refine Nat.le_trans ?_ e2
  generalize r.q * s.q = z at *
  omega
/-- a number of so many bits -/
def Bd (k : Nat) (a : Int) : Prop := a.natAbs ≤ 2 ^ k
theorem Bd.mul {i j : Nat} {a b : Int} (h1 : Bd i a) (h2 : Bd j b) : Bd (i + j) (a * b) := by
  unfold Bd at *
  rw [Int.natAbs_mul, Nat.pow_add]
  exact Nat.mul_le_mul h1 h2
theorem Bd.mono {i j : Nat} {a : Int} (h1 : Bd i a) (h : i ≤ j) : Bd j a := Nat.le_trans h1 (Nat.pow_le_pow_right (by omega) h)
theorem Bd.add {k : Nat} {a b : Int} (h1 : Bd k a) (h2 : Bd k b) : Bd (k + 1) (a + b) := by
  unfold Bd at *
  have := Int.natAbs_add_le a b
  rw [Nat.pow_succ]; omega
set_option exponentiation.threshold 600 in
theorem Bd.lt {k : Nat} {a : Int} (h1 : Bd k a) (h : k < 480) : a.natAbs < 2 ^ 480 := Nat.lt_of_le_of_lt h1 (Nat.pow_lt_pow_right (by omega) h)
end Go.Proofs.YtinojijgeabfnaaGreatDoor
