/- walks: ratios that are made; no condition. -/
import Derived.Test.YtnfmpddhcjkjbaaGreatDoorV37
namespace Go.Proofs.YtnfmpddhcjkjbaaGreatDoor
open Go Go.RowKit Go.SX
theorem RN.isI {r : Value} (h : RN r) : ∃ A z, r = .agg A ∧ IsI A z := by
  obtain ⟨a, N, rfl, hN⟩ := h
  exact ⟨_, zN a N, rfl, ⟨_, _, hN, rfl, rfl⟩⟩
set_option smartUnfolding false in
set_option maxRecDepth 100000 in
set_option maxHeartbeats 4000000 in
theorem ratio_g : Gen 22 [] 150 (RA RQ.In) := by
  intro zs k hk
  obtain ⟨r1, k1, a1, b1, ⟨ch, rfl⟩, O1⟩ := chance_g (a := 1) (b := 6) (by decide) zs k (by omega)
  cases ch
  · obtain ⟨r2, k2, a2, b2, ⟨i2, rfl, c2⟩, O2⟩ := range_g (lo := -200) (hi := 400) (by decide) (by decide) (by decide) zs k1 (by omega)
    obtain ⟨r3, k3, a3, b3, ⟨i3, rfl, c3⟩, O3⟩ := pick_g (xs := [1, 1, 1, 1000, 1000003]) (by decide) (by decide) zs k2 (by omega)
    obtain ⟨r4, k4, a4, b4, ⟨i4, rfl, c4⟩, O4⟩ := pick_g (xs := [1, 1, 2, 3, 4, 7, 10, 12, 100, 365, 366, 1000, 1000000]) (by decide) (by decide) zs k3 (by omega)
    have d4 : 1 ≤ i4 ∧ i4 ≤ 1000000 := by simp at c4; omega
    have e5 : -9223372036854775808 ≤ IntKind.i64.wrap (i2 * i3) ∧ IntKind.i64.wrap (i2 * i3) ≤ 9223372036854775807 := by
      have q : -1000000000000 ≤ i2 * i3 ∧ i2 * i3 ≤ 1000000000000 := by
        simp at c3
        rcases c3 with rfl | rfl | rfl <;> omega
      rw [i64_in (by omega)]; omega
    have hm := made_of (n := IntKind.i64.wrap (i2 * i3)) (d := i4) e5.1 e5.2 (by omega) (by omega)
    refine ⟨_, k4, by omega, by omega, ⟨(mkQ (IntKind.i64.wrap (i2 * i3)) i4).1, rfl, mkQ_in _ _⟩, fun E v d hE hv => ?_⟩
    refine sx_ownT1 [] tt_ok mixed at22 E hE d (42, 2, tb v k, tb v k4) [SV.ptr 1000 0] _ rfl rfl fun w b hT => ?_
    have hv := hv.of_old hE.symm hT
    exact .inr ⟨_, _, _, O1 _ v 1000 rfl hv, ⟨rfl, trivial⟩, rfl, nofun, fun _ => .inr ⟨_, _, _, O2 _ v 1000 rfl hv, ⟨rfl, trivial⟩, rfl, by decide, by decide, ints [1, 1, 1, 1000, 1000003], by kernel_rfl, rfl, .inr ⟨_, _, _, O3 _ v 1000 26 (by decide) rfl hv, ⟨rfl, rfl, trivial⟩, rfl, by decide, by decide, ints [1, 1, 2, 3, 4, 7, 10, 12, 100, 365, 366, 1000, 1000000], by kernel_rfl, rfl, .inr ⟨_, _, _, O4 _ v 1000 30 (by decide) rfl hv, ⟨rfl, rfl, trivial⟩, rfl, .inl ⟨_, hm, RQ.A_fits _, rfl, rfl, trivial⟩⟩⟩⟩⟩
  · obtain ⟨r2, k2, a2, b2, c2, O2⟩ := int_g (bits := 200) (by decide) (by decide) zs k1 (by omega)
    obtain ⟨A, z, rfl, hA⟩ := c2.isI
    obtain ⟨r3, k3, a3, b3, c3, O3⟩ := int_g (bits := 200) (by decide) (by decide) zs k2 (by omega)
    obtain ⟨B, y, rfl, hB⟩ := c3.isI
    have hab := abs_r hA
    have hz : (z.natAbs : Int).natAbs < BB ^ 32 := by
      obtain ⟨a, N, hN, -, rfl⟩ := hA.raw
      rw [Int.natAbs_natCast, zN_abs]; exact hN
    have hsg := sign_r (isI_e hz)
    have h1 := fromInt_r 1 (by decide) (by decide)
    have i1 := isI_e (i64_lt (n := 1) (by decide) (by decide))
    have m1 := make_r hB i1
    have m2 := make_r hB (isI_e hz)
    by_cases hy : sgn (z.natAbs : Int) = 0
    · rw [hy] at hsg
      refine ⟨_, k3, by omega, by omega, ⟨(mkQ y 1).1, rfl, mkQ_in _ _⟩, fun E v d hE hv => ?_⟩
      refine sx_ownT1 [] tt_ok mixed at22 E hE d (42, 2, tb v k, tb v k3) [SV.ptr 1000 0] _ rfl rfl fun w b hT => ?_
      have hv := hv.of_old hE.symm hT
      exact .inr ⟨_, _, _, O1 _ v 1000 rfl hv, ⟨rfl, trivial⟩, rfl, fun _ => .inr ⟨_, _, _, O2 _ v 1000 rfl hv, ⟨rfl, trivial⟩, rfl, .inl ⟨_, hab, eA_fits _, .inl ⟨_, hsg, fun _ => .inl ⟨_, h1, eA_fits _, .inr ⟨_, _, _, O3 _ v 1000 rfl hv, ⟨rfl, trivial⟩, rfl, .inl ⟨_, m1, RQ.A_fits _, by kernel_rfl, RQ.A_fits _, rfl, rfl, trivial⟩⟩⟩, nofun⟩⟩⟩, nofun⟩
    · refine ⟨_, k3, by omega, by omega, ⟨(mkQ y z.natAbs).1, rfl, mkQ_in _ _⟩, fun E v d hE hv => ?_⟩
      refine sx_ownT1 [] tt_ok mixed at22 E hE d (42, 2, tb v k, tb v k3) [SV.ptr 1000 0] _ rfl rfl fun w b hT => ?_
      have hv := hv.of_old hE.symm hT
      exact .inr ⟨_, _, _, O1 _ v 1000 rfl hv, ⟨rfl, trivial⟩, rfl, fun _ => .inr ⟨_, _, _, O2 _ v 1000 rfl hv, ⟨rfl, trivial⟩, rfl, .inl ⟨_, hab, eA_fits _, .inl ⟨_, hsg, fun h => absurd (eq_of_beq h) hy, fun _ => .inr ⟨_, _, _, O3 _ v 1000 rfl hv, ⟨rfl, trivial⟩, rfl, .inl ⟨_, m2, RQ.A_fits _, by kernel_rfl, RQ.A_fits _, rfl, rfl, trivial⟩⟩⟩⟩⟩, nofun⟩
theorem sgn_abs (z : Int) : (sgn (z.natAbs : Int) != 0) = !(sgn (z.natAbs : Int) == 0) := rfl
set_option smartUnfolding false in
set_option maxRecDepth 100000 in
set_option maxHeartbeats 4000000 in
theorem long_g : Gen 23 [] 500 (RA RQ.In) := by
  intro zs k hk
  have step : ∀ k : Nat, ∃ p : (Array Value × Int) × Nat, k + 70 ≤ 4000000000000000000 → (k ≤ p.2 ∧ p.2 ≤ k + 70 ∧ IsI p.1.1 p.1.2 ∧ ∀ (E : Env) (v : Value) (d : Key), E.P = Tryz.prog → Tp E v zs → Own E 64 [SV.ptr d 0, SV.c (.int .i64 480)] [(d, Blk.row 42 2 (tb v k))] (SV.c (.agg p.1.1)) [(d, Blk.row 42 2 (tb v p.2))]) := fun k => by
    by_cases h : k + 70 ≤ 4000000000000000000
    · obtain ⟨r, k', h1, h2, h3, h4⟩ := int_g (bits := 480) (by decide) (by decide) zs k h
      obtain ⟨A, z, rfl, hA⟩ := h3.isI
      exact ⟨((A, z), k'), fun _ => ⟨h1, h2, hA, h4⟩⟩
    · exact ⟨((#[], 0), 0), fun h2 => absurd h2 h⟩
  obtain ⟨F, hF⟩ := Classical.axiomOfChoice step
  obtain ⟨K, hK0, hKs⟩ : ∃ K : Nat → Nat, K 0 = k ∧ ∀ i, K (i + 1) = (F (K i)).2 := ⟨fun i => Nat.rec k (fun _ x => (F x).2) i, rfl, fun _ => rfl⟩
  have hKb : ∀ i, i ≤ 5 → k ≤ K i ∧ K i ≤ k + 70 * i := by
    intro i
    induction i with
    | zero => intro _; rw [hK0]; omega
    | succ i ih =>
      intro hi
      have h1 := ih (by omega)
      have h2 := hF (K i) (by omega)
      rw [hKs]; omega
  obtain ⟨t, ht, h1, h2⟩ : ∃ t, t ≤ 4 ∧ (∀ j, j < t → sgn ((F (K j)).1.2.natAbs : Int) = 0) ∧ (t < 4 → sgn ((F (K t)).1.2.natAbs : Int) ≠ 0) := by
    by_cases z0 : sgn ((F (K 0)).1.2.natAbs : Int) = 0
    · by_cases z1 : sgn ((F (K 1)).1.2.natAbs : Int) = 0
      · by_cases z2 : sgn ((F (K 2)).1.2.natAbs : Int) = 0
        · by_cases z3 : sgn ((F (K 3)).1.2.natAbs : Int) = 0
          · refine ⟨4, by omega, fun j hj => ?_, fun h => absurd h (by omega)⟩
            obtain rfl | rfl | rfl | rfl : j = 0 ∨ j = 1 ∨ j = 2 ∨ j = 3 := by omega
            all_goals assumption
          · refine ⟨3, by omega, fun j hj => ?_, fun _ => z3⟩
            obtain rfl | rfl | rfl : j = 0 ∨ j = 1 ∨ j = 2 := by omega
            all_goals assumption
        · refine ⟨2, by omega, fun j hj => ?_, fun _ => z2⟩
          obtain rfl | rfl : j = 0 ∨ j = 1 := by omega
          all_goals assumption
      · refine ⟨1, by omega, fun j hj => ?_, fun _ => z1⟩
        obtain rfl : j = 0 := by omega
        assumption
    · exact ⟨0, by omega, fun j hj => absurd hj (by omega), fun _ => z0⟩
  have hKt := hKb (t + 1) (by omega)
  have hlast : ∃ (r : Value) (k' : Nat), k ≤ k' ∧ k' ≤ k + 500 ∧ RA RQ.In r ∧ (t < 4 → ∃ y B, r = .agg (mkQ y (F (K t)).1.2.natAbs).1.A ∧ IsI B y ∧ ∀ (E : Env) (v : Value) (d : Key), E.P = Tryz.prog → Tp E v zs → Own E 64 [SV.ptr d 0, SV.c (.int .i64 480)] [(d, Blk.row 42 2 (tb v (K (t + 1))))] (SV.c (.agg B)) [(d, Blk.row 42 2 (tb v k'))]) ∧ (t = 4 → ∃ x : RQ, r = .agg x.A ∧ ∀ (E : Env) (v : Value) (d : Key), E.P = Tryz.prog → Tp E v zs → Own E 22 [SV.ptr d 0] [(d, Blk.row 42 2 (tb v (K 4)))] (SV.c r) [(d, Blk.row 42 2 (tb v k'))]) := by
    by_cases h : t < 4
    · obtain ⟨r, k', h3, h4, h5, h6⟩ := int_g (bits := 480) (by decide) (by decide) zs (K (t + 1)) (by omega)
      obtain ⟨B, y, rfl, hB⟩ := h5.isI
      exact ⟨_, k', by omega, by omega, ⟨(mkQ y (F (K t)).1.2.natAbs).1, rfl, mkQ_in _ _⟩, fun _ => ⟨y, B, rfl, hB, h6⟩, fun h => absurd h (by omega)⟩
    · have h4 := hKb 4 (by omega)
      obtain ⟨r, k', h3, h4, h5, h6⟩ := ratio_g zs (K 4) (by omega)
      refine ⟨r, k', by omega, by omega, h5, fun h2 => absurd h2 h, fun _ => ?_⟩
      obtain ⟨x, rfl, -⟩ := h5
      exact ⟨x, rfl, h6⟩
  obtain ⟨r, k', h3, h4, h5, h6, h7⟩ := hlast
  refine ⟨r, k', h3, h4, h5, fun E v d hE hv => ?_⟩
  obtain ⟨x, rfl, hx⟩ := h5
  refine sx_ownT1 [] tt_ok mixed at23 E hE d (42, 2, tb v k, tb v k') [SV.ptr 1000 0] _ rfl rfl fun w b hT => ?_
  have hv := hv.of_old hE.symm hT
  refine ⟨fun q f m => ∃ i : Nat, q = 4 - i ∧ i ≤ t ∧ f = [(0, SV.ptr 1000 0), (2, SV.ptr 2 0), (3, SV.c (.int .i64 i))] ∧ m = [(1000, Blk.row 42 2 (tb v (K i))), (2, Blk.row 27 66 ti27.zero)], 4, ⟨_, _, ⟨0, rfl, Nat.zero_le _, rfl, rfl⟩, ⟨rfl, rfl, rfl, trivial⟩, ⟨by rw [hK0]; rfl, rfl, trivial⟩, rfl⟩, ?_⟩
  rintro q f m ⟨i, rfl, hi1, rfl, rfl⟩
  refine ⟨fun h => ?_, fun h => ?_⟩
  · have h : i < 4 := by have := of_decide_eq_true h; omega
    have hb := hKb i (by omega)
    obtain ⟨f1, f2, f3, f4⟩ := hF (K i) (by omega)
    have hab := abs_r f3
    have hz : ((F (K i)).1.2.natAbs : Int).natAbs < BB ^ 32 := by
      obtain ⟨a, N, hN, -, e⟩ := f3.raw
      rw [Int.natAbs_natCast, e, zN_abs]; exact hN
    have hsg := sign_r (isI_e hz)
    have O1 := f4 _ v 1000 rfl hv
    rw [← hKs] at O1
    refine .inr ⟨_, _, _, O1, ⟨rfl, trivial⟩, rfl, .inl ⟨_, hab, eA_fits _, .inl ⟨_, hsg, fun n => ?_, fun n => ?_⟩⟩⟩
    · have hit : i = t := by
        by_cases e : i < t
        · rw [h1 i e] at n; cases n
        · omega
      subst hit
      obtain ⟨y, B, e, hB, O2⟩ := h6 h
      have m2 := make_r hB (isI_e hz)
      exact .inr ⟨_, _, _, O2 _ v 1000 rfl hv, ⟨rfl, trivial⟩, rfl, .inl ⟨_, m2, RQ.A_fits _, by kernel_rfl, RQ.A_fits _, e.symm, rfl, trivial⟩⟩
    · have hit : i < t := by
        by_cases e : i = t
        · subst e
          have := h2 h
          exact absurd (by simpa using n) this
        · omega
      exact ⟨4 - (i + 1), _, _, by omega, ⟨i + 1, rfl, by omega, rfl, rfl⟩, ⟨rfl, rfl, c_int (i64_in (by omega)), trivial⟩, ⟨rfl, rfl, trivial⟩, rfl⟩
  · have h : ¬ i < 4 := by have := of_decide_eq_false h; omega
    have hi : i = 4 := by omega
    have ht4 : t = 4 := by omega
    subst hi
    obtain ⟨x2, e, O2⟩ := h7 ht4
    exact .inr ⟨_, _, _, O2 _ v 1000 rfl hv, ⟨rfl, trivial⟩, rfl, RQ.A_fits _, rfl, rfl, trivial⟩
/-- ratios, one after the other -/
def rats : List RQ → Array Value
  | [] => #[]
  | x :: r => x.A ++ rats r
theorem rats_get : ∀ {xs : List RQ} {i : Nat} (h : i < xs.length), (rats xs).extract (0 + i * 66) (0 + i * 66 + 66) = xs[i].A
  | x :: r, 0, _ => by
    have := @ext_mid #[] x.A (rats r) 0 66 rfl x.A_size
    simpa [rats] using this
  | x :: r, i + 1, h => by
    have ih := rats_get (xs := r) (i := i) (by simpa using h)
    rw [rats, Array.extract_append, x.A_size]
    have e1 : 0 + (i + 1) * 66 - 66 = 0 + i * 66 := by omega
    have e2 : 0 + (i + 1) * 66 + 66 - 66 = 0 + i * 66 + 66 := by omega
    rw [e1, e2, ih, Array.extract_empty_of_size_le_start (by rw [x.A_size]; omega)]
    simp
set_option smartUnfolding false in
set_option maxRecDepth 100000 in
theorem pickratio3_g {a b c : RQ} (hin : ∀ x ∈ [a, b, c], x.In) : GenL 20 27 (rats [a, b, c]) 198 3 1 (RA RQ.In) := by
  intro zs k hk
  obtain ⟨r, k', h4, h5, ⟨i, rfl, h6, h7⟩, hO⟩ := next_g (n := 3) (by decide) zs k hk
  have hi : i.toNat < [a, b, c].length := by show i.toNat < 3; omega
  refine ⟨_, k', h4, h5, ⟨[a, b, c][i.toNat], rfl, hin _ (List.getElem_mem hi)⟩, fun E v d e hde hE hv => ?_⟩
  refine sx_ownT2 [] tt_ok mixed at20 E hE d e hde (42, 2, tb v k, tb v k') (27, 198, rats [a, b, c], rats [a, b, c]) [SV.ptr 1000 0, SV.sl 1001 0 3 3] _ rfl rfl fun w b b' hT => ?_
  have := hO _ v 1000 rfl (hv.of_old hE.symm hT)
  have hoff : 0 + i.toNat * 66 + 66 ≤ 198 := by omega
  exact ⟨nofun, fun _ => .inr ⟨_, _, _, this, ⟨rfl, trivial⟩, rfl, h6, by show i < 3; omega, hoff, _, rats_get hi, RQ.A_fits _, rfl, rfl, rfl, trivial⟩⟩
set_option smartUnfolding false in
set_option maxRecDepth 100000 in
theorem pickratio4_g {a b c d' : RQ} (hin : ∀ x ∈ [a, b, c, d'], x.In) : GenL 20 27 (rats [a, b, c, d']) 264 4 1 (RA RQ.In) := by
  intro zs k hk
  obtain ⟨r, k', h4, h5, ⟨i, rfl, h6, h7⟩, hO⟩ := next_g (n := 4) (by decide) zs k hk
  have hi : i.toNat < [a, b, c, d'].length := by show i.toNat < 4; omega
  refine ⟨_, k', h4, h5, ⟨[a, b, c, d'][i.toNat], rfl, hin _ (List.getElem_mem hi)⟩, fun E v d e hde hE hv => ?_⟩
  refine sx_ownT2 [] tt_ok mixed at20 E hE d e hde (42, 2, tb v k, tb v k') (27, 264, rats [a, b, c, d'], rats [a, b, c, d']) [SV.ptr 1000 0, SV.sl 1001 0 4 4] _ rfl rfl fun w b b' hT => ?_
  have := hO _ v 1000 rfl (hv.of_old hE.symm hT)
  have hoff : 0 + i.toNat * 66 + 66 ≤ 264 := by omega
  exact ⟨nofun, fun _ => .inr ⟨_, _, _, this, ⟨rfl, trivial⟩, rfl, h6, by show i < 4; omega, hoff, _, rats_get hi, RQ.A_fits _, rfl, rfl, rfl, trivial⟩⟩
set_option smartUnfolding false in
set_option maxRecDepth 100000 in
theorem pickratio5_g {a b c d' e' : RQ} (hin : ∀ x ∈ [a, b, c, d', e'], x.In) : GenL 20 27 (rats [a, b, c, d', e']) 330 5 1 (RA RQ.In) := by
  intro zs k hk
  obtain ⟨r, k', h4, h5, ⟨i, rfl, h6, h7⟩, hO⟩ := next_g (n := 5) (by decide) zs k hk
  have hi : i.toNat < [a, b, c, d', e'].length := by show i.toNat < 5; omega
  refine ⟨_, k', h4, h5, ⟨[a, b, c, d', e'][i.toNat], rfl, hin _ (List.getElem_mem hi)⟩, fun E v d e hde hE hv => ?_⟩
  refine sx_ownT2 [] tt_ok mixed at20 E hE d e hde (42, 2, tb v k, tb v k') (27, 330, rats [a, b, c, d', e'], rats [a, b, c, d', e']) [SV.ptr 1000 0, SV.sl 1001 0 5 5] _ rfl rfl fun w b b' hT => ?_
  have := hO _ v 1000 rfl (hv.of_old hE.symm hT)
  have hoff : 0 + i.toNat * 66 + 66 ≤ 330 := by omega
  exact ⟨nofun, fun _ => .inr ⟨_, _, _, this, ⟨rfl, trivial⟩, rfl, h6, by show i < 5; omega, hoff, _, rats_get hi, RQ.A_fits _, rfl, rfl, rfl, trivial⟩⟩
end Go.Proofs.YtnfmpddhcjkjbaaGreatDoor
