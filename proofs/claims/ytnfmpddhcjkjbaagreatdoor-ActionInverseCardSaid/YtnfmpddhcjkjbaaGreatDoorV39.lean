/- walks: the law ActionPlays; no condition. -/
import Derived.Test.YtnfmpddhcjkjbaaGreatDoorV38
namespace Go.Proofs.YtnfmpddhcjkjbaaGreatDoor
open Go Go.RowKit Go.SX
theorem fill_tape (a : Option Addr) (len cap : Nat) {pl : List (Nat × Nat)} (hpl : pl = [(0, 1), (1, 1)]) : Instr.fill (fun k => pl[k]?) ti42.zero [(0, .slice a len cap)] = some (tb (.slice a len cap) 0) := by
  subst hpl
  rfl
set_option maxRecDepth 100000 in
theorem fill_rats3 (a b c : RQ) : Instr.fill (fun k => some (k * ti27.size, ti27.size)) (madeCells ti27.zero (3 * ti27.size)) [(0, .agg a.A), (1, .agg b.A), (2, .agg c.A)] = some (rats [a, b, c]) := by kernel_rfl
set_option smartUnfolding false in
set_option maxRecDepth 100000 in
set_option maxHeartbeats 4000000 in
theorem actionPlays_f {v : Value} {zs : List Int} (w : World) (hv : Tp (envP Tryz.prog tt Tryz.f4.ntmps w).toEnv v zs) : Calls Tryz.prog 4 #[v] w fun e w' => e = .returned (.bool true) ∧ Below w.heap.size w w' := by
  refine sx_at [] tt_ok mixed at4 [v] _ w rfl ?_
  have hv0 := hv
  obtain ⟨a, cap, rfl, -⟩ := hv0
  refine ⟨_, fill_tape a zs.length cap rfl, rfl, ?_⟩
  generalize hvv : Value.slice a zs.length cap = v at *
  refine ⟨fun q f m => ∃ i k : Nat, q = 3 - i ∧ i ≤ 3 ∧ k ≤ 10000 * i ∧ f = [(0, SV.c v), (3, SV.ptr 8 0), (4, SV.c (.int .i64 i))] ∧ m = [(8, Blk.row 42 2 (tb v k))], 3, ⟨_, _, ⟨0, 0, rfl, by omega, by omega, rfl, rfl⟩, ⟨rfl, rfl, rfl, trivial⟩, ⟨rfl, trivial⟩, rfl⟩, ?_⟩
  rintro q f m ⟨i, k, rfl, hi, hk, rfl, rfl⟩
  refine ⟨fun h => ?_, fun h => ?_⟩
  · have h : i < 3 := by have := of_decide_eq_true h; omega
    obtain ⟨r1, k1, a1, b1, ⟨i1, rfl, c1⟩, O1⟩ := day_g zs k (by omega)
    obtain ⟨r2, k2, a2, b2, ⟨i2, rfl, c2⟩, O2⟩ := next_g (n := 9) (by decide) zs k1 (by omega)
    obtain ⟨r3, k3, a3, b3, ⟨A, rfl, c3⟩, O3⟩ := action_g i1 (IntKind.i64.wrap (1 + i2)) zs k2 (by omega)
    obtain ⟨r4, k4, a4, b4, ⟨i4, rfl, c4⟩, O4⟩ := next_g (n := 100000) (by decide) zs k3 (by omega)
    obtain ⟨r5, k5, a5, b5, ⟨i5, rfl, c5⟩, O5⟩ := pick_g (xs := [0, 1, 7, i4, -1, 1000000000000000, 1000000000000001, 333333333333333]) (by simp) (by simp) zs k4 (by omega)
    obtain ⟨r6, k6, a6, b6, ⟨x6, rfl, c6⟩, O6⟩ := price_g zs k5 (by omega)
    obtain ⟨r7, k7, a7, b7, ⟨x7, rfl, c7⟩, O7⟩ := ratio_g zs k6 (by omega)
    obtain ⟨r8, k8, a8, b8, ⟨x8, rfl, c8⟩, O8⟩ := long_g zs k7 (by omega)
    have hin : ∀ x ∈ [x6, x7, x8], x.In := by
      intro x hx
      simp at hx
      rcases hx with rfl | rfl | rfl
      · exact c6.in_
      · exact c7
      · exact c8
    obtain ⟨r9, k9, a9, b9, ⟨x9, rfl, c9⟩, O9⟩ := pickratio3_g (a := x6) (b := x7) (c := x8) hin zs k8 (by omega)
    have hx := actionExact_f c3 i5 c9
    refine .inr ⟨_, _, _, O1 _ v 8 rfl hv, ⟨rfl, trivial⟩, rfl, .inr ⟨_, _, _, O2 _ v 8 rfl hv, ⟨rfl, trivial⟩, rfl, .inr ⟨_, _, _, O3 _ v 8 rfl hv, ⟨rfl, trivial⟩, rfl, AC.fits _, ?_⟩⟩⟩
    refine .inr ⟨_, _, _, O4 _ v 8 rfl hv, ⟨rfl, trivial⟩, rfl, by decide, by decide, ints [0, 1, 7, i4, -1, 1000000000000000, 1000000000000001, 333333333333333], by kernel_rfl, rfl, .inr ⟨_, _, _, O5 _ v 8 24 (by decide) rfl hv, ⟨rfl, rfl, trivial⟩, rfl, ?_⟩⟩
    refine .inr ⟨_, _, _, O6 _ v 8 rfl hv, ⟨rfl, trivial⟩, rfl, .inr ⟨_, _, _, O7 _ v 8 rfl hv, ⟨rfl, trivial⟩, rfl, .inr ⟨_, _, _, O8 _ v 8 rfl hv, ⟨rfl, trivial⟩, rfl, by decide, by decide, rats [x6, x7, x8], fill_rats3 _ _ _, by simp [rats, RQ.A_size]; rfl, ?_⟩⟩⟩
    refine .inr ⟨_, _, _, O9 _ v 8 33 (by decide) rfl hv, ⟨rfl, rfl, trivial⟩, rfl, .inl ⟨_, hx, by kernel_rfl, nofun, fun _ => ?_⟩⟩
    exact ⟨3 - (i + 1), _, _, by omega, ⟨i + 1, k9, rfl, by omega, by omega, rfl, rfl⟩, ⟨rfl, rfl, c_int (i64_in (by omega)), trivial⟩, ⟨rfl, trivial⟩, rfl⟩
  · exact .inl ⟨_, known_f, rfl, trivial⟩
end Go.Proofs.YtnfmpddhcjkjbaaGreatDoor
