/- walks: the reference's grounded, Grounded, Reach -/
import Derived.Test.YtfnjcjoomaeapaaW11
namespace Go.Proofs.Ytfnjcjoomaeapaa
open Go.RowKit

theorem step_push {P : Program} (w : World) {ops : Array Oper} {o : Oper} {a : Act} {K : Act → World → Prop} {Q : Exit → Act → World → Prop} {E : Prop} (hgd : o.guard = none) (s x : Operand) (t : TypeId)
    (ho : o.op = .call { callee := .builtin .append, args := #[s, x], argTypes := #[t, t] })
    (e : TypeId) (i : TypeInfo) (z : Value) (bytes : Nat) (ht : P.underlying t = some (.slice e)) (hi : P.info? e = some i) (hz : i.zero = some z)
    (hsize : i.size = 1) (hby : i.bytes = bytes) (hzs : z.cells.size = 1) (v : Value) (xs : List Value) (hs : a.eval s = v) (hown : Own w e v xs)
    (ad : Addr) (c : Nat) (u : Value) (hx : a.eval x = .slice (some ad) 1 c) (hu : w.cell? ad = some u) (h1 : u.oneCell' = true)
    (h63 : xs.length + 1 ≤ maxLen) (hbytes : (xs.length + 1) * bytes ≤ 140737488355328)
    (h : ∀ v' w', Own w' e v' (xs ++ [u]) → w.grownBy w' v.ownBlock → FreshOr w v v' → K (a.put o.dst v') w') : if Region.wanted o (yielded ops a.tmps) = true then Oper.wp P o a w K Q else E := by
  have hw : Region.wanted o (yielded ops a.tmps) = true := by simp [Region.wanted, hgd]
  rw [if_pos hw]
  obtain ⟨v', w', hr, h2, h3, h4⟩ := run_push (P := P) w t o.type e i z bytes ht hi hz hsize hby hzs v xs hown ad c u hu h1 h63 hbytes
  unfold Oper.wp execOp
  simp only [ho, resolve, invoke, builtin, Sem.run_bind, Sem.run_pure, Result.andThen_ok, List.map_toArray, List.map_cons, List.map_nil, hs, hx, hr]
  exact h v' w' h2 h3 h4

theorem gndTo_up {us : List Int} {hs : List (List Int)} {pt : List Int} : ∀ {k x : Nat}, x ≤ k → gndTo us hs pt x = true → gndTo us hs pt k = true
  | 0, x, h, hg => by have : x = 0 := by omega
                      subst this; exact hg
  | k + 1, x, h, hg => by
    by_cases e : x = k + 1
    · subst e; exact hg
    · simp [gndTo, gndTo_up (show x ≤ k by omega) hg]

set_option maxHeartbeats 4000000 in
theorem rgnd_any (u h pv : Value) (us : List Int) (hs : List (List Int)) (pt : List Int) (w : World) (hS : Shape us hs) (hu : IntsAt w u us) (hh : RowsAt w h hs) (hpt : IntsAt w pv pt)
    (hin : ∀ x, x < pt.length → 0 ≤ gI pt x ∧ gI pt x < us.length) (hp8 : pt.length ≤ 8) :
    Calls Try.prog 30 #[.agg #[u, h], pv] w fun e w' => e = .returned (.bool (gndB us hs pt)) ∧ Below w.heap.size w w' := by
  have Hin := Lib.hid hin; clear hin
  have HS := Lib.hid hS; clear hS
  have h8 : us.length ≤ 8 := HS.out.1
  obtain ⟨pa, pc, rfl, hpl, hpx⟩ := hpt
  have Hpx := Lib.hid hpx; clear hpx
  obtain ⟨ua, uc, rfl, hul, hux⟩ := hu
  have Hux := Lib.hid hux; clear hux
  obtain ⟨ha, hc, rfl, hhl, hhx⟩ := hh
  have Hhx := Lib.hid hhx; clear hhx
  have hb0 : Below w.heap.size w (w.alloc (.cells #[.slice ua us.length uc, .slice ha hs.length hc] 25)) := (Below.refl _ _).alloc (Nat.le_refl _) _
  have hc0w : (w.alloc (.cells #[.slice ua us.length uc, .slice ha hs.length hc] 25)).cell? ⟨w.heap.size, 0, none⟩ = some (.slice ua us.length uc) := by rw [World.cell?_alloc_at _ _ _ _ rfl]; rfl
  have hc1w : (w.alloc (.cells #[.slice ua us.length uc, .slice ha hs.length hc] 25)).cell? ⟨w.heap.size, 1, none⟩ = some (.slice ha hs.length hc) := by rw [World.cell?_alloc_at _ _ _ _ rfl]; rfl
  have Henv0 := Lib.hid (show REnv w (w.alloc (.cells #[.slice ua us.length uc, .slice ha hs.length hc] 25)) (.slice ua us.length uc) (.slice ha hs.length hc) from ⟨hb0, hc0w, hc1w⟩)
  clear hb0 hc0w hc1w
  go_enter Try.func30, Try.ntmps30
  go_wp2_with fail
  go_loopw [5] (fun p wr => ∃ x : Nat, x ≤ pt.length ∧ p = .int .i64 x ∧ gndTo us hs pt x = false ∧ REnv w wr (.slice ua us.length uc) (.slice ha hs.length hc)) (fun p _ => pt.length - (intOf p).toNat)
  case atStart => exact ⟨0, by omega, rfl, rfl, Henv0.out⟩
  case round =>
    clear Henv0
    obtain ⟨x, hx, rfl, hg, henv⟩ := hrel
    have Hg := Lib.hid hg; clear hg
    have Henv := Lib.hid henv; clear henv
    by_cases hxt : x < pt.length
    · obtain ⟨b2, o2, rfl, hb2, hc2⟩ := Hpx.out x hxt
      have hpx := Hin.out x hxt
      obtain ⟨j, hj⟩ := Int.eq_ofNat_of_zero_le hpx.1
      have hjn : j < us.length := by omega
      rw [hj] at hc2
      have Hc2 := Lib.hid hc2
      have Hj := Lib.hid hj
      clear hj hc2 hpx
      go_wp2_with fail
      go_loopw [6, 7] (fun hd p wr => ∃ y : Nat, y ≤ pt.length ∧ p = .int .i64 y ∧ hd = .int .i64 (hsum hs pt j y) ∧ REnv w wr (.slice ua us.length uc) (.slice ha hs.length hc)) (fun _ p _ => pt.length - (intOf p).toNat)
      case atStart => exact ⟨0, by omega, rfl, rfl, Henv.out⟩
      case round =>
        clear Henv
        obtain ⟨y, hy, rfl, rfl, henv⟩ := hrel
        have hsb := hsum_bd HS.out Hin.out hjn y hy
        have hsb1 : 0 ≤ hsum hs pt j y := hsb.1
        have hsb2 : hsum hs pt j y ≤ 8000000000000000 := by have := hsb.2; unfold M15 at this; omega
        clear hsb
        have k0 := henv.c0
        have k1 := henv.c1
        have hc2r : wr.cell? ⟨b2, o2 + x, none⟩ = some (.int .i64 j) := by rw [henv.below.cell hb2]; exact Hc2.out
        by_cases hyt : y < pt.length
        · obtain ⟨b3, o3, hb3e, hb3, hc3⟩ := Hpx.out y hyt
          cases hb3e
          have hpy := Hin.out y hyt
          obtain ⟨i, hi⟩ := Int.eq_ofNat_of_zero_le hpy.1
          have hin : i < us.length := by omega
          rw [hi] at hc3
          have hc3r : wr.cell? ⟨b2, o2 + y, none⟩ = some (.int .i64 i) := by rw [henv.below.cell hb2]; exact hc3
          have Hi := Lib.hid hi
          clear hi hc3 hpy
          have hih : i < hs.length := by have := HS.out.2.1; omega
          obtain ⟨b4, o4, r4, rfl, hb4, hc4, hr4⟩ := Hhx.out i hih
          obtain ⟨a4, c4, rfl, hl4, hx4⟩ := hr4
          have hS4 := HS.out.2.2 i hin
          obtain ⟨b5, o5, rfl, hb5, hc5⟩ := hx4 j (by have := hS4.1; omega)
          have hjl : j < (gR hs i).length := by have := hS4.1; omega
          have hv1 : 0 ≤ gI (gR hs i) j := (hS4.2.2.2 j hjn).1
          have hv2 : gI (gR hs i) j ≤ 1000000000000000 := (hS4.2.2.2 j hjn).2
          have hc4r : wr.cell? ⟨b4, o4 + i, none⟩ = some (.slice (some ⟨b5, o5, none⟩) (gR hs i).length c4) := by rw [henv.below.cell hb4]; exact hc4
          have hc5r : wr.cell? ⟨b5, o5 + j, none⟩ = some (.int .i64 (gI (gR hs i) j)) := by rw [henv.below.cell hb5]; exact hc5
          clear hx4 hS4 hc4 hc5
          have hw1 : IntKind.i64.wrap (hsum hs pt j y + gI (gR hs i) j) = hsum hs pt j y + gI (gR hs i) j := IntWalk.i64_in _ (by omega)
          have Henv := Lib.hid henv; clear henv
          go_wp2_with fail
          go_quiet (fail)
          go_wp2_with fail
          refine ⟨⟨y + 1, by omega, by go_num, ?_, ?_⟩, by simp [intOf]; omega⟩
          · simp only [hsum]; rw [Hi.out]; first | rfl | (congr 1)
          · have he := Henv.out
            exact ⟨(Drew.below ⟨_, rfl⟩ _ |> he.below.trans), he.c0, he.c1⟩
        · have hyn : y = pt.length := by omega
          subst hyn
          obtain ⟨b6, o6, rfl, hb6, hc6⟩ := Hux.out j hjn
          have hc6r : wr.cell? ⟨b6, o6 + j, none⟩ = some (.int .i64 (gI us j)) := by rw [henv.below.cell hb6]; exact hc6
          clear hc6
          have Henv := Lib.hid henv; clear henv
          by_cases hlt : hsum hs pt j pt.length < gI us j
          · have Hx := Lib.hid (show gndB us hs pt = true from gndTo_up (show x + 1 ≤ pt.length by omega) (by simp only [gndTo]; rw [Hj.out]; simp [hlt]))
            go_wp2_with fail
            go_quiet (fail)
            go_wp2_with fail
            go_ret
            exact ⟨ret_bool Hx.out.symm, Henv.out.below.trans (Drew.below ⟨_, rfl⟩ _)⟩
          · have Hx := Lib.hid (show gndTo us hs pt (x + 1) = false by simp only [gndTo, Hg.out]; rw [Hj.out]; simp; omega)
            go_wp2_with fail
            go_quiet (fail)
            go_wp2_with fail
            refine ⟨⟨x + 1, by omega, by go_num, Hx.out, ?_⟩, by simp [intOf]; omega⟩
            have he := Henv.out
            exact ⟨he.below.trans (Drew.below ⟨_, rfl⟩ _), he.c0, he.c1⟩
    · have hxn : x = pt.length := by omega
      subst hxn
      go_wp2_with fail
      go_ret
      exact ⟨ret_bool Hg.out.symm, Henv.out.below⟩
end Go.Proofs.Ytfnjcjoomaeapaa
