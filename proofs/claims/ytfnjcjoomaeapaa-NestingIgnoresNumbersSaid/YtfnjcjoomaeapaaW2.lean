/- walks -/
import Derived.Test.YtfnjcjoomaeapaaW1
namespace Go.Proofs.Ytfnjcjoomaeapaa
open Go.RowKit

theorem colSum_mono {hs : List (List Int)} {c : Nat} {n : Nat} (h : ∀ i, i < n → 0 ≤ Hd hs i c) : ∀ k, k ≤ n → ∀ j, j ≤ k → colSum hs c j ≤ colSum hs c k
  | 0, _, j, hj => by have : j = 0 := by omega
                      subst this; exact Int.le_refl _
  | k + 1, hk, j, hj => by
    have hh := h k (by omega)
    by_cases e : j = k + 1
    · subst e; exact Int.le_refl _
    · have ih := colSum_mono h k (by omega) j (by omega)
      simp only [colSum]; omega

set_option maxHeartbeats 2000000 in
theorem rcheck_any (u h : Value) (us : List Int) (hs : List (List Int)) (w : World) (hu : IntsAt w u us) (hh : RowsAt w h hs) :
    Calls Try.prog 25 #[.agg #[u, h]] w fun e w' => (e = .returned (.int .i64 (checkS us hs))) ∧ Below w.heap.size w w' := by
  obtain ⟨a, ca, rfl, hl, hx⟩ := hu
  obtain ⟨b, cb, rfl, hl', hy⟩ := hh
  have hbel : Below w.heap.size w (w.alloc (.cells #[.slice a us.length ca, .slice b hs.length cb] 25)) := (Below.refl _ _).alloc (Nat.le_refl _) _
  have Hbel := Lib.hid hbel; clear hbel
  have Hx := Lib.hid hx; clear hx
  have Hy := Lib.hid hy; clear hy
  by_cases h8 : us.length ≤ 8
  · by_cases hlen : hs.length = us.length
    · have hb' : ((hs.length : Int) != us.length) = false := by simp [hlen]
      have Hlen := Lib.hid hlen; clear hlen
      go_enter Try.func25, Try.ntmps25
      go_wp2
      go_loop [4] (fun i => ∃ k : Nat, k ≤ hs.length ∧ i = .int .i64 k ∧ RowsOk us hs k) (fun i => hs.length - (intOf i).toNat)
      case atStart => exact ⟨0, by omega, rfl, by intro j hj; omega⟩
      case round =>
        obtain ⟨k, hk, rfl, hr⟩ := hrel
        have Hr := Lib.hid hr; clear hr
        by_cases hlt : k < hs.length
        · obtain ⟨b1, o1, r, rfl, hb1, hc1, hr1⟩ := Hy.out k hlt
          obtain ⟨ar, cr, rfl, hlr, hxr⟩ := hr1
          have Hxr := Lib.hid hxr; clear hxr
          obtain ⟨b2, o2, rfl, hb2, hc2⟩ := Hx.out k (by have := Hlen.out; omega)
          have hku : k < us.length := by have := Hlen.out; omega
          go_wp2
          rotate_left
          · have hrl : (gR hs k).length = us.length := by omega
            have Hrl := Lib.hid hrl; clear hrl
            go_loop [5] (fun i => ∃ j : Nat, j ≤ (gR hs k).length ∧ i = .int .i64 j ∧ ∀ l, l < j → 0 ≤ Hd hs k l ∧ Hd hs k l ≤ M15) (fun i => (gR hs k).length - (intOf i).toNat)
            case atStart => exact ⟨0, by omega, rfl, by intro j hj; omega⟩
            case round =>
              obtain ⟨j, hj, rfl, hs1⟩ := hrel
              have Hs1 := Lib.hid hs1; clear hs1
              by_cases hjt : j < (gR hs k).length
              · obtain ⟨b3, o3, rfl, hb3, hc3⟩ := Hxr.out j hjt
                have hju : j < us.length := by have := Hrl.out; omega
                go_wp2
                case roundEnd =>
                  refine ⟨⟨j + 1, by omega, by go_num, fun l hl => ?_⟩, by simp [intOf]; omega⟩
                  by_cases e : l = j
                  · subst e; unfold Hd M15; omega
                  · exact Hs1.out l (by omega)
                all_goals
                  go_ret
                  exact ⟨ret_int (checkS_340 (by intro hS; have h := (hS.2.2 k hku).2.2.2 j (by omega); unfold Hd M15 at h; omega)).symm, Hbel.out⟩
              · have hju : ¬ j < us.length := by have := Hrl.out; omega
                go_wp2
                refine ⟨⟨k + 1, by omega, by go_num, fun i hi => ?_⟩, by simp [intOf]; omega⟩
                by_cases e : i = k
                · subst e
                  exact ⟨Hrl.out, by omega, by unfold M15; omega, fun l hl => Hs1.out l (by have := Hrl.out; omega)⟩
                · exact Hr.out i (by omega)
          all_goals
            go_ret
            exact ⟨ret_int (checkS_340 (by intro hS; have h := (hS.2.2 k hku); have h1 := h.1; have h2 := h.2.1; have h3 := h.2.2.1; unfold M15 at h3; omega)).symm, Hbel.out⟩
        · have hS : Shape us hs := ⟨h8, Hlen.out, fun i hi => Hr.out i (by have := Hlen.out; omega)⟩
          have Hs := Lib.hid hS; clear hS
          have hku : ¬ k < us.length := by have := Hlen.out; omega
          go_wp2
          go_loop [6] (fun i => ∃ k : Nat, k ≤ us.length ∧ i = .int .i64 k ∧ ColsOk us hs k) (fun i => us.length - (intOf i).toNat)
          case atStart => exact ⟨0, by omega, rfl, by intro j hj; omega⟩
          case round =>
            obtain ⟨c, hc, rfl, hcol⟩ := hrel
            have Hcol := Lib.hid hcol; clear hcol
            by_cases hct : c < us.length
            · obtain ⟨b2, o2, rfl, hb2, hc2⟩ := Hx.out c hct
              have hub := (Hs.out.2.2 c hct).2
              have hb6 : 0 ≤ gI us c := hub.1
              go_wp2
              go_loop [7, 8] (fun al i => ∃ k : Nat, k ≤ hs.length ∧ i = .int .i64 k ∧ al = .int .i64 (gI us c - colSum hs c k) ∧ 0 ≤ gI us c - colSum hs c k) (fun _ i => hs.length - (intOf i).toNat)
              case atStart => exact ⟨0, by omega, rfl, by simp [colSum], by simp [colSum]; omega⟩
              case round =>
                obtain ⟨j, hj, rfl, rfl, hpos⟩ := hrel
                have hjn : j ≤ 8 := by have := Hlen.out; omega
                have hbd := colSum_bd (hs := hs) (c := c) (n := us.length) (fun i hi => (Hs.out.2.2 i hi).2.2.2 c hct) j (by have := Hlen.out; omega)
                have hb4 : 0 ≤ colSum hs c j := hbd.1
                have hb5 : colSum hs c j ≤ 8000000000000000 := by have := hbd.2; unfold M15 at this; omega
                have hb7 : gI us c ≤ 1000000000000000 := hub.2.1
                clear hbd
                by_cases hjt : j < hs.length
                · obtain ⟨b1, o1, r, rfl, hb1, hc1, hr1⟩ := Hy.out j hjt
                  obtain ⟨ar, cr, rfl, hlr, hxr⟩ := hr1
                  have Hxr := Lib.hid hxr; clear hxr
                  have hju : j < us.length := by have := Hlen.out; omega
                  have hjr := (Hs.out.2.2 j hju)
                  have hjl : c < (gR hs j).length := by have := hjr.1; omega
                  have hjv := hjr.2.2.2 c hct
                  have hv1 : 0 ≤ gI (gR hs j) c := hjv.1
                  have hv2 : gI (gR hs j) c ≤ 1000000000000000 := hjv.2
                  clear hjr hjv
                  obtain ⟨b3, o3, rfl, hb3, hc3⟩ := Hxr.out c hjl
                  go_wp2
                  case roundEnd =>
                    refine ⟨⟨j + 1, by omega, by go_num, by simp only [colSum]; unfold Hd; go_num, by simp only [colSum]; unfold Hd; omega⟩, by simp [intOf]; omega⟩
                  all_goals
                    go_ret
                    refine ⟨ret_int (checkS_341 Hs.out (by
                      intro hH; have := hH c hct
                      have hm := colSum_mono (hs := hs) (c := c) (n := us.length) (fun i hi => ((Hs.out.2.2 i hi).2.2.2 c hct).1) us.length (Nat.le_refl _) (j + 1) (by omega)
                      simp only [colSum] at hm; unfold Hd at hm; omega)).symm, Hbel.out⟩
                · have hje : j = us.length := by have := Hlen.out; omega
                  have hju : ¬ j < us.length := by omega
                  have Hje := Lib.hid hje; clear hje
                  go_wp2
                  refine ⟨⟨c + 1, by omega, by go_num, fun i hi => ?_⟩, by simp [intOf]; omega⟩
                  by_cases e : i = c
                  · subst e; have e' := Hje.out; rw [← e']; omega
                  · exact Hcol.out i (by omega)
            · go_wp2
              go_ret
              exact ⟨ret_int (checkS_0 Hs.out (fun i hi => Hcol.out i (by omega))).symm, Hbel.out⟩
    · have hb' : ((hs.length : Int) != us.length) = true := by simp; omega
      have Hlen := Lib.hid hlen; clear hlen
      go_enter Try.func25, Try.ntmps25
      go_wp2
      go_ret
      exact ⟨ret_int (checkS_340 (by intro hS; exact Hlen.out hS.2.1)).symm, Hbel.out⟩
  · go_enter Try.func25, Try.ntmps25
    go_wp2
    go_ret
    exact ⟨ret_int (checkS_340 (by intro hS; exact h8 hS.1)).symm, Hbel.out⟩
end Go.Proofs.Ytfnjcjoomaeapaa
