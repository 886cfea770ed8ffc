/- walks: the reference's Grounded, Reach -/
import Derived.Test.YtfnjcjoomaeapaaW12
namespace Go.Proofs.Ytfnjcjoomaeapaa
open Go.RowKit

theorem own_any (v : Value) : v.ownBlock = none ∨ v.ownBlock ≠ none := by cases v.ownBlock <;> simp
theorem cell_alloc {w : World} {p : Addr} {v : Value} (h : w.cell? p = some v) (o : Obj) : (w.alloc o).cell? p = some v := (ExtW.alloc w o).2 _ _ h

set_option maxHeartbeats 4000000 in
theorem rGnd_any (u h : Value) (us : List Int) (hs : List (List Int)) (w : World) (hu : IntsAt w u us) (hh : RowsAt w h hs) :
    Calls Try.prog 23 #[.agg #[u, h]] w (GndRPost w us hs) := by
  have hb0 : Below w.heap.size w (w.alloc (.cells #[u, h] 25)) := (Below.refl _ _).alloc (Nat.le_refl _) _
  have Hb0 := Lib.hid hb0; clear hb0
  have Hu := Lib.hid hu; clear hu
  have Hh := Lib.hid hh; clear hh
  go_enter Try.func23, Try.ntmps23
  go_wp2_with fail
  refine (rParts_any u h us hs _ (Hu.out.ext (ExtW.of_below Hb0.out)) (Hh.out.ext (ExtW.of_below Hb0.out))).mono ?_
  rintro e w2 ⟨v, rfl, hv, hb1⟩
  have hc0 := below_cells hb1 w.heap.size 0 u (by rw [World.cell?_alloc_at _ _ _ _ rfl]; rfl)
  have hc1 := below_cells hb1 w.heap.size 1 h (by rw [World.cell?_alloc_at _ _ _ _ rfl]; rfl)
  have hbel := Hb0.out.trans (hb1.mono (by simp))
  have hw2 : w.heap.size < w2.heap.size := by have := hb1.size; simp at this; omega
  have Hbel := Lib.hid hbel; clear hbel hb1
  by_cases hz : checkS us hs = 0
  · have hS := (checkS_zero hz).1
    have Hz := Lib.hid hz
    rw [hz]
    clear hz
    have HS := Lib.hid hS; clear hS
    have h8 : us.length ≤ 8 := HS.out.1
    have Hpin := Lib.hid (fun k => @partsOf_in us hs k)
    have hplen : (partsOf us hs).length ≤ 9 := partsS_len _ _
    have HpR := Lib.hid (show partsR us hs = partsOf us hs by unfold partsR; rw [if_pos Hz.out])
    rw [HpR.out] at hv
    obtain ⟨ps, HP⟩ : ∃ ps, Hid (ps = partsOf us hs) := ⟨_, rfl⟩
    rw [← HP.out] at hv Hpin hplen HpR
    obtain ⟨pa, pc, rfl, hpl, hpx⟩ := hv
    have Hpx := Lib.hid hpx; clear hpx
    obtain ⟨i4, hi4, hz4, hs4, hb4⟩ := info_parts Try.info4
    have Hi4 := Lib.hid hi4; have Hz4 := Lib.hid hz4; have Hs4 := Lib.hid hs4; have Hb4 := Lib.hid hb4
    clear hi4 hz4 hs4 hb4
    have Hc0 := Lib.hid hc0; have Hc1 := Lib.hid hc1
    go_wp2_with fail
    go_loopw [6, 7] (fun out p wr => ∃ k : Nat, k ≤ ps.length ∧ p = .int .i64 k ∧ Own wr 4 out (((ps.take k).map (gndB us hs)).map Value.bool) ∧ (∀ k, out.ownBlock = some k → w2.heap.size ≤ k) ∧ w2.grownBy wr none) (fun _ p _ => ps.length - (intOf p).toNat)
    case atStart => exact ⟨0, by omega, rfl, Own.nil _ _, fun k hk => by simp [Value.ownBlock] at hk, World.grownBy.refl _ _⟩
    case round =>
      clear hc0 hc1
      obtain ⟨k, hk, rfl, hown, hblk, hgr⟩ := hrel
      have hszo : w2.heap.size ≤ wr.heap.size := hgr.size
      have d0 := hgr.cell Hc0.out (by simp)
      have d1 := hgr.cell Hc1.out (by simp)
      have Hown := Lib.hid hown; clear hown
      have Hblk := Lib.hid hblk; clear hblk
      have Hgr := Lib.hid hgr; clear hgr
      by_cases hkt : k < ps.length
      · obtain ⟨b1, o1, r, rfl, hb1, hcr1, hr⟩ := Hpx.out k hkt
        have d2 := Hgr.out.cell hcr1 (by simp)
        have Hr := Lib.hid hr; clear hr hcr1
        have Hp := Lib.hid (Hpin.out k hkt)
        have Hc3 := Lib.hid (show (((ps.take k).map (gndB us hs)).map Value.bool).length + 1 ≤ maxLen by simp; unfold maxLen; omega)
        have Hc4 := Lib.hid (show ((((ps.take k).map (gndB us hs)).map Value.bool).length + 1) * 1 ≤ 140737488355328 by simp; omega)
        have Hcall := Lib.hid (show ∀ W, ExtW w W → ExtW w2 W → Calls Try.prog 30 #[.agg #[u, h], r] W fun e w' => e = .returned (.bool (gndB us hs (gR ps k))) ∧ Below W.heap.size W w' from fun W h1 h2 => rgnd_any u h r us hs (gR ps k) W HS.out (Hu.out.ext h1) (Hh.out.ext h1) (Hr.out.ext h2) Hp.out.2 (by have := Hp.out.1; omega))
        have Hext := Lib.hid (show ExtW w2 wr.drew from (ExtW.grown Hgr.out).trans (Drew.ext ⟨1, rfl⟩))
        have Hext0 := Lib.hid ((ExtW.of_below Hbel.out).trans Hext.out)
        go_wp2_with fail
        go_region_held3 (fun w' => w'.cell? ⟨w.heap.size, 0, none⟩ = some u ∧ w'.cell? ⟨w.heap.size, 1, none⟩ = some h ∧ w'.cell? ⟨b1, o1 + k, none⟩ = some r)
          (first | exact ⟨d0, d1, d2⟩ | (refine ⟨?_, ?_, ?_⟩ <;> assumption) | (refine ⟨?_, ?_, ?_⟩ <;> (refine cell_alloc ?_ _; assumption)))
          (first
            | (go_at_call 30; refine (Hcall.out _ Hext0.out Hext.out).mono ?_; rintro e w4 ⟨rfl, hb4⟩; have e0 := below_cells hb4 _ _ _ d0; have e1 := below_cells hb4 _ _ _ d1; have e2 := below_cells hb4 _ _ _ d2; have hs4 := hb4.size; have Hbb4 := Lib.hid hb4; clear hb4)
            | (refine step_push _ (by rfl) _ _ _ (by rfl) 4 i4 (.bool false) 1 Try.underlying34 Hi4.out Hz4.out Hs4.out Hb4.out rfl u6 (((ps.take k).map (gndB us hs)).map Value.bool) (by rfl) (((Hown.out.drew ⟨1, rfl⟩).kept (grown_of_below Hbb4.out) (own_any _)).alloc _) ⟨w4.heap.size, 0, none⟩ 1 (.bool (gndB us hs (gR ps k))) (by rfl) (cell_new1 _ _ _) rfl Hc3.out Hc4.out ?_; intro v' w5 ho5 hg5 hf5; have g0 := hg5.cell (cell_alloc e0 _) (fun e => by have := Hblk.out _ e.symm; simp at this; omega); have g1 := hg5.cell (cell_alloc e1 _) (fun e => by have := Hblk.out _ e.symm; simp at this; omega); have g2 := hg5.cell (cell_alloc e2 _) (fun e => by have := Hblk.out _ e.symm; simp at this; omega); have Ho5 := Lib.hid ho5; have Hg5 := Lib.hid hg5; have Hf5 := Lib.hid hf5; clear ho5 hg5 hf5))
        go_wp2_with fail
        have hs5 := Hg5.out.size
        refine ⟨⟨k + 1, by omega, by go_num, ?_, Hf5.out.ge (lo := w2.heap.size) Hblk.out (by simp at hs4 ⊢; omega), ?_⟩, by simp [intOf]; omega⟩
        · have e : ((ps.take (k + 1)).map (gndB us hs)).map Value.bool = ((ps.take k).map (gndB us hs)).map Value.bool ++ [.bool (gndB us hs (gR ps k))] := by
            have e0 : gR ps k = ps[k] := by simp [gR, hkt]
            rw [e0, List.take_succ_eq_append_getElem hkt, List.map_append, List.map_append]
            rfl
          rw [e]
          exact Ho5.out
        · have hdd : wr.grownBy wr.drew none := ⟨rfl, rfl, rfl, Nat.le_refl _, fun _ _ _ => rfl⟩
          exact gb_new (gb_new (gb_new (gb_new Hgr.out hdd (fun q e => by cases e)) (grown_of_below Hbb4.out) (fun q e => by cases e)) (World.grownBy_alloc w4 (.cells #[.bool (gndB us hs (gR ps k))] 4) none) (fun q e => by cases e)) Hg5.out (fun q e => Hblk.out q e)
      · have hkn : k = ps.length := by omega
        subst hkn
        go_wp2_with fail
        go_ret2
        refine ⟨_, by rw [Hz.out]; rfl, ?_, Hbel.out.grown Hgr.out Hbel.out.size (fun k e => by cases e)⟩
        unfold gndR
        rw [HpR.out]
        have ho := Hown.out
        rw [List.take_length] at ho
        exact ho.bools (by simp; omega)
  · have hne : (checkS us hs != 0) = true := by simpa using hz
    have Hz := Lib.hid hz; clear hz
    go_wp2_with fail
    go_ret2
    exact ⟨_, rfl, by unfold gndR partsR; rw [if_neg Hz.out]; exact BoolsAt.nil _, Hbel.out⟩
set_option maxHeartbeats 2000000 in
theorem rReach_any (u h : Value) (us : List Int) (hs : List (List Int)) (i : Int) (w : World) (hu : IntsAt w u us) (hh : RowsAt w h hs) :
    Calls Try.prog 24 #[.agg #[u, h], .int .i64 i] w (ReachRPost w us hs i) := by
  have hb0 : Below w.heap.size w (w.alloc (.cells #[u, h] 25)) := (Below.refl _ _).alloc (Nat.le_refl _) _
  have Hb0 := Lib.hid hb0; clear hb0
  have Hu := Lib.hid hu; clear hu
  have Hh := Lib.hid hh; clear hh
  go_enter Try.func24, Try.ntmps24
  go_wp2_with fail
  refine (rcheck_any u h us hs _ (Hu.out.ext (ExtW.of_below Hb0.out)) (Hh.out.ext (ExtW.of_below Hb0.out))).mono ?_
  rintro e w1 ⟨rfl, hb1⟩
  have hc0 := below_cells hb1 w.heap.size 0 u (by rw [World.cell?_alloc_at _ _ _ _ rfl]; rfl)
  have hc1 := below_cells hb1 w.heap.size 1 h (by rw [World.cell?_alloc_at _ _ _ _ rfl]; rfl)
  have hbel := Hb0.out.trans (hb1.mono (by simp))
  have hz1 : w.heap.size < w1.heap.size := by have := hb1.size; simp at this; omega
  have Hbel := Lib.hid hbel; clear hbel hb1
  by_cases hz : checkS us hs = 0
  · have hS := (checkS_zero hz).1
    have Hz := Lib.hid hz
    rw [hz]
    clear hz
    have HS := Lib.hid hS; clear hS
    have h8 : us.length ≤ 8 := HS.out.1
    obtain ⟨a, ca, rfl, hl, hx⟩ := Hu.out
    have Hx := Lib.hid hx; clear hx
    by_cases hi0 : i < 0
    · have He := Lib.hid (show reachE us hs i = 340 by unfold reachE; rw [if_pos Hz.out, if_pos (.inl hi0)])
      go_wp2_with fail
      go_ret2
      exact ⟨_, by rw [He.out]; rfl, by unfold reachR; rw [He.out, if_neg (by decide)]; exact IntsAt.nil _, Hbel.out⟩
    · by_cases hin : i ≥ us.length
      · have He := Lib.hid (show reachE us hs i = 340 by unfold reachE; rw [if_pos Hz.out, if_pos (.inr hin)])
        go_wp2_with fail
        go_ret2
        exact ⟨_, by rw [He.out]; rfl, by unfold reachR; rw [He.out, if_neg (by decide)]; exact IntsAt.nil _, Hbel.out⟩
      · have He := Lib.hid (show reachE us hs i = 0 by unfold reachE; rw [if_pos Hz.out, if_neg (by omega)])
        obtain ⟨n, rfl⟩ := Int.eq_ofNat_of_zero_le (show 0 ≤ i by omega)
        have hn : n < us.length := by omega
        go_wp2_with fail
        refine (rreach_any _ h us hs _ HS.out (Hu.out.ext (ExtW.of_below Hbel.out)) (Hh.out.ext (ExtW.of_below Hbel.out))).mono ?_
        rintro e w2 ⟨B, rb, g, rfl, hgr, hgg, hb2⟩
        have hc0' := below_cells hb2 _ _ _ hc0
        have hz2 : w.heap.size < w2.heap.size := by have := hb2.size; omega
        have hbel2 := Hbel.out.trans (hb2.mono Hbel.out.size)
        have Hbel2 := Lib.hid hbel2; clear hbel2 hb2 hc0 hc1
        obtain ⟨R, HR⟩ : ∃ R, Hid (R = rB us.length hs) := ⟨_, rfl⟩
        have hgr' := hgr.congr (g' := rB us.length hs) (fun i j hi hj => hgg i j hi hj)
        rw [← HR.out] at hgr'
        have Hgr := Lib.hid hgr'; clear hgr hgr' hgg
        have Hown0 := Lib.hid (Own.nil w2 3)
        obtain ⟨ii, hi3, hz3, hs3, hb3⟩ := info_parts Try.info3
        have Hi3 := Lib.hid hi3; have Hz3 := Lib.hid hz3; have Hs3 := Lib.hid hs3; have Hb3 := Lib.hid hb3
        clear hi3 hz3 hs3 hb3
        go_wp2_with fail
        go_loopw [8, 9] (fun part p w3 => ∃ j : Nat, j ≤ us.length ∧ p = .int .i64 j ∧ Own w3 3 part ((reachTo R n j).map (Value.int .i64)) ∧ (∀ k, part.ownBlock = some k → w2.heap.size ≤ k) ∧ w2.grownBy w3 none) (fun _ p _ => us.length - (intOf p).toNat)
        case atStart => exact ⟨0, by omega, rfl, Hown0.out, fun k hk => by simp [Value.ownBlock] at hk, World.grownBy.refl _ _⟩
        case round =>
          obtain ⟨j, hj, rfl, hown, hblk, hgr⟩ := hrel
          have hszo : w2.heap.size ≤ wr.heap.size := hgr.size
          have hgrid := Hgr.out.kept hgr (fun q e => by cases e)
          have hc0r := hgr.cell hc0' (by simp)
          have Hown := Lib.hid hown; clear hown
          have Hblk := Lib.hid hblk; clear hblk
          have Hgw := Lib.hid hgr; clear hgr
          by_cases hjt : j < us.length
          · have r1 := hgrid.row n hn
            have hA := hgrid.cell n j hn hjt
            clear hgrid
            have hpl := reachTo_len (R := R) n j
            cases h1 : R n j with
            | true =>
              have Hb := Lib.hid h1
              rw [h1] at hA
              clear h1
              have Hc3 := Lib.hid (show ((reachTo R n j).map (Value.int .i64)).length + 1 ≤ maxLen by rw [List.length_map]; unfold maxLen; omega)
              have Hc4 := Lib.hid (show (((reachTo R n j).map (Value.int .i64)).length + 1) * 8 ≤ 140737488355328 by rw [List.length_map]; omega)
              go_wp2_with (at_builtin; refine wpList_push _ rfl _ _ 22 rfl 3 ii (.int .i64 0) 8 Try.underlying22 Hi3.out Hz3.out Hs3.out Hb3.out rfl _ ((reachTo R n j).map (Value.int .i64)) rfl (Hown.out.alloc _) ⟨wr.heap.size, 0, none⟩ 1 (.int .i64 j) rfl (cell_new1 _ _ _) rfl Hc3.out Hc4.out ?_; intro v' w4 ho4 hg4 hf4; have hs4 := hg4.size; have Ho4 := Lib.hid ho4; have Hg4 := Lib.hid hg4; have Hf4 := Lib.hid hf4; clear ho4 hg4 hf4)
              refine ⟨⟨j + 1, by omega, by go_num, ?_, Hf4.out.ge (lo := w2.heap.size) Hblk.out (by simp; omega), ?_⟩, by simp [intOf]; omega⟩
              · have e : (reachTo R n (j + 1)).map (Value.int .i64) = (reachTo R n j).map (Value.int .i64) ++ [.int .i64 j] := by simp [reachTo, Hb.out]
                rw [e]
                exact Ho4.out
              · exact gb_new (gb_new Hgw.out (World.grownBy_alloc wr (.cells #[.int .i64 j] 3) none) (fun q e => by cases e)) Hg4.out (fun q e => Hblk.out q e)
            | false =>
              have Hb := Lib.hid h1
              rw [h1] at hA
              clear h1
              go_wp2_with fail
              refine ⟨⟨j + 1, by omega, by go_num, ?_, Hblk.out, Hgw.out⟩, by simp [intOf]; omega⟩
              have e : reachTo R n (j + 1) = reachTo R n j := by simp [reachTo, Hb.out]
              rw [e]; exact Hown.out
          · have hjn : j = us.length := by omega
            subst hjn
            clear hgrid
            have hpl := reachTo_len (R := R) n us.length
            go_wp2_with fail
            go_ret2
            refine ⟨_, by rw [He.out]; rfl, ?_, Hbel2.out.grown Hgw.out Hbel2.out.size (fun k e => by cases e)⟩
            unfold reachR
            rw [if_pos He.out, ← HR.out]
            exact Hown.out.ints (by omega)
  · have hne : (checkS us hs != 0) = true := by simpa using hz
    have Hz := Lib.hid hz; clear hz
    have He := Lib.hid (show reachE us hs i = checkS us hs by unfold reachE; rw [if_neg Hz.out])
    go_wp2_with fail
    go_ret2
    exact ⟨_, by rw [He.out]; rfl, by unfold reachR; rw [He.out, if_neg Hz.out]; exact IntsAt.nil _, Hbel.out⟩

end Go.Proofs.Ytfnjcjoomaeapaa
