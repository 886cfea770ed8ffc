/- walks: Grounded -/
import Derived.Test.YtfnjcjoomaeapaaW8
import Derived.Test.YtfnjcjoomaeapaaGnd
namespace Go.Proofs.Ytfnjcjoomaeapaa
open Go.RowKit

noncomputable def gndR (us : List Int) (hs : List (List Int)) : List Bool := (partsR us hs).map (gndB us hs)
def GndRPost (w : World) (us : List Int) (hs : List (List Int)) (e : Ending) (w' : World) : Prop :=
  ∃ v, e = .returned (.tuple #[v, .int .i64 (checkS us hs)]) ∧ BoolsAt w' v (gndR us hs) ∧ Below w.heap.size w w'

theorem partsOf_in {us : List Int} {hs : List (List Int)} {k : Nat} (hk : k < (partsOf us hs).length) :
    (gR (partsOf us hs) k).length ≤ us.length ∧ ∀ x, x < (gR (partsOf us hs) k).length → 0 ≤ gI (gR (partsOf us hs) k) x ∧ gI (gR (partsOf us hs) k) x < us.length := by
  have hm : gR (partsOf us hs) k ∈ partsOf us hs := by
    unfold gR; rw [List.getD_eq_getElem?_getD, List.getElem?_eq_getElem hk]; exact List.getElem_mem hk
  obtain ⟨i, _, _, he⟩ := partsS_mem _ _ _ hm
  rw [he]
  exact ⟨partTo_len _ _, partTo_bd _ _⟩
theorem partsS_len {R : Nat → Nat → Bool} {n : Nat} : ∀ (k : Nat) (lst : Nat → Bool), (partsS R n k lst).length ≤ k
  | 0, _ => Nat.le_refl _
  | k + 1, lst => by
    unfold partsS
    split
    · simp
    · simp; exact partsS_len k _

set_option maxHeartbeats 4000000 in
theorem pGnd_any (u h : Value) (us : List Int) (hs : List (List Int)) (w : World) (hu : IntsAt w u us) (hh : RowsAt w h hs) :
    Calls Try.prog 13 #[.agg #[u, h]] w (GndRPost w us hs) := by
  have hb0 : Below w.heap.size w (w.alloc (.cells #[u, h] 25)) := (Below.refl _ _).alloc (Nat.le_refl _) _
  have Hb0 := Lib.hid hb0; clear hb0
  have Hu := Lib.hid hu; clear hu
  have Hh := Lib.hid hh; clear hh
  go_enter Try.func13, Try.ntmps13
  go_wp2_with fail
  refine (pcheck_any u h us hs _ (Hu.out.ext (ExtW.of_below Hb0.out)) (Hh.out.ext (ExtW.of_below Hb0.out))).mono ?_
  rintro e w1 ⟨rfl, hb1⟩
  have hc0 := below_cells hb1 w.heap.size 0 u (by rw [World.cell?_alloc_at _ _ _ _ rfl]; rfl)
  have hc1 := below_cells hb1 w.heap.size 1 h (by rw [World.cell?_alloc_at _ _ _ _ rfl]; rfl)
  have hbel := Hb0.out.trans (hb1.mono (by simp))
  have Hbel := Lib.hid hbel; clear hbel hb1
  by_cases hz : checkS us hs = 0
  · have hS := (checkS_zero hz).1
    have Hz := Lib.hid hz
    rw [hz]
    clear hz
    have HS := Lib.hid hS; clear hS
    have h8 : us.length ≤ 8 := HS.out.1
    go_wp2_with fail
    refine (pparts_any u h us hs _ HS.out (Hu.out.ext (ExtW.of_below Hbel.out)) (Hh.out.ext (ExtW.of_below Hbel.out))).mono ?_
    rintro e w2 ⟨v, rfl, hv, hb2⟩
    have hc0' := below_cells hb2 _ _ _ hc0
    have hc1' := below_cells hb2 _ _ _ hc1
    have hbel2 := Hbel.out.trans (hb2.mono Hbel.out.size)
    have Hbel2 := Lib.hid hbel2; clear hbel2 hb2 hc0 hc1
    have Hpin := Lib.hid (fun k => @partsOf_in us hs k)
    have hplen : (partsOf us hs).length ≤ 9 := partsS_len _ _
    have HpR := Lib.hid (show partsR us hs = partsOf us hs by unfold partsR; rw [if_pos Hz.out])
    obtain ⟨ps, HP⟩ : ∃ ps, Hid (ps = partsOf us hs) := ⟨_, rfl⟩
    rw [← HP.out] at hv Hpin hplen HpR
    obtain ⟨pa, pc, rfl, hpl, hpx⟩ := hv
    have Hpx := Lib.hid hpx; clear hpx
    obtain ⟨ua, uc, rfl, hul, hux⟩ := Hu.out.ext (ExtW.of_below Hbel2.out)
    have Hux := Lib.hid hux; clear hux
    obtain ⟨ha, hc, rfl, hhl, hhx⟩ := Hh.out.ext (ExtW.of_below Hbel2.out)
    have Hhx := Lib.hid hhx; clear hhx
    obtain ⟨ii, hi4, hz4, hs4, hb4⟩ := info_parts Try.info4
    have Hi4 := Lib.hid hi4; have Hz4 := Lib.hid hz4; have Hs4 := Lib.hid hs4; have Hb4 := Lib.hid hb4
    clear hi4 hz4 hs4 hb4
    go_wp2_with fail
    go_loopw [5, 22] (fun out p wr => ∃ k : Nat, k ≤ ps.length ∧ p = .int .i64 k ∧ Own wr 4 out (((ps.take k).map (gndB us hs)).map Value.bool) ∧ (∀ k, out.ownBlock = some k → w2.heap.size ≤ k) ∧ w2.grownBy wr none) (fun _ p _ => ps.length - (intOf p).toNat)
    case atStart => exact ⟨0, by omega, rfl, Own.nil _ _, fun k hk => by simp [Value.ownBlock] at hk, World.grownBy.refl _ _⟩
    case round =>
      obtain ⟨k, hk, rfl, hown, hblk, hgr⟩ := hrel
      have hszo : w2.heap.size ≤ wr.heap.size := hgr.size
      have hc0r := hgr.cell hc0' (by simp)
      have hc1r := hgr.cell hc1' (by simp)
      have Hown := Lib.hid hown; clear hown
      have Hblk := Lib.hid hblk; clear hblk
      have Hgr := Lib.hid hgr; clear hgr
      by_cases hkt : k < ps.length
      · obtain ⟨b1, o1, r, rfl, hb1, hcr1, hr⟩ := Hpx.out k hkt
        obtain ⟨ra, rc, rfl, hrl, hrx⟩ := hr
        have Hrx := Lib.hid hrx; clear hrx
        have hcr := Hgr.out.cell hcr1 (by simp)
        clear hcr1
        have Hp := Lib.hid (Hpin.out k hkt)
        have hpl8 : (gR ps k).length ≤ 8 := by have := Hp.out.1; omega
        obtain ⟨pt, HPT⟩ : ∃ pt, Hid (pt = gR ps k) := ⟨_, rfl⟩
        rw [← HPT.out] at Hrx Hp hpl8 hrl hcr
        go_wp2_with fail
        go_loop [8, 28] (fun sm p => ∃ x : Nat, x ≤ pt.length ∧ p = .int .i64 x ∧ sm = .bool (gndTo us hs pt x)) (fun _ p => pt.length - (intOf p).toNat)
        case atStart => exact ⟨0, by omega, rfl, rfl⟩
        case round =>
          obtain ⟨x, hx, rfl, rfl⟩ := hrel
          by_cases hxt : x < pt.length
          · obtain ⟨b2, o2, rfl, hb2, hc2⟩ := Hrx.out x hxt
            have hpx := Hp.out.2 x hxt
            obtain ⟨j, hj⟩ := Int.eq_ofNat_of_zero_le hpx.1
            have hjn : j < us.length := by omega
            have hc2r := Hgr.out.cell hc2 (by simp)
            rw [hj] at hc2r
            have Hj := Lib.hid hj
            clear hj hc2 hpx
            go_wp2_with fail
            go_loop [11, 34] (fun hd p => ∃ y : Nat, y ≤ pt.length ∧ p = .int .i64 y ∧ hd = .int .i64 (hsum hs pt j y)) (fun _ p => pt.length - (intOf p).toNat)
            case atStart => exact ⟨0, by omega, rfl, rfl⟩
            case round =>
              obtain ⟨y, hy, rfl, rfl⟩ := hrel
              have hsb := hsum_bd HS.out Hp.out.2 hjn y hy
              have hsb1 : 0 ≤ hsum hs pt j y := hsb.1
              have hsb2 : hsum hs pt j y ≤ 8000000000000000 := by have := hsb.2; unfold M15 at this; omega
              clear hsb
              by_cases hyt : y < pt.length
              · obtain ⟨b3, o3, hb3e, hb3, hc3⟩ := Hrx.out y hyt
                cases hb3e
                have hpy := Hp.out.2 y hyt
                obtain ⟨i, hi⟩ := Int.eq_ofNat_of_zero_le hpy.1
                have hin : i < us.length := by omega
                have hc3r := Hgr.out.cell hc3 (by simp)
                rw [hi] at hc3r
                have Hi := Lib.hid hi
                clear hi hc3 hpy
                have hih : i < hs.length := by have := HS.out.2.1; omega
                obtain ⟨b4, o4, r4, rfl, hb4, hc4, hr4⟩ := Hhx.out i hih
                obtain ⟨a4, c4, rfl, hl4, hx4⟩ := hr4
                have hS4 := HS.out.2.2 i hin
                obtain ⟨b5, o5, rfl, hb5, hc5⟩ := hx4 j (by have := hS4.1; omega)
                have hjl : j < (gR hs i).length := by have := hS4.1; omega
                have hv1 : 0 ≤ gI (gR hs i) j := (hS4.2.2.2 j hjn).1
                have hv2 : gI (gR hs i) j ≤ 1000000000000000 := (hS4.2.2.2 j hjn).2
                have hc4r := Hgr.out.cell hc4 (by simp)
                have hc5r := Hgr.out.cell hc5 (by simp)
                clear hx4 hS4 hc4 hc5
                go_wp2_with fail
                refine ⟨⟨y + 1, by omega, by go_num, ?_⟩, by simp [intOf]; omega⟩
                simp only [hsum]; rw [Hi.out]; rfl
              · have hyn : y = pt.length := by omega
                subst hyn
                obtain ⟨b6, o6, rfl, hb6, hc6⟩ := Hux.out j hjn
                have hc6r := Hgr.out.cell hc6 (by simp)
                clear hc6
                cases hg : gndTo us hs pt x with
                | true =>
                  have Hg := Lib.hid hg; clear hg
                  go_wp2_with fail
                  refine ⟨⟨x + 1, by omega, by go_num, ?_⟩, by simp [intOf]; omega⟩
                  simp [gndTo, Hg.out]
                | false =>
                  have Hg := Lib.hid hg; clear hg
                  go_wp2_with fail
                  refine ⟨⟨x + 1, by omega, by go_num, ?_⟩, by simp [intOf]; omega⟩
                  simp [gndTo, Hg.out, Hj.out]
          · have hxn : x = pt.length := by omega
            subst hxn
            have Hc3 := Lib.hid (show (((ps.take k).map (gndB us hs)).map Value.bool).length + 1 ≤ maxLen by simp; unfold maxLen; omega)
            have Hc4 := Lib.hid (show ((((ps.take k).map (gndB us hs)).map Value.bool).length + 1) * 1 ≤ 140737488355328 by simp; omega)
            have Hg := Lib.hid (show gndTo us hs pt pt.length = gndB us hs (gR ps k) by rw [← HPT.out]; rfl)
            rw [Hg.out]
            go_wp2_with (at_builtin; refine wpList_push _ rfl _ _ 34 rfl 4 ii (.bool false) 1 Try.underlying34 Hi4.out Hz4.out Hs4.out Hb4.out rfl _ (((ps.take k).map (gndB us hs)).map Value.bool) rfl (Hown.out.alloc _) ⟨wr.heap.size, 0, none⟩ 1 (.bool (gndB us hs (gR ps k))) rfl (cell_new1 _ _ _) rfl Hc3.out Hc4.out ?_; intro v' w4 ho4 hg4 hf4; have hs4 := hg4.size; have Ho4 := Lib.hid ho4; have Hg4 := Lib.hid hg4; have Hf4 := Lib.hid hf4; clear ho4 hg4 hf4)
            have hlo := Hf4.out.ge (lo := w2.heap.size) Hblk.out (by simp; omega)
            refine ⟨⟨k + 1, by omega, by go_num, ?_, hlo, ?_⟩, by simp [intOf]; omega⟩
            · have e : ((ps.take (k + 1)).map (gndB us hs)).map Value.bool = ((ps.take k).map (gndB us hs)).map Value.bool ++ [.bool (gndB us hs (gR ps k))] := by
                have e0 : gR ps k = ps[k] := by simp [gR, hkt]
                rw [e0, List.take_succ_eq_append_getElem hkt, List.map_append, List.map_append]
                rfl
              rw [e]
              exact Ho4.out
            · exact gb_new (gb_new Hgr.out (World.grownBy_alloc wr (.cells #[.bool (gndB us hs (gR ps k))] 4) none) (fun q e => by cases e)) Hg4.out (fun q e => Hblk.out q e)
      · have hkn : k = ps.length := by omega
        subst hkn
        go_wp2_with fail
        go_ret2
        refine ⟨_, by rw [Hz.out]; rfl, ?_, Hbel2.out.grown Hgr.out Hbel2.out.size (fun k e => by cases e)⟩
        unfold gndR
        rw [HpR.out]
        have ho := Hown.out
        rw [List.take_length] at ho
        exact ho.bools (by simp; omega)
  · have hne : (checkS us hs != 0) = true := by simpa using hz
    have Hz := Lib.hid hz; clear hz
    go_wp2_with fail
    go_ret2
    exact ⟨_, rfl, by unfold gndR partsR; rw [if_neg Hz.out]; exact BoolsAt.nil _, Hbel.out⟩
end Go.Proofs.Ytfnjcjoomaeapaa
