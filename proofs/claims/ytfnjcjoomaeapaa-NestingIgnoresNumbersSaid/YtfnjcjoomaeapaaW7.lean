/- walks: parts -/
import Derived.Test.YtfnjcjoomaeapaaW6
import Derived.Deep.LoopGhost
namespace Go.Proofs.Ytfnjcjoomaeapaa
open Go.RowKit

theorem grown_of_below {w w' : World} (h : Below w.heap.size w w') : w.grownBy w' none := ⟨h.os, h.tape, h.output, h.size, fun k hk _ => h.block k hk⟩

noncomputable def partsOf (us : List Int) (hs : List (List Int)) : List (List Int) := partsS (rB us.length hs) us.length 9 (fun _ => false)
def PartsPost (w : World) (us : List Int) (hs : List (List Int)) (e : Ending) (w' : World) : Prop :=
  ∃ v, e = .returned v ∧ RowsAt w' v (partsOf us hs) ∧ Below w.heap.size w w'

def PMid (w : World) (us : List Int) (hs : List (List Int)) (L k : Nat) (out : Value) (w2 : World) : Prop :=
  ∃ lst outs, cnt lst < k ∧ outs.length + k = 9 ∧ outs ++ partsS (rB us.length hs) us.length k lst = partsOf us hs ∧ MarksAt w2 L lst ∧ AllAt w2 (w.heap.size + 1) (rB us.length hs) us.length ∧ RowsOwn w2 out outs (L + 1) ∧ Below w.heap.size w w2 ∧ L < w2.heap.size

set_option maxRecDepth 100000 in
set_option maxHeartbeats 4000000 in
theorem pparts_any (u h : Value) (us : List Int) (hs : List (List Int)) (w : World) (hS : Shape us hs) (hu : IntsAt w u us) (hh : RowsAt w h hs) :
    Calls Try.prog 19 #[.agg #[u, h]] w (PartsPost w us hs) := by
  obtain ⟨a, ca, rfl, hl, hx⟩ := hu
  have Hx := Lib.hid hx; clear hx
  have HS := Lib.hid hS; clear hS
  have Hh := Lib.hid hh; clear hh
  have h8 : us.length ≤ 8 := HS.out.1
  go_enter Try.func19, Try.ntmps19
  go_wp2_with fail
  go_loopw [18] (fun p wr => ∃ k : Nat, k ≤ us.length ∧ p = .int .i64 k ∧ AllAt wr (w.heap.size + 1) (rB us.length hs) k ∧ Below w.heap.size w wr ∧ wr.cell? ⟨w.heap.size, 0, none⟩ = some (.slice a us.length ca) ∧ wr.cell? ⟨w.heap.size, 1, none⟩ = some h) (fun p _ => us.length - (intOf p).toNat)
  case atStart =>
    refine ⟨0, by omega, rfl, ⟨_, heap_new' _ _ _ (by simp), rfl, fun i hi => by omega⟩, ((Below.refl _ _).alloc (Nat.le_refl _) _).alloc (by simp) _, ?_, ?_⟩
    · rw [World.cell?_alloc_past _ _ _ (by simp), World.cell?_alloc_at _ _ _ _ rfl]; rfl
    · rw [World.cell?_alloc_past _ _ _ (by simp), World.cell?_alloc_at _ _ _ _ rfl]; rfl
  case round =>
    obtain ⟨k, hk, rfl, hall, hbel, hc0, hc1⟩ := hrel
    have hasz := hall.lt
    have Hall := Lib.hid hall; clear hall
    have Hbel := Lib.hid hbel; clear hbel
    by_cases hlt : k < us.length
    · have hk8 : k < 8 := by omega
      go_wp2_with fail
      refine (preach_any _ _ us hs _ k HS.out hlt (Hh.out.ext (ExtW.of_below Hbel.out))).mono ?_
      rintro e w1 ⟨rfl, hb1⟩
      have hg := grown_of_below hb1
      have hc0' := hg.cell hc0 (by simp)
      have hc1' := hg.cell hc1 (by simp)
      have hall := Hall.out.kept hg (by simp)
      have hbel := Hbel.out.grown hg Hbel.out.size (fun k hk => by cases hk)
      obtain ⟨v0, g0⟩ := hall.any (c := k * 8) (by omega)
      obtain ⟨v1, g1⟩ := hall.any (c := k * 8 + 1) (by omega)
      obtain ⟨v2, g2⟩ := hall.any (c := k * 8 + 2) (by omega)
      obtain ⟨v3, g3⟩ := hall.any (c := k * 8 + 3) (by omega)
      obtain ⟨v4, g4⟩ := hall.any (c := k * 8 + 4) (by omega)
      obtain ⟨v5, g5⟩ := hall.any (c := k * 8 + 5) (by omega)
      obtain ⟨v6, g6⟩ := hall.any (c := k * 8 + 6) (by omega)
      obtain ⟨v7, g7⟩ := hall.any (c := k * 8 + 7) (by omega)
      have gf := hall.free
      have Hall1 := Lib.hid hall; clear hall
      have Hbel1 := Lib.hid hbel; clear hbel hg hb1
      unfold mArr
      go_wp2_with fail
      refine ⟨⟨k + 1, by omega, by go_num, Hall1.out.store hk8, ?_, ?_, ?_⟩, by simp [intOf]; omega⟩
      · exact (((((((Hbel1.out.setCell (Nat.le_succ _) _).setCell (Nat.le_succ _) _).setCell (Nat.le_succ _) _).setCell (Nat.le_succ _) _).setCell (Nat.le_succ _) _).setCell (Nat.le_succ _) _).setCell (Nat.le_succ _) _).setCell (Nat.le_succ _) _
      · go_simp
      · go_simp
    · have hkn : k = us.length := by omega
      subst hkn
      go_wp2_with fail
      have HM := Lib.hid (show MarksAt (wr.alloc (.cells (mArr (fun _ => false)) 51)) wr.heap.size (fun _ => false) from heap_new' _ _ _ rfl)
      have HA := Lib.hid (Hall.out.kept (World.grownBy_alloc wr (.cells (mArr (fun _ => false)) 51) none) (by simp))
      have HB := Lib.hid (Hbel.out.alloc Hbel.out.size (.cells (mArr (fun _ => false)) 51))
      have hL : w.heap.size + 1 < wr.heap.size := by omega
      obtain ⟨L, HL⟩ : ∃ L, Hid (L = wr.heap.size) := ⟨_, rfl⟩
      rw [← HL.out] at HM hL
      have hLs : L < (wr.alloc (.cells (mArr (fun _ => false)) 51)).heap.size := by rw [HL.out]; simp
      rw [← HL.out]
      obtain ⟨W2, HW2⟩ : ∃ W, Hid (W = wr.alloc (.cells (mArr (fun _ => false)) 51)) := ⟨_, rfl⟩
      have hex : wr.alloc (.cells #[.bool false, .bool false, .bool false, .bool false, .bool false, .bool false, .bool false, .bool false] 51) = W2 := HW2.out.symm
      rw [hex]
      rw [← HW2.out] at HM HA HB hLs
      clear hex HL HW2 Hall Hbel hc0 hc1 hasz
      have HOut := Lib.hid (RowsOwn.nil W2 (L + 1))
      go_loopg [7] 9 (fun k out w2 => PMid w us hs L k out w2)
      case atStart => exact ⟨fun _ => false, [], by decide, rfl, rfl, HM.out, HA.out, HOut.out, HB.out, hLs⟩
      case round =>
        obtain ⟨lst, outs, hcnt, hlen, heq, hm, ha, hro, hbel, hLs⟩ := hrel
        obtain ⟨wo, rfl⟩ : ∃ wo : World, wo = wr := ⟨_, rfl⟩
        have hc64 : L ≠ w.heap.size + 1 := by omega
        have Hm := Lib.hid hm; clear hm
        have Ha := Lib.hid ha; clear ha
        have Hro := Lib.hid hro; clear hro
        have Hbel := Lib.hid hbel; clear hbel
        have Heq := Lib.hid heq; clear heq
        have Hcnt := Lib.hid hcnt; clear hcnt
        have Hlen := Lib.hid hlen; clear hlen
        clear HM HA HB HOut
        obtain ⟨R, HR⟩ : ∃ R, Hid (R = rB us.length hs) := ⟨_, rfl⟩
        rw [← HR.out] at Ha Heq
        go_wp2_with fail
        go_loop [8, 9, 10, 11] (fun nx i rd jj => (∃ i0 : Nat, i0 ≤ us.length ∧ nx = .int .i64 (-1) ∧ i = .int .i64 i0 ∧ ∀ x, x < i0 → ready R us.length lst x = false) ∨ (∃ i0 : Nat, i0 < us.length ∧ nx = .int .i64 i0 ∧ i = .int .i64 (i0 + 1 : Nat) ∧ ready R us.length lst i0 = true ∧ ∀ x, x < i0 → ready R us.length lst x = false)) (fun _ i _ _ => us.length + 1 - (intOf i).toNat)
        case atStart => exact .inl ⟨0, by omega, rfl, rfl, fun x hx => by omega⟩
        case round =>
          rcases hrel with ⟨i0, hi0, rfl, rfl, hno⟩ | ⟨i0, hi0, rfl, rfl, hrd, hno⟩
          · have Hno := Lib.hid hno; clear hno
            by_cases hlt : i0 < us.length
            · have hcl := Hm.out.cell (v := i0) (by omega)
              go_wp2_with fail
              go_loop [10, 11] (fun rd jj => ∃ j : Nat, j ≤ us.length ∧ jj = .int .i64 j ∧ rd = .bool (readyTo R lst i0 j)) (fun _ jj => us.length - (intOf jj).toNat)
              case atStart => exact ⟨0, by omega, rfl, by simp [readyTo]⟩
              case round =>
                obtain ⟨j, hj, rfl, rfl⟩ := hrel
                by_cases hjt : j < us.length
                · cases hrd : readyTo R lst i0 j with
                  | true =>
                    have hA := Ha.out.cell (i := i0) (j := j) hlt (by omega)
                    have hB := Ha.out.cell (i := j) (j := i0) hjt (by omega)
                    have hC := Hm.out.cell (v := j) (by omega)
                    have hstep : readyTo R lst i0 (j + 1) = stepOk R lst i0 j := by simp [readyTo, hrd]
                    have Hstep := Lib.hid hstep; clear hstep
                    have Hrd := Lib.hid hrd; clear hrd
                    cases h1 : R i0 j <;> cases h2 : lst j <;> cases h3 : R j i0
                    all_goals
                      have Hs2 := Lib.hid (Hstep.out.trans (show stepOk R lst i0 j = _ by unfold stepOk; rw [h1, h2, h3]))
                      rw [h1] at hA
                      rw [h2] at hC
                      rw [h3] at hB
                      clear h1 h2 h3
                      go_wp2_with fail
                      exact ⟨⟨j + 1, by omega, by go_num, by rw [Hs2.out]; rfl⟩, by simp [intOf]; omega⟩
                  | false =>
                    have Hrd := Lib.hid (readyTo_down (k := us.length) (by omega) hrd); clear hrd
                    go_wp2_with fail
                    refine ⟨.inl ⟨i0 + 1, by omega, rfl, by go_num, fun x hx => ?_⟩, by simp [intOf]; omega⟩
                    by_cases e : x = i0
                    · subst e; exact Hrd.out
                    · exact Hno.out x (by omega)
                · have hjn : j = us.length := by omega
                  subst hjn
                  cases hrd : readyTo R lst i0 us.length with
                  | true =>
                    have Hrd := Lib.hid hrd; clear hrd
                    go_wp2_with fail
                    exact ⟨.inr ⟨i0, hlt, rfl, by go_num, Hrd.out, Hno.out⟩, by simp [intOf]; omega⟩
                  | false =>
                    have Hrd := Lib.hid hrd; clear hrd
                    go_wp2_with fail
                    refine ⟨.inl ⟨i0 + 1, by omega, rfl, by go_num, fun x hx => ?_⟩, by simp [intOf]; omega⟩
                    by_cases e : x = i0
                    · subst e; exact Hrd.out
                    · exact Hno.out x (by omega)
            · have hin : i0 = us.length := by omega
              have hnx : nextS R us.length lst = none := nextS_none fun x hx => Hno.out x (by omega)
              have hfin : partsS R us.length gk lst = [] := by
                cases gk with
                | zero => rfl
                | succ k => simp [partsS, hnx]
              have Hfin := Lib.hid hfin; clear hfin hnx hin
              go_wp2_with fail
              go_ret
              refine ⟨_, rfl, ?_, Hbel.out⟩
              have e := Heq.out
              rw [Hfin.out, List.append_nil] at e
              rw [← e]
              exact Hro.out.rows (by have := Hlen.out; omega)
          · have Hno := Lib.hid hno; clear hno
            have Hrd := Lib.hid hrd; clear hrd
            obtain ⟨ii, hi3, hz3, hs3, hb3⟩ := info_parts Try.info3
            have Hi3 := Lib.hid hi3; have Hz3 := Lib.hid hz3; have Hs3 := Lib.hid hs3; have Hb3 := Lib.hid hb3
            clear hi3 hz3 hs3 hb3
            go_wp2_with fail
            all_goals
              go_loopw [12, 72] (fun part p w3 => ∃ j : Nat, j ≤ us.length ∧ p = .int .i64 j ∧ Own w3 3 part ((partTo R i0 j).map (Value.int .i64)) ∧ (∀ k, part.ownBlock = some k → wo.heap.size ≤ k) ∧ MarksAt w3 L (lstTo R lst i0 j) ∧ wo.grownBy w3 (some L)) (fun _ p _ => us.length - (intOf p).toNat)
              case atStart => exact ⟨0, by omega, rfl, Own.nil _ _, fun k hk => by simp [Value.ownBlock] at hk, by rw [lstTo_zero]; exact Hm.out, World.grownBy.refl _ _⟩
              case round =>
                obtain ⟨j, hj, rfl, hown, hblk, hmk, hgr⟩ := hrel
                have hszo : wo.heap.size ≤ wr.heap.size := hgr.size
                have hall := Ha.out.kept hgr (by simp; omega)
                have Hown := Lib.hid hown; clear hown
                have Hblk := Lib.hid hblk; clear hblk
                have Hmk := Lib.hid hmk; clear hmk
                have Hgr := Lib.hid hgr; clear hgr
                by_cases hjt : j < us.length
                · have hA := hall.cell (i := i0) (j := j) hi0 (by omega)
                  have hB := hall.cell (i := j) (j := i0) hjt (by omega)
                  have Hall := Lib.hid hall; clear hall
                  have hpl := partTo_len (R := R) i0 j
                  cases h1 : R i0 j with
                  | true =>
                    cases h2 : R j i0 with
                    | true =>
                      have Hb := Lib.hid (show (R i0 j && R j i0) = true by simp [h1, h2])
                      rw [h1] at hA
                      rw [h2] at hB
                      clear h1 h2
                      have Hc3 := Lib.hid (show ((partTo R i0 j).map (Value.int .i64)).length + 1 ≤ maxLen by rw [List.length_map]; unfold maxLen; omega)
                      have Hc4 := Lib.hid (show (((partTo R i0 j).map (Value.int .i64)).length + 1) * 8 ≤ 140737488355328 by rw [List.length_map]; omega)
                      go_wp2_with (at_builtin; refine wpList_push _ rfl _ _ 22 rfl 3 ii (.int .i64 0) 8 Try.underlying22 Hi3.out Hz3.out Hs3.out Hb3.out rfl _ ((partTo R i0 j).map (Value.int .i64)) rfl (Hown.out.alloc _) ⟨wr.heap.size, 0, none⟩ 1 (.int .i64 j) rfl (cell_new1 _ _ _) rfl Hc3.out Hc4.out ?_; intro v' w4 ho4 hg4 hf4; have hm4 := (Hmk.out.kept (World.grownBy_alloc wr (.cells #[.int .i64 j] 3) none) (by simp)).kept hg4 (fun e => by have := Hblk.out L e.symm; omega); have hc4 := hm4.cell (v := j) (by omega); have hfr4 := hm4.free j; have hs4 := hg4.size; have Hm4 := Lib.hid hm4; have Ho4 := Lib.hid ho4; have Hg4 := Lib.hid hg4; have Hf4 := Lib.hid hf4; clear hm4 ho4 hg4 hf4)
                      have hlo := Hf4.out.ge (lo := wo.heap.size) Hblk.out (by simp; omega)
                      refine ⟨⟨j + 1, by omega, by go_num, ?_, hlo, ?_, ?_⟩, by simp [intOf]; omega⟩
                      · have e : (partTo R i0 (j + 1)).map (Value.int .i64) = (partTo R i0 j).map (Value.int .i64) ++ [.int .i64 j] := by simp [partTo, Hb.out]
                        rw [e]
                        exact Ho4.out.kept (grownBy_setCell _ _ _) (by
                          cases hv : v'.ownBlock with
                          | none => exact .inl rfl
                          | some q =>
                            exact .inr (fun e => by
                            injection e with e
                            have h9 := hlo q hv
                            rw [e] at h9
                            change wo.heap.size ≤ L at h9
                            omega))
                      · rw [← lstTo_hit Hb.out]
                        exact Hm4.out.set (by omega)
                      · exact gb_new (grownBy_trans (gb_new (gb_new Hgr.out (World.grownBy_alloc wr (.cells #[.int .i64 j] 3) none) (fun q e => by cases e)) Hg4.out (fun q e => Hblk.out q e)) (grownBy_setCell _ ⟨L, j, none⟩ _)) (World.grownBy.refl _ none) (fun q e => by cases e)
                    | false =>
                      have Hb := Lib.hid (show (R i0 j && R j i0) = false by simp [h2])
                      rw [h1] at hA
                      rw [h2] at hB
                      clear h1 h2
                      go_wp2_with fail
                      refine ⟨⟨j + 1, by omega, by go_num, ?_, Hblk.out, ?_, Hgr.out⟩, by simp [intOf]; omega⟩
                      · have e : partTo R i0 (j + 1) = partTo R i0 j := by simp only [partTo, Hb.out]; rfl
                        rw [e]; exact Hown.out
                      · rw [← lstTo_miss Hb.out]; exact Hmk.out
                  | false =>
                    have Hb := Lib.hid (show (R i0 j && R j i0) = false by simp [h1])
                    rw [h1] at hA
                    clear h1 hB
                    go_wp2_with fail
                    refine ⟨⟨j + 1, by omega, by go_num, ?_, Hblk.out, ?_, Hgr.out⟩, by simp [intOf]; omega⟩
                    · have e : partTo R i0 (j + 1) = partTo R i0 j := by simp only [partTo, Hb.out]; rfl
                      rw [e]; exact Hown.out
                    · rw [← lstTo_miss Hb.out]; exact Hmk.out
                · have hjn : j = us.length := by omega
                  subst hjn
                  have hpl := partTo_len (R := R) i0 us.length
                  obtain ⟨pa, pc, hpv, _⟩ := Hown.out.shape
                  obtain ⟨pn, hpn⟩ : ∃ pn : Nat, pn = ((partTo R i0 us.length).map (Value.int .i64)).length := ⟨_, rfl⟩
                  rw [← hpn] at hpv
                  subst hpv
                  have Hpn := Lib.hid hpn; clear hpn
                  have hro1 := (Hro.out.kept Hgr.out (fun k e => by cases e; exact .inl (by omega))).kept (World.grownBy_alloc wr (.cells #[.slice pa pn pc] 22) none) (fun q e => by cases e)
                  obtain ⟨rs, ho, hl, hlo, hr⟩ := hro1
                  have hol : ∀ k, u7.ownBlock = some k → k < wo.heap.size := fun k e => by obtain ⟨rs', ho', _⟩ := Hro.out; exact ho'.lt e
                  have hx1 := (Hown.out.alloc (.cells #[.slice pa pn pc] 22)).ints (by omega)
                  have hx2 : ∀ k, (Value.slice pa pn pc).ownBlock = some k → L + 1 ≤ k ∧ k < (wr.alloc (.cells #[.slice pa pn pc] 22)).heap.size ∧ some k ≠ u7.ownBlock := fun k e => ⟨by have := Hblk.out k e; omega, by have := Hown.out.lt e; simp; omega, fun e' => by have := Hblk.out k e; have := hol k e'.symm; omega⟩
                  have hrl : rs.length ≤ 9 := by have := Hlen.out; omega
                  obtain ⟨i2, hi2, hz2, hs2, hb2⟩ := info_parts Try.info22
                  have Ho := Lib.hid ho; have Hl := Lib.hid hl; have Hlo := Lib.hid hlo; have Hr := Lib.hid hr; have Hol := Lib.hid hol; have Hx1 := Lib.hid hx1; have Hx2 := Lib.hid hx2; skip
                  have Hi2 := Lib.hid hi2; have Hz2 := Lib.hid hz2; have Hs2 := Lib.hid hs2; have Hb2 := Lib.hid hb2
                  clear ho hl hlo hr hol hx1 hx2 hi2 hz2 hs2 hb2
                  have Hc3 := Lib.hid (show rs.length + 1 ≤ maxLen by unfold maxLen; omega)
                  have Hc4 := Lib.hid (show (rs.length + 1) * 24 ≤ 140737488355328 by omega)
                  go_wp2_with (at_builtin; refine wpList_push _ rfl _ _ 23 rfl 22 i2 (.slice none 0 0) 24 Try.underlying23 Hi2.out Hz2.out Hs2.out Hb2.out rfl _ rs rfl Ho.out ⟨wr.heap.size, 0, none⟩ 1 (.slice pa pn pc) rfl (cell_new1 _ _ _) rfl Hc3.out Hc4.out ?_; intro v' w4 ho4 hg4 hf4; have Ho4 := Lib.hid ho4; have Hg4 := Lib.hid hg4; have Hf4 := Lib.hid hf4; clear ho4 hg4 hf4)
                  go_roundg (gk - 1)
                  case measure => have := Hcnt.out; omega
                  case rel =>
                    have hpush := RowsOwn.push Ho.out Hl.out Hlo.out Hr.out Hx1.out Hx2.out (by simp; omega) Ho4.out Hg4.out Hf4.out
                    have hcn := lstTo_cnt (R := R) (lst := lst) hi0 h8 (readyTo_lst Hrd.out) (by rw [HR.out]; exact rB_iff.2 (Rch.refl _ _))
                    have hne7 : ∀ q, u7.ownBlock = some q → L + 1 ≤ q := Hlo.out
                    have hgall := gb_new (gb_new Hgr.out (World.grownBy_alloc wr (.cells #[.slice pa pn pc] 22) none) (fun q e => by cases e)) (World.grownBy.refl _ none) (fun q e => by cases e)
                    refine ⟨lstTo R lst i0 us.length, outs ++ [partTo R i0 us.length], by have := Hcnt.out; omega, by have := Hlen.out; have := Hcnt.out; simp; omega, ?_, ?_, ?_, hpush, ?_, ?_⟩
                    · have e := Heq.out
                      have hk1 : gk = (gk - 1) + 1 := by have := Hcnt.out; omega
                      rw [hk1] at e
                      simp only [partsS, nextS_some hi0 Hrd.out Hno.out] at e
                      rw [List.append_assoc, ← HR.out]
                      exact e
                    · exact (Hmk.out.kept (World.grownBy_alloc wr (.cells #[.slice pa pn pc] 22) none) (by simp)).kept Hg4.out (fun e => by have := Hlo.out L e.symm; omega)
                    · rw [← HR.out]
                      exact ((Ha.out.kept Hgr.out (by simp; omega)).kept (World.grownBy_alloc wr (.cells #[.slice pa pn pc] 22) none) (by simp)).kept Hg4.out (fun e => by have := Hlo.out _ e.symm; omega)
                    · exact ((Hbel.out.grown Hgr.out Hbel.out.size (fun k e => by cases e; omega)).alloc (by have := Hbel.out.size; omega) _).grown Hg4.out (by have := Hbel.out.size; simp; omega) (fun k e => by have := Hlo.out _ e; omega)
                    · have := Hg4.out.size; simp at this; omega
end Go.Proofs.Ytfnjcjoomaeapaa
