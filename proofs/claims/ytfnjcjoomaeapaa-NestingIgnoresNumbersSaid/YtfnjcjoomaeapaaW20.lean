/- NestingIgnoresNumbers: its walk -/
import Derived.Test.YtfnjcjoomaeapaaCells
import Derived.Test.YtfnjcjoomaeapaaW10
import Derived.Test.YtfnjcjoomaeapaaTMem
namespace Go.Proofs.Ytfnjcjoomaeapaa
open Go.RowKit

set_option maxRecDepth 100000 in
set_option maxHeartbeats 4000000 in
theorem ignores_any (L : Value) (l : List Int) (free : Bool) (turn : Int) (w : World) (hL : IntsAt w L l) (hturn : -9223372036854775808 ≤ turn ∧ turn ≤ 9223372036854775807) :
    Calls Try.prog 4 #[L, .bool free, .int .i64 turn] w fun e w' => e = .returned (.bool true) ∧ Below w.heap.size w w' := by
  have HL := Lib.hid hL; clear hL
  obtain ⟨i3, hi, hz, hsz, hby⟩ := info_parts Try.info3
  have Hi3 := Lib.hid hi; have Hz3 := Lib.hid hz; have Hsz3 := Lib.hid hsz; have Hby3 := Lib.hid hby
  clear hi hz hsz hby
  obtain ⟨i22, hi, hz, hsz, hby⟩ := info_parts Try.info22
  have Hi22 := Lib.hid hi; have Hz22 := Lib.hid hz; have Hsz22 := Lib.hid hsz; have Hby22 := Lib.hid hby
  clear hi hz hsz hby
  go_enter Try.func4, Try.ntmps4
  go_wp2_with fail
  refine (new_any L l w HL.out).mono ?_
  rintro e w1 ⟨rfl, ht⟩
  have Ht := Lib.hid ht; clear ht
  go_wp2_with fail
  refine (made_any w _ L l 6 free w1 Ht.out (by omega)).mono ?_
  rintro e w2 ⟨u, h, us, hs, rfl, hu, hh, hlen, hS, hH, hg⟩
  obtain ⟨ua, uc, rfl, -, -⟩ := id hu
  obtain ⟨ha, hc, rfl, -, -⟩ := id hh
  have B2 := Lib.hid (Ht.out.fromBelow hg)
  have hb3 : Below w2.heap.size w2 (w2.alloc (.cells #[.slice ua us.length uc, .slice ha hs.length hc] 25)) := (Below.refl _ _).alloc (Nat.le_refl _) _
  have hq : (w2.alloc (.cells #[.slice ua us.length uc, .slice ha hs.length hc] 25)).heap[w2.heap.size]? = some (.cells #[.slice ua us.length uc, .slice ha hs.length hc] 25 (0, 0)) := heap_new' w2 _ _ rfl
  have Hext := Lib.hid (show ∀ W, Below (w2.heap.size + 1) (w2.alloc (.cells #[.slice ua us.length uc, .slice ha hs.length hc] 25)) W → IntsAt W (.slice ua us.length uc) us ∧ RowsAt W (.slice ha hs.length hc) hs ∧ W.cell? ⟨w2.heap.size, 0, none⟩ = some (.slice ua us.length uc) ∧ W.cell? ⟨w2.heap.size, 1, none⟩ = some (.slice ha hs.length hc) from fun W hb => by
    have e := (ExtW.of_below hb3).trans (ExtW.of_below (by simpa using hb))
    have hq' : W.heap[w2.heap.size]? = some (.cells #[.slice ua us.length uc, .slice ha hs.length hc] 25 (0, 0)) := by rw [hb.block _ (by omega)]; exact hq
    exact ⟨hu.ext e, hh.ext e, by rw [heap_cell hq']; rfl, by rw [heap_cell hq']; rfl⟩)
  have HS := Lib.hid hS
  have HH := Lib.hid hH
  have h6 : us.length ≤ 6 := hlen
  have c0 := (Hext.out _ (Below.refl _ _)).2.2.1
  have C0 := Lib.hid c0
  have Hb3 := Lib.hid hb3
  have Hs3 := Lib.hid (show (w2.alloc (.cells #[.slice ua us.length uc, .slice ha hs.length hc] 25)).heap.size = w2.heap.size + 1 by simp)
  have Hm3 := Lib.hid (show i3.bytes * us.length ≤ 281474976710656 by have := Hby3.out; rw [this]; omega)
  have Hm22 := Lib.hid (show i22.bytes * us.length ≤ 281474976710656 by have := Hby22.out; rw [this]; omega)
  have Hm2 := Lib.hid (show us.length ≤ maxLen by unfold maxLen; omega)
  clear hu hh hS hH hg hb3 hq c0 hlen
  cases hz : ((us.length : Int) == 0)
  · have hn0 : 0 < us.length := by have := beq_eq_false_iff_ne.1 hz; omega
    go_wp2_with fail
    clear hz
    generalize w2.alloc (.cells #[.slice ua us.length uc, .slice ha hs.length hc] 25) = w3 at Hext C0 Hb3 Hs3 ⊢
    have B3 := Lib.hid (show Below w.heap.size w w3 from B2.out.trans (Hb3.out.mono B2.out.size))
    refine (mod_any turn us.length _ (by omega) (by omega)).mono ?_
    rintro e w4 ⟨rfl, rfl⟩
    obtain ⟨t, Ht0⟩ : ∃ t : Nat, Hid (turn % (us.length : Int) = t) := by
      have := Int.emod_nonneg turn (show (us.length : Int) ≠ 0 by omega)
      exact ⟨(turn % (us.length : Int)).toNat, by show _ = _; omega⟩
    have htn : t < us.length := by
      have := Int.emod_lt_of_pos turn (show 0 < (us.length : Int) by omega)
      have := Ht0.out
      omega
    rw [Ht0.out]
    clear C0
    go_upto_region 6 with (fail)
    go_cut [9] (fun b wx => NSt w3 wx us.length b)
    case first => as_aux_lemma =>
      go_region_with (first
        | (refine upon_make 22 3 i3 (.int .i64 0) Try.underlying22 Hi3.out Hz3.out Hsz3.out us.length Hm3.out Hm2.out ?_; intro wu hu hgu; have cu := (gcell hgu).1; have fu := (gcell hgu).2; have su := made_lt hu; have Hu := Lib.hid hu; have Hgu := Lib.hid hgu; clear hu hgu)
        | (refine upon_make 23 22 i22 (.slice none 0 0) Try.underlying23 Hi22.out Hz22.out Hsz22.out us.length Hm22.out Hm2.out ?_; intro wh hh hgh; have ch := (gcell hgh).1; have fh := (gcell hgh).2; have sh := made_lt hh; have Hh := Lib.hid hh; have Hgh := Lib.hid hgh; clear hh hgh))
      all_goals
        have HU := UZ.mk' Hu.out
        have HH := UZ.mk' Hh.out
        have l1 := HU.lt
        have l2 := HH.lt
        have l3 := Hgu.out.size
        have l4 := Hgh.out.size
        simp at l1 l2 l3 l4
        try simp at HU
        try simp at HH
        go_wp2_with fail
        go_meet
        apply NSt.intro
        · first
            | exact heap_new' _ _ _ rfl
            | (refine blk_set (blk_set (cs := #[.slice none 0 0, .slice none 0 0]) (t := 25) ?_ _ _) _ _
               first
                 | (rw [Hgh.out.block _ (by first | (simp; done) | (simp; omega) | omega) (by simp)]
                    first
                      | exact heap_new' _ _ _ (by simp)
                      | (rw [Hgu.out.block _ (by first | (simp; done) | (simp; omega) | omega) (by simp)]; exact heap_new' _ _ _ (by simp)))
                 | (rw [Hgu.out.block _ (by first | (simp; done) | (simp; omega) | omega) (by simp)]
                    first
                      | exact heap_new' _ _ _ (by simp)
                      | (rw [Hgh.out.block _ (by first | (simp; done) | (simp; omega) | omega) (by simp)]; exact heap_new' _ _ _ (by simp))))
        · repeat (first | exact World.grownBy.refl _ _ | refine gb_new ?_ (grownBy_setCell _ _ _) (fun q e => by cases e; first | (simp; done) | (simp; omega) | omega) | refine gb_new ?_ (World.grownBy_alloc _ _ none) (fun q e => by cases e) | refine gb_new ?_ Hgh.out (fun q e => by cases e) | refine gb_new ?_ Hgu.out (fun q e => by cases e) | refine gb_new ?_ (grown_drew _ none) (fun q e => by cases e))
        · repeat (first | exact HU | refine UZ.g ?_ (grown_drew _ none) | refine UZ.s ?_ (by first | omega | (simp; omega)) | refine UZ.g ?_ (World.grownBy_alloc _ _ none) | refine UZ.g ?_ Hgh.out | refine UZ.g ?_ Hgu.out)
        · repeat (first | exact HH | refine UZ.g ?_ (grown_drew _ none) | refine UZ.s ?_ (by first | omega | (simp; omega)) | refine UZ.g ?_ (World.grownBy_alloc _ _ none) | refine UZ.g ?_ Hgu.out | refine UZ.g ?_ Hgh.out)
        · first | omega | (simp; omega) | (simp at *; omega)
    case rest =>
      obtain ⟨Bx, Bu, Bh, rfl, hbx, hgx, hU, hH, n1, n2, n3, l1, l2, l3⟩ := hcut
      have HN := Lib.hid (TN.start (t := t) us hs hbx hgx hU hH n1 n2 n3 l1 l2 l3)
      clear hbx hgx hU hH n1 n2 n3 l1 l2 l3
      have h3e := Hext.out _ (Below.refl _ _)
      have Hg0 := Lib.hid h3e.2.2.1
      have Hg1 := Lib.hid h3e.2.2.2
      have Hxu := Lib.hid h3e.1
      have Hxh := Lib.hid h3e.2.1
      clear h3e
      go_wp2_with fail
      go_loopw [10] (fun p wr => ∃ (i : Nat) (R : Nat → Nat), i ≤ us.length ∧ p = .int .i64 i ∧ TN w3 wr us.length Bx Bu Bh R (tS us.length t i) (tU us.length t us i) (tH us.length t hs i 0)) (fun p _ => us.length - (intOf p).toNat)
      case atStart => exact ⟨0, _, by omega, rfl, HN.out⟩
      case round => as_aux_lemma =>
        clear HN
        obtain ⟨i, R, hi, rfl, hN⟩ := hrel
        have HN := Lib.hid hN; clear hN
        by_cases hit : i < us.length
        · have hsn := sg_lt htn hit
          obtain ⟨ua', uc', hue, -, hux⟩ := Hxu.out
          obtain ⟨ub, uo, hua, -, huc⟩ := hux i hit
          cases hue
          subst hua
          have Huc := Lib.hid huc; clear huc hux
          have hq1 : IntKind.i64.wrap ((i : Int) + (t : Int)) = (i : Int) + (t : Int) := IntWalk.i64_in _ ⟨by omega, by omega⟩
          have hq2 : ((i : Int) + (t : Int)).tmod (us.length : Int) = ((sg us.length t i : Nat) : Int) := by
            rw [← sg_mod htn hit]
            exact Int.tmod_eq_emod_of_nonneg (by omega)
          have hb1 : (0 : Int) ≤ (i : Int) := by omega
          have hb2 : (i : Int) < (us.length : Int) := by omega
          have hb3 : (0 : Int) ≤ ((sg us.length t i : Nat) : Int) := by omega
          have hb4 : ((sg us.length t i : Nat) : Int) < (us.length : Int) := by omega
          have hne : ¬ us = [] := by intro e; rw [e] at hit; simp at hit
          have HSS := Lib.hid ((HN.out.sx hsn).ss Hg0.out Huc.out)
          go_upto_region 10 with (fail)
          go_cut [10] (fun p wx => p = .int .i64 i ∧ ∃ R', TN w3 wx us.length Bx Bu Bh R' (tS us.length t (i + 1)) (tU us.length t us (i + 1)) (tH us.length t hs i 0))
          case first => as_aux_lemma =>
            go_region_held3 (fun w' => SX w3 w' us.length Bx Bu Bh (sg us.length t i) ∧ w'.cell? ⟨Bx, 0, none⟩ = some (.slice (some ⟨Bu, 0, none⟩) us.length us.length) ∧ w'.cell? ⟨Bx, 1, none⟩ = some (.slice (some ⟨Bh, 0, none⟩) us.length us.length) ∧ w'.cell? ⟨w2.heap.size, 0, none⟩ = some (.slice (some ⟨ub, uo, none⟩) us.length uc) ∧ w'.cell? ⟨ub, uo + i, none⟩ = some (.int .i64 (gI us i)) ∧
              w'.cell? ⟨Bu, sg us.length t i, none⟩ = some (valAt w' ⟨Bu, sg us.length t i, none⟩) ∧ w'.frozen? ⟨Bu, sg us.length t i, none⟩ = false ∧ w'.cell? ⟨Bh, sg us.length t i, none⟩ = some (valAt w' ⟨Bh, sg us.length t i, none⟩) ∧ w'.frozen? ⟨Bh, sg us.length t i, none⟩ = false)
              (first | assumption | exact SX.ss (SX.new (HN.out.sx hsn) (grown_drew _ none)) Hg0.out Huc.out | exact SX.ss (SX.setU (And.left (by assumption)) _) Hg0.out Huc.out | exact SX.ss (SX.setH (And.left (by assumption)) _) Hg0.out Huc.out | exact SX.ss (SX.new (SX.setU (And.left (by assumption)) _) Hgu.out) Hg0.out Huc.out | exact SX.ss (SX.new (And.left (by assumption)) Hgu.out) Hg0.out Huc.out)
              (first
                | (refine upon_make 22 3 i3 (.int .i64 0) Try.underlying22 Hi3.out Hz3.out Hsz3.out us.length Hm3.out Hm2.out ?_; intro wu hu hgu; have Hu := Lib.hid hu; have Hgu := Lib.hid hgu; clear hu hgu))
            · go_wp2_with fail
              go_meet
              exact ⟨rfl, TN.row1 htn hit HN.out (grownBy_trans (grown_drew _ none) Hgu.out) (Nat.le_refl _) (by have := UZ.mk' Hu.out; simpa using this)⟩
            · go_wp2_with fail
              go_meet
              exact ⟨rfl, TN.row3 htn hit HN.out (World.grownBy.refl _ _) (grownBy_trans (grown_drew _ none) Hgu.out) (Nat.le_refl _) (by have := UZ.mk' Hu.out; simpa using this)⟩
          case rest =>
            obtain ⟨rfl, R', hN⟩ := hcut
            have HN := Lib.hid hN
            clear hN HSS
            go_wp2_with fail
            go_loopw [11] (fun p wr => ∃ j : Nat, j ≤ us.length ∧ p = .int .i64 j ∧ TN w3 wr us.length Bx Bu Bh R' (tS us.length t (i + 1)) (tU us.length t us (i + 1)) (tH us.length t hs i j)) (fun p _ => us.length - (intOf p).toNat)
            case atStart => exact ⟨0, by omega, rfl, HN.out⟩
            case round => as_aux_lemma =>
              clear HN
              obtain ⟨j, hj, rfl, hN⟩ := hrel
              have HN := Lib.hid hN; clear hN
              by_cases hjt : j < us.length
              · have hsj := sg_lt htn hjt
                obtain ⟨ha', hc', hhe, -, hhx⟩ := Hxh.out
                obtain ⟨hb, ho, hr, hha, hhlt, hhc, hhr⟩ := hhx i (by rw [HS.out.2.1]; exact hit)
                cases hhe
                subst hha
                obtain ⟨ra, rc, rfl, -, hrx⟩ := hhr
                obtain ⟨rb, ro, hra, hrlt, hrc⟩ := hrx j (by rw [(HS.out.2.2 i hit).1]; exact hjt)
                subst hra
                have p1 : IntKind.i64.wrap ((j : Int) + (t : Int)) = (j : Int) + (t : Int) := IntWalk.i64_in _ ⟨by omega, by omega⟩
                have p2 : ((j : Int) + (t : Int)).tmod (us.length : Int) = ((sg us.length t j : Nat) : Int) := by
                  rw [← sg_mod htn hjt]
                  exact Int.tmod_eq_emod_of_nonneg (by omega)
                have p3 : (0 : Int) ≤ (j : Int) := by omega
                have p4 : (j : Int) < (us.length : Int) := by omega
                have p5 : (0 : Int) ≤ ((sg us.length t j : Nat) : Int) := by omega
                have p6 : ((sg us.length t j : Nat) : Int) < (us.length : Int) := by omega
                have k1 := (ExtW.of_below HN.out.bel).2 _ _ Hg1.out
                have k2 := (ExtW.of_below HN.out.bel).2 _ _ hhc
                have k3 := (ExtW.of_below HN.out.bel).2 _ _ hrc
                have k4 := HN.out.b1
                have k5 := HN.out.row _ hsn (by simp [tS, hsn, sgi_sg htn hit])
                have k6 := HN.out.ent _ _ (by simp [tS, hsn, sgi_sg htn hit] : tS us.length t (i + 1) (sg us.length t i) = true) hsj
                have k7 := HN.out.efree (sg us.length t i) (sg us.length t j) (by simp [tS, hsn, sgi_sg htn hit])
                have p7 : (i : Int) < (hs.length : Int) := by rw [HS.out.2.1]; omega
                have p8 : (j : Int) < ((gR hs i).length : Int) := by rw [(HS.out.2.2 i hit).1]; omega
                clear hhc hrc hhx hrx hhlt hrlt
                go_wp2_with fail
                refine region_tail 23 (by kernel_rfl) (by kernel_rfl) (fun L hL => ?_)
                simp only [List.take_succ_cons, List.take_zero, List.drop_succ_cons, List.drop_zero] at hL ⊢
                iterate 23 (go_big_quiet_step (fail))
                refine wpQuiet_nil (hL _ ?_)
                clear hL L
                go_wp2_with fail
                exact ⟨⟨j + 1, by omega, by go_num, (HN.out.rowStep htn hit hjt).new (grown_drew _ none)⟩, by simp [intOf]; omega⟩
              · obtain rfl : us.length = j := by omega
                go_wp2_with fail
                exact ⟨⟨i + 1, R', by omega, by go_num, HN.out.rowEnd htn hit⟩, by simp [intOf]; omega⟩
        · obtain rfl : us.length = i := by omega
          have HT := Lib.hid (turned_of (us := us) (hs := hs) htn)
          have h9 : us.length ≤ 9 := by omega
          have Hchk := Lib.hid (checkS_0 HS.out HH.out)
          have Hchk' := Lib.hid (checkS_0 (HT.out.shape htn rfl HS.out) (HT.out.held htn rfl HH.out))
          have Hlen := Lib.hid (HT.out.len htn rfl h9)
          have Hfound := Lib.hid (fun p hp => HT.out.found htn rfl h9 (p := p) hp)
          have Hin := Lib.hid (fun p (hp : p < (partsOf us hs).length) => partsOf_in hp)
          have Hin' := Lib.hid (fun q (hq : q < (partsOf (listU us.length (tU us.length t us us.length)) (listH us.length (tH us.length t hs us.length 0))).length) => (partsOf_in hq).1)
          have hps0 : 0 < (partsOf us hs).length := by
            obtain ⟨q, hq, _⟩ := (parts_ok us hs h9).all 0 hn0 rfl
            omega
          have Hl9 := Lib.hid (show (partsOf us hs).length ≤ 9 from partsS_len _ _)
          have Hxu1 := Lib.hid (Hxu.out.ext (ExtW.of_below HN.out.bel))
          have Hxh1 := Lib.hid (Hxh.out.ext (ExtW.of_below HN.out.bel))
          have Hyu1 := Lib.hid (show IntsAt wr (.slice (some ⟨Bu, 0, none⟩) us.length us.length) (listU us.length (tU us.length t us us.length)) by have := HN.out.ints (by omega); rw [listU_len] at this; exact this)
          have Hyh1 := Lib.hid (show RowsAt wr (.slice (some ⟨Bh, 0, none⟩) us.length us.length) (listH us.length (tH us.length t hs us.length 0)) by have := HN.out.rows (by omega) (fun k hk => tS_all htn hk); rw [listH_len] at this; exact this)
          have k0 := (ExtW.of_below HN.out.bel).2 _ _ Hg0.out
          have k1 := (ExtW.of_below HN.out.bel).2 _ _ Hg1.out
          have K2 := Lib.hid HN.out.b0
          have K3 := Lib.hid HN.out.b1
          have B4 := Lib.hid (show Below w.heap.size w wr from B3.out.trans (HN.out.bel.mono B3.out.size))
          clear HN Hxu Hxh HT
          generalize listU us.length (tU us.length t us us.length) = us' at Hchk' Hlen Hfound Hin' Hyu1 ⊢
          generalize listH us.length (tH us.length t hs us.length 0) = hs' at Hchk' Hlen Hfound Hin' Hyh1 ⊢
          have K0 := Lib.hid k0; have K1 := Lib.hid k1
          go_wp2_with fail
          refine (pPartsFn_any _ _ us hs _ Hxu1.out Hxh1.out).mono ?_
          rintro e w5 ⟨v, rfl, hv, hb⟩
          rw [Hchk.out]
          unfold partsR at hv
          rw [if_pos Hchk.out] at hv
          have HV5 := Lib.hid hv
          obtain ⟨pa, pc, rfl, -, -⟩ := hv
          have Hb5 := Lib.hid hb
          clear k0 k1 hb
          have k2 := below_cells Hb5.out _ _ _ K2.out
          have k3 := below_cells Hb5.out _ _ _ K3.out
          go_wp2_with fail
          refine (pPartsFn_any _ _ us' hs' _ (Hyu1.out.ext (ExtW.of_below Hb5.out)) (Hyh1.out.ext (ExtW.of_below Hb5.out))).mono ?_
          rintro e w6 ⟨v, rfl, hv, hb⟩
          rw [Hchk'.out]
          unfold partsR at hv
          rw [if_pos Hchk'.out] at hv
          have HV6 := Lib.hid hv
          obtain ⟨ba, bc, rfl, -, -⟩ := hv
          have Hb6 := Lib.hid (Hb5.out.trans (hb.mono Hb5.out.size))
          have HV56 := Lib.hid (HV5.out.ext (ExtW.of_below hb))
          clear k2 k3 hb HV5
          have k0 := below_cells Hb6.out _ _ _ K0.out
          have k1 := below_cells Hb6.out _ _ _ K1.out
          go_wp2_with fail
          refine (pGnd_any _ _ us hs _ (Hxu1.out.ext (ExtW.of_below Hb6.out)) (Hxh1.out.ext (ExtW.of_below Hb6.out))).mono ?_
          rintro e w7 ⟨v, rfl, hv, hb⟩
          rw [Hchk.out]
          unfold gndR partsR at hv
          rw [if_pos Hchk.out] at hv
          have HV7 := Lib.hid hv
          obtain ⟨ca, cc, rfl, -, -⟩ := hv
          have Hb7 := Lib.hid (Hb6.out.trans (hb.mono Hb6.out.size))
          have HV57 := Lib.hid (HV56.out.ext (ExtW.of_below hb))
          have HV67 := Lib.hid (HV6.out.ext (ExtW.of_below hb))
          clear k0 k1 hb HV6 HV56
          have k2 := below_cells Hb7.out _ _ _ K2.out
          have k3 := below_cells Hb7.out _ _ _ K3.out
          go_wp2_with fail
          refine (pGnd_any _ _ us' hs' _ (Hyu1.out.ext (ExtW.of_below Hb7.out)) (Hyh1.out.ext (ExtW.of_below Hb7.out))).mono ?_
          rintro e w8 ⟨v, rfl, hv, hb⟩
          rw [Hchk'.out]
          unfold gndR partsR at hv
          rw [if_pos Hchk'.out] at hv
          have HV8 := Lib.hid hv
          obtain ⟨da, dc, rfl, -, -⟩ := hv
          have B8 := Lib.hid (B4.out.trans ((Hb7.out.trans (hb.mono Hb7.out.size)).mono B4.out.size))
          have HV58 := Lib.hid (HV57.out.ext (ExtW.of_below hb))
          have HV68 := Lib.hid (HV67.out.ext (ExtW.of_below hb))
          have HV78 := Lib.hid (HV7.out.ext (ExtW.of_below hb))
          clear k2 k3 hb HV67 HV57 HV7 Hb5 Hb6 Hb7 B4 K0 K1 K2 K3 Hxu1 Hxh1 Hyu1 Hyh1 Hg0 Hg1
          have hclen : ((partsOf us hs).map (gndB us hs)).length = (partsOf us hs).length := List.length_map _
          have hdlen : ((partsOf us' hs').map (gndB us' hs')).length = (partsOf us' hs').length := List.length_map _
          generalize (partsOf us hs).map (gndB us hs) = cs at Hfound HV78 hclen ⊢
          generalize (partsOf us' hs').map (gndB us' hs') = ds at Hfound HV8 hdlen ⊢
          generalize partsOf us hs = ps at *
          generalize partsOf us' hs' = ps' at *
          rw [hdlen, Hlen.out]
          obtain ⟨a1, c1, e1, -, x1⟩ := HV58.out
          obtain ⟨a2, c2, e2, -, x2⟩ := HV68.out
          obtain ⟨a3, c3, e3, -, x3⟩ := HV78.out
          obtain ⟨a4, c4, e4, -, x4⟩ := HV8.out
          cases e1; cases e2; cases e3; cases e4
          obtain ⟨pb, po, -, rfl, -, -, -⟩ := id (x1 0 hps0)
          obtain ⟨qb, qo, -, rfl, -, -, -⟩ := id (x2 0 (by rw [Hlen.out]; exact hps0))
          obtain ⟨cb, co, rfl, -, -⟩ := id (x3 0 (by rw [hclen]; exact hps0))
          obtain ⟨db, dof, rfl, -, -⟩ := id (x4 0 (by rw [hdlen, Hlen.out]; exact hps0))
          have HP := Lib.hid (show ∀ W, Below w8.heap.size w8 W → ∀ p, p < ps.length → ∃ r, W.cell? ⟨pb, po + p, none⟩ = some r ∧ IntsAt W r (gR ps p) from fun W hW p hp => by
            obtain ⟨b, o, r, h1, h2, h3, h4⟩ := x1 p hp
            cases h1
            exact ⟨r, below_cells hW _ _ _ h3, h4.ext (ExtW.of_below hW)⟩)
          have HQ := Lib.hid (show ∀ W, Below w8.heap.size w8 W → ∀ q, q < ps.length → ∃ r, W.cell? ⟨qb, qo + q, none⟩ = some r ∧ IntsAt W r (gR ps' q) from fun W hW q hq => by
            obtain ⟨b, o, r, h1, h2, h3, h4⟩ := x2 q (by rw [Hlen.out]; exact hq)
            cases h1
            exact ⟨r, below_cells hW _ _ _ h3, h4.ext (ExtW.of_below hW)⟩)
          have HC := Lib.hid (show ∀ W, Below w8.heap.size w8 W → ∀ p, p < ps.length → W.cell? ⟨cb, co + p, none⟩ = some (.bool (gB cs p)) from fun W hW p hp => by
            obtain ⟨b, o, h1, h2, h3⟩ := x3 p (by rw [hclen]; exact hp)
            cases h1
            exact below_cells hW _ _ _ h3)
          have HD := Lib.hid (show ∀ W, Below w8.heap.size w8 W → ∀ q, q < ps.length → W.cell? ⟨db, dof + q, none⟩ = some (.bool (gB ds q)) from fun W hW q hq => by
            obtain ⟨b, o, h1, h2, h3⟩ := x4 q (by rw [hdlen, Hlen.out]; exact hq)
            cases h1
            exact below_cells hW _ _ _ h3)
          have Hlen' := Lib.hid hclen; have Hlen'' := Lib.hid hdlen
          have hl9 : ps.length ≤ 9 := Hl9.out
          clear x1 x2 x3 x4 hclen hdlen HV58 HV68 HV78 HV8
          go_wp2_with fail
          go_loopw [20] (fun p wr => ∃ p0 : Nat, p0 ≤ ps.length ∧ p = .int .i64 p0 ∧ Below w8.heap.size w8 wr) (fun p _ => ps.length - (intOf p).toNat)
          case atStart => exact ⟨0, by omega, rfl, Below.refl _ _⟩
          case round => as_aux_lemma =>
            obtain ⟨p, hp, rfl, hW1⟩ := hrel
            have HW1 := Lib.hid hW1; clear hW1
            by_cases hpt : p < ps.length
            · have hplen := (Hin.out p hpt).1
              have Hpin := Lib.hid (Hin.out p hpt).2
              go_wp2_with fail
              go_loopw [21, 22] (fun f q wr => ∃ q0 : Nat, q0 ≤ ps.length ∧ q = .int .i64 q0 ∧ f = .bool (foundTo ps ps' cs ds us.length t p q0) ∧ Below w8.heap.size w8 wr) (fun _ q _ => ps.length - (intOf q).toNat)
              case atStart => exact ⟨0, by omega, rfl, rfl, HW1.out⟩
              case round => as_aux_lemma =>
                obtain ⟨q, hq, rfl, rfl, hW2⟩ := hrel
                have HW2 := Lib.hid hW2; clear hW2
                by_cases hqt : q < ps.length
                · have hqlen := Hin'.out q (by rw [Hlen.out]; exact hqt)
                  have HqL := Lib.hid (show (gR ps' q).length ≤ us'.length from hqlen); clear hqlen
                  obtain ⟨r1, g1, g2⟩ := HP.out _ HW2.out p hpt
                  obtain ⟨r2, g3, g4⟩ := HQ.out _ HW2.out q hqt
                  obtain ⟨ra, rc, rfl, -, -⟩ := id g2
                  obtain ⟨sa, sc, rfl, hs63, -⟩ := id g4
                  have G2 := Lib.hid g2; have G4 := Lib.hid g4
                  have G1 := Lib.hid g1; have G3 := Lib.hid g3
                  clear g2 g4
                  have i1 : (0 : Int) ≤ (p : Int) := by omega
                  have i2 : (p : Int) < (ps.length : Int) := by omega
                  have i3 : (0 : Int) ≤ (q : Int) := by omega
                  have i4 : (q : Int) < (ps.length : Int) := by omega
                  generalize hF : foundTo ps ps' cs ds us.length t p q = F
                  have HF := Lib.hid hF; clear hF
                  go_wp2_with fail
                  refine wp_region_quiet_lit (by kernel_rfl) (by kernel_rfl) ?_
                  iterate 12 (go_big_quiet_step (fail))
                  refine wpQuiet_nil ?_
                  intro _ hw'
                  obtain ⟨nq, hw''⟩ := hw'
                  subst hw''
                  go_wp2_with fail
                  go_loopw [23, 24] (fun al x wr => ∃ x0 : Nat, x0 ≤ (gR ps p).length ∧ x = .int .i64 x0 ∧ al = .bool (allTo ps ps' us.length t p q x0) ∧ Below w8.heap.size w8 wr) (fun _ x _ => (gR ps p).length - (intOf x).toNat)
                  case atStart => exact ⟨0, by omega, rfl, by congr 1; rw [Bool.eq_iff_iff]; simp [allTo]; constructor <;> (intro h; omega), HW2.out.trans (Drew.below ⟨nq, rfl⟩ _)⟩
                  case round => as_aux_lemma =>
                    clear HW2 G1 G2 G3 G4 g1 g3
                    obtain ⟨x, hx, rfl, rfl, hW3⟩ := hrel
                    have HW3 := Lib.hid hW3; clear hW3
                    generalize hA : allTo ps ps' us.length t p q x = A
                    have HA := Lib.hid hA; clear hA
                    by_cases hxt : x < (gR ps p).length
                    · obtain ⟨r1, g1, g2⟩ := HP.out _ HW3.out p hpt
                      obtain ⟨ra, rc, rfl, -, -⟩ := id g2
                      clear g2
                      obtain ⟨v, Hv⟩ : ∃ v, Hid (v = gI (gR ps p) x) := ⟨_, rfl⟩
                      have hv1 : 0 ≤ v := by rw [Hv.out]; exact (Hpin.out x hxt).1
                      have hv2 : v < us.length := by rw [Hv.out]; exact (Hpin.out x hxt).2
                      obtain ⟨z, Hz⟩ : ∃ z, Hid (z = (v + (t : Int)) % (us.length : Int)) := ⟨_, rfl⟩
                      have Hx := Lib.hid (show allTo ps ps' us.length t p q (x + 1) = (A && decide (z ∈ gR ps' q)) by rw [Hz.out, Hv.out, ← HA.out]; rfl)
                      go_wp2_with fail
                      go_loopw [25, 26] (fun b y wr => ∃ y0 : Nat, y0 ≤ (gR ps' q).length ∧ y = .int .i64 y0 ∧ b = .bool (decide (z ∈ (gR ps' q).take y0)) ∧ Below w8.heap.size w8 wr) (fun _ y _ => (gR ps' q).length - (intOf y).toNat)
                      case atStart => exact ⟨0, by omega, rfl, by simp, HW3.out⟩
                      case round => as_aux_lemma =>
                        clear HW3 g1
                        obtain ⟨y, hy, rfl, rfl, hW4⟩ := hrel
                        have HW4 := Lib.hid hW4; clear hW4
                        obtain ⟨r2, g3, g4⟩ := HQ.out _ HW4.out q hqt
                        obtain ⟨sa, sc, rfl, -, hsx⟩ := g4
                        have Hsx := Lib.hid hsx; clear hsx
                        by_cases hyt : y < (gR ps' q).length
                        · obtain ⟨r1, g1, g2⟩ := HP.out _ HW4.out p hpt
                          obtain ⟨ra, rc, rfl, -, hrx⟩ := g2
                          obtain ⟨rb, ro, rfl, -, hrc⟩ := hrx x hxt
                          obtain ⟨sb, so, rfl, -, hsc⟩ := Hsx.out y hyt
                          rw [← Hv.out] at hrc
                          clear hrx
                          have Hts := Lib.hid (decide_take_succ z hyt)
                          have m1 : IntKind.i64.wrap (v + (t : Int)) = v + (t : Int) := IntWalk.i64_in _ ⟨by omega, by omega⟩
                          have m2 : (v + (t : Int)).tmod (us.length : Int) = z := by rw [Hz.out]; exact Int.tmod_eq_emod_of_nonneg (by omega)
                          have hne : ¬ us = [] := by intro e; rw [e] at hn0; simp at hn0
                          have j1 : (0 : Int) ≤ (x : Int) := by omega
                          have j2 : (x : Int) < ((gR ps p).length : Int) := by omega
                          have j3 : (0 : Int) ≤ (y : Int) := by omega
                          have j4 : (y : Int) < ((gR ps' q).length : Int) := by omega
                          obtain ⟨u, Hu⟩ : ∃ u, Hid (u = gI (gR ps' q) y) := ⟨_, rfl⟩
                          rw [← Hu.out] at hsc Hts
                          cases hT : decide (z ∈ (gR ps' q).take y)
                          · have HT := Lib.hid hT; clear hT
                            cases hE : (u == z)
                            all_goals
                              have HE := Lib.hid hE
                              go_wp2_with fail
                              refine wp_region_quiet_lit (by kernel_rfl) (by kernel_rfl) ?_
                              iterate 23 (go_big_quiet_step (fail))
                              refine wpQuiet_nil ?_
                              intro _ hw'
                              obtain ⟨nq, hw''⟩ := hw'
                              subst hw''
                              go_wp2_with fail
                              exact ⟨⟨y + 1, by omega, by go_num, by rw [Hts.out, HT.out]; congr 1; have h0 := HE.out; simp at h0; simp [h0], HW4.out.trans (Drew.below ⟨nq, rfl⟩ _)⟩, by simp [intOf]; omega⟩
                          · have HT := Lib.hid hT; clear hT
                            go_wp2_with fail
                            refine wp_region_quiet_lit (by kernel_rfl) (by kernel_rfl) ?_
                            iterate 23 (go_big_quiet_step (fail))
                            refine wpQuiet_nil ?_
                            intro _ hw'
                            obtain ⟨nq, hw''⟩ := hw'
                            subst hw''
                            go_wp2_with fail
                            exact ⟨⟨y + 1, by omega, by go_num, by rw [Hts.out, HT.out]; rfl, HW4.out.trans (Drew.below ⟨nq, rfl⟩ _)⟩, by simp [intOf]; omega⟩
                        · have hTall : (gR ps' q).take y = gR ps' q := List.take_of_length_le (by omega)
                          rw [hTall]
                          clear hTall
                          generalize hT : decide (z ∈ gR ps' q) = T at Hx ⊢
                          clear hT
                          cases A <;> cases T
                          all_goals
                            go_wp2_with fail
                            exact ⟨⟨x + 1, by omega, by go_num, by rw [Hx.out]; rfl, HW4.out⟩, by simp [intOf]; omega⟩
                    · obtain rfl : (gR ps p).length = x := by omega
                      obtain ⟨r1, g1, g2⟩ := HP.out _ HW3.out p hpt
                      obtain ⟨ra, rc, rfl, -, -⟩ := id g2
                      have kc := HC.out _ HW3.out p hpt
                      have kd := HD.out _ HW3.out q hqt
                      have Hq1 := Lib.hid (show foundTo ps ps' cs ds us.length t p (q + 1) = (F || (A && decide (gB cs p = gB ds q))) by rw [← HF.out, ← HA.out]; rfl)
                      have d1 : (p : Int) < (cs.length : Int) := by rw [Hlen'.out]; omega
                      have d2 : (q : Int) < (ds.length : Int) := by rw [Hlen''.out, Hlen.out]; omega
                      generalize gB cs p = b1 at kc Hq1
                      generalize gB ds q = b2 at kd Hq1
                      clear g2
                      cases F
                      · cases A
                        · go_wp2_with fail
                          refine wp_region_quiet_lit (by kernel_rfl) (by kernel_rfl) ?_
                          iterate 16 (go_big_quiet_step (fail))
                          refine wpQuiet_nil ?_
                          intro _ hw'
                          obtain ⟨nq, hw''⟩ := hw'
                          subst hw''
                          go_wp2_with fail
                          exact ⟨⟨q + 1, by omega, by go_num, by rw [Hq1.out]; rfl, HW3.out.trans (Drew.below ⟨nq, rfl⟩ _)⟩, by simp [intOf]; omega⟩
                        · cases b1 <;> cases b2
                          all_goals
                            go_wp2_with fail
                            refine wp_region_quiet_lit (by kernel_rfl) (by kernel_rfl) ?_
                            iterate 16 (go_big_quiet_step (fail))
                            refine wpQuiet_nil ?_
                            intro _ hw'
                            obtain ⟨nq, hw''⟩ := hw'
                            subst hw''
                            go_wp2_with fail
                            exact ⟨⟨q + 1, by omega, by go_num, by rw [Hq1.out]; rfl, HW3.out.trans (Drew.below ⟨nq, rfl⟩ _)⟩, by simp [intOf]; omega⟩
                      · go_wp2_with fail
                        refine wp_region_quiet_lit (by kernel_rfl) (by kernel_rfl) ?_
                        iterate 16 (go_big_quiet_step (fail))
                        refine wpQuiet_nil ?_
                        intro _ hw'
                        obtain ⟨nq, hw''⟩ := hw'
                        subst hw''
                        go_wp2_with fail
                        exact ⟨⟨q + 1, by omega, by go_num, by rw [Hq1.out]; rfl, HW3.out.trans (Drew.below ⟨nq, rfl⟩ _)⟩, by simp [intOf]; omega⟩
                · obtain rfl : ps.length = q := by omega
                  have HFt := Hfound.out p hpt
                  rw [Hlen.out] at HFt
                  rw [HFt]
                  clear HFt
                  go_wp2_with fail
                  exact ⟨⟨p + 1, by omega, by go_num, HW2.out⟩, by simp [intOf]; omega⟩
            · obtain rfl : ps.length = p := by omega
              go_wp2_with fail
              refine (awake_any _).mono ?_
              rintro e w9 ⟨rfl, hb9⟩
              have Hb9 := Lib.hid hb9; clear hb9
              go_wp2_with fail
              go_ret
              exact ⟨rfl, B8.out.trans ((HW1.out.trans (Hb9.out.mono HW1.out.size)).mono B8.out.size)⟩
  · go_wp2_with fail
    clear hz
    generalize w2.alloc (.cells #[.slice ua us.length uc, .slice ha hs.length hc] 25) = w3 at Hext C0 Hb3 Hs3 ⊢
    have B3 := Lib.hid (show Below w.heap.size w w3 from B2.out.trans (Hb3.out.mono B2.out.size))
    refine (awake_any _).mono ?_
    rintro e w7 ⟨rfl, hb7⟩
    have Hb7 := Lib.hid hb7; clear hb7
    go_wp2_with fail
    go_ret
    exact ⟨rfl, B3.out.trans (Hb7.out.mono B3.out.size)⟩
end Go.Proofs.Ytfnjcjoomaeapaa
