/- NestingOrders: its walk -/
import Derived.Test.YtfnjcjoomaeapaaCells
import Derived.Test.YtfnjcjoomaeapaaW10
namespace Go.Proofs.Ytfnjcjoomaeapaa
open Go.RowKit

set_option maxRecDepth 100000 in
set_option maxHeartbeats 8000000 in
theorem orders_any (L : Value) (l : List Int) (free : Bool) (w : World) (hL : IntsAt w L l) :
    Calls Try.prog 3 #[L, .bool free] w fun e w' => e = .returned (.bool true) ∧ Below w.heap.size w w' := by
  have HL := Lib.hid hL; clear hL
  obtain ⟨i3, hi, hz, hsz, hby⟩ := info_parts Try.info3
  have Hi3 := Lib.hid hi; have Hz3 := Lib.hid hz; have Hsz3 := Lib.hid hsz; have Hby3 := Lib.hid hby
  clear hi hz hsz hby
  obtain ⟨i4, hi, hz, hsz, hby⟩ := info_parts Try.info4
  have Hi4 := Lib.hid hi; have Hz4 := Lib.hid hz; have Hsz4 := Lib.hid hsz; have Hby4 := Lib.hid hby
  clear hi hz hsz hby
  go_enter Try.func3, Try.ntmps3
  go_wp2_with fail
  refine (new_any L l w HL.out).mono ?_
  rintro e w1 ⟨rfl, ht⟩
  have Ht := Lib.hid ht; clear ht
  go_wp2_with fail
  refine (made_any w _ L l 8 free w1 Ht.out (Nat.le_refl _)).mono ?_
  rintro e w2 ⟨u, h, us, hs, rfl, hu, hh, hlen, hS, hH, hg⟩
  obtain ⟨ua, uc, rfl, -, -⟩ := id hu
  obtain ⟨ha, hc, rfl, -, -⟩ := id hh
  have B2 := Lib.hid (Ht.out.fromBelow hg)
  have Hchk := Lib.hid (checkS_0 hS hH)
  have hb3 : Below w2.heap.size w2 (w2.alloc (.cells #[.slice ua us.length uc, .slice ha hs.length hc] 25)) := (Below.refl _ _).alloc (Nat.le_refl _) _
  have hq : (w2.alloc (.cells #[.slice ua us.length uc, .slice ha hs.length hc] 25)).heap[w2.heap.size]? = some (.cells #[.slice ua us.length uc, .slice ha hs.length hc] 25 (0, 0)) := heap_new' w2 _ _ rfl
  have Hext := Lib.hid (show ∀ W, Below (w2.heap.size + 1) (w2.alloc (.cells #[.slice ua us.length uc, .slice ha hs.length hc] 25)) W → IntsAt W (.slice ua us.length uc) us ∧ RowsAt W (.slice ha hs.length hc) hs ∧ W.cell? ⟨w2.heap.size, 0, none⟩ = some (.slice ua us.length uc) ∧ W.cell? ⟨w2.heap.size, 1, none⟩ = some (.slice ha hs.length hc) from fun W hb => by
    have e := (ExtW.of_below hb3).trans (ExtW.of_below (by simpa using hb))
    have hq' : W.heap[w2.heap.size]? = some (.cells #[.slice ua us.length uc, .slice ha hs.length hc] 25 (0, 0)) := by rw [hb.block _ (by omega)]; exact hq
    exact ⟨hu.ext e, hh.ext e, by rw [heap_cell hq']; rfl, by rw [heap_cell hq']; rfl⟩)
  have HS := Lib.hid hS
  have Hok := Lib.hid (parts_ok us hs (by have := hS.1; omega))
  have Hmono := Lib.hid (parts_mono us hs)
  have Hin := Lib.hid (show ∀ p k, p < (partsOf us hs).length → k < (gR (partsOf us hs) p).length → ∃ i : Nat, gI (gR (partsOf us hs) p) k = i ∧ i < us.length from fun p k hp hk => by
    have := (partsOf_in hp).2 k hk
    exact ⟨(gI (gR (partsOf us hs) p) k).toNat, by omega, by omega⟩)
  have Hlp := Lib.hid (show (partsOf us hs).length ≤ 9 ∧ ∀ p, p < (partsOf us hs).length → (gR (partsOf us hs) p).length ≤ us.length from ⟨partsS_len _ _, fun p hp => (partsOf_in hp).1⟩)
  have h8 : us.length ≤ 8 := hS.1
  have Hm3 := Lib.hid (show i3.bytes * us.length ≤ 281474976710656 by have := Hby3.out; rw [this]; omega)
  have Hm4 := Lib.hid (show i4.bytes * us.length ≤ 281474976710656 by have := Hby4.out; rw [this]; omega)
  have Hm2 := Lib.hid (show us.length ≤ maxLen by unfold maxLen; omega)
  have c0 := (Hext.out _ (Below.refl _ _)).2.2.1
  have c1 := (Hext.out _ (Below.refl _ _)).2.2.2
  have Hb3 := Lib.hid hb3
  have hs3 : (w2.alloc (.cells #[.slice ua us.length uc, .slice ha hs.length hc] 25)).heap.size = w2.heap.size + 1 := by simp
  clear hu hh hS hH hg hb3 hq
  have C0 := Lib.hid c0; have C1 := Lib.hid c1; have Hs3 := Lib.hid hs3
  clear c0 c1 hs3
  go_wp2_with fail
  generalize w2.alloc (.cells #[.slice ua us.length uc, .slice ha hs.length hc] 25) = w3 at Hext C0 C1 Hb3 Hs3 ⊢
  have c0 := C0.out
  have c1 := C1.out
  go_wp2_with fail
  refine (pPartsFn_any _ _ us hs _ (Hext.out _ (Below.refl _ _)).1 (Hext.out _ (Below.refl _ _)).2.1).mono ?_
  rintro e w4 ⟨v, rfl, hv, hb4⟩
  rw [Hchk.out]
  unfold partsR at hv
  rw [if_pos Hchk.out] at hv
  clear c0 c1 C0 C1
  obtain ⟨pa, pc, rfl, -, hpx⟩ := hv
  have Hb4 := Lib.hid (show Below (w2.heap.size + 1) w3 w4 by rw [Hs3.out] at hb4; exact hb4)
  have hs4 : w2.heap.size + 1 ≤ w4.heap.size := by have := hb4.size; rw [Hs3.out] at this; exact this
  have Hpx := Lib.hid hpx
  clear hb4 hpx
  generalize hps : partsOf us hs = ps at Hok Hmono Hin Hlp Hpx ⊢
  clear hps
  have Hext4 := Lib.hid (show ∀ W, Below w4.heap.size w4 W → (IntsAt W (.slice ua us.length uc) us ∧ RowsAt W (.slice ha hs.length hc) hs ∧ W.cell? ⟨w2.heap.size, 0, none⟩ = some (.slice ua us.length uc) ∧ W.cell? ⟨w2.heap.size, 1, none⟩ = some (.slice ha hs.length hc)) ∧ ∀ p, p < ps.length → ∃ b off r, pa = some ⟨b, off, none⟩ ∧ W.cell? ⟨b, off + p, none⟩ = some r ∧ IntsAt W r (gR ps p) from fun W hb => ⟨Hext.out _ (Hb4.out.trans (hb.mono hs4)), fun p hp => by
    obtain ⟨b, o, r, h1, h2, h3, h4⟩ := Hpx.out p hp
    exact ⟨b, o, r, h1, below_cells hb _ _ _ h3, h4.ext (ExtW.of_below hb)⟩⟩)
  have B4 := Lib.hid (show Below w.heap.size w w4 from (B2.out.trans (Hb3.out.mono B2.out.size)).trans (Hb4.out.mono (by have := B2.out.size; omega)))
  clear Hext Hb3 Hb4 Hpx Hs3 B2
  go_wp2_with (at_make; refine wpList_make_full _ rfl _ _ 22 rfl 0 3 i3 (.int .i64 0) 1 Try.underlying22 Hi3.out Hz3.out Hsz3.out .i64 .i64 us.length us.length us.length rfl rfl rfl rfl Hm3.out Hm2.out (Nat.zero_le _) ?_; intro w5 hown hg5; have Hown := Lib.hid hown; have Hg5 := Lib.hid hg5; clear hown hg5)
  have HW := Lib.hid (CAt.mk' Hown.out)
  have HB := Lib.hid ((Below.refl w4.heap.size w4).grown Hg5.out (Nat.le_refl _) (fun q e => by cases e))
  clear Hown Hg5
  go_loopw [10] (fun p wr => ∃ i : Nat, i ≤ us.length ∧ p = .int .i64 i ∧ CAt wr w4.heap.size us.length (fun k => .int .i64 (if k < i then -1 else 0)) ∧ Below w4.heap.size w4 wr) (fun p _ => us.length - (intOf p).toNat)
  case atStart => exact ⟨0, by omega, rfl, HW.out.congr (fun k hk => by simp), HB.out⟩
  case round => as_aux_lemma =>
    clear HW HB
    obtain ⟨i, hi, rfl, hW, hB⟩ := hrel
    have HB := Lib.hid hB; clear hB
    by_cases hit : i < us.length
    · have hci := hW.cell i hit
      have hfi := hW.free i
      have HW := Lib.hid hW; clear hW
      go_wp2_with fail
      exact ⟨⟨i + 1, by omega, by go_num, HW.out.neg1, HB.out.setCell (Nat.le_refl _) _⟩, by simp [intOf]; omega⟩
    · obtain rfl : us.length = i := by omega
      have HW := Lib.hid (hW.congr (g := fun k => .int .i64 ((fun _ => (-1 : Int)) k)) (fun k hk => by simp [hk])); clear hW
      go_wp2_with fail
      go_loopw [11, 12] (fun ct p wr => ∃ (q : Nat) (W : Nat → Int) (count : Int), q ≤ ps.length ∧ ct = .int .i64 count ∧ p = .int .i64 q ∧ WInv us.length ps q 0 W count ∧ CAt wr w4.heap.size us.length (fun k => .int .i64 (W k)) ∧ Below w4.heap.size w4 wr) (fun _ p _ => ps.length - (intOf p).toNat)
      case atStart => exact ⟨0, _, 0, by omega, rfl, rfl, WInv.start (fun v hv => rfl), HW.out, HB.out⟩
      case round => as_aux_lemma =>
        clear HW HB
        obtain ⟨q, W, count, hq, rfl, rfl, hI, hW, hB⟩ := hrel
        have HI := Lib.hid hI; have HW := Lib.hid hW; have HB := Lib.hid hB
        clear hI hW hB
        have hlp := Hlp.out.1
        by_cases hqt : q < ps.length
        · have hlq := Hlp.out.2 q hqt
          go_wp2_with fail
          go_loopw [11, 13] (fun ct p wr => ∃ (k : Nat) (W : Nat → Int) (count : Int), k ≤ (gR ps q).length ∧ ct = .int .i64 count ∧ p = .int .i64 k ∧ WInv us.length ps q k W count ∧ CAt wr w4.heap.size us.length (fun k => .int .i64 (W k)) ∧ Below w4.heap.size w4 wr) (fun _ p _ => (gR ps q).length - (intOf p).toNat)
          case atStart => exact ⟨0, W, count, by omega, rfl, rfl, HI.out, HW.out, HB.out⟩
          case round => as_aux_lemma =>
            clear HI HW HB
            obtain ⟨k, W, count, hk, rfl, rfl, hI, hW, hB⟩ := hrel
            have hcb : 0 ≤ count ∧ count ≤ us.length := by rw [hI.cnt]; have := lcount_le (fun v => decide (0 ≤ W v)) us.length; omega
            have HI := Lib.hid hI; have HW := Lib.hid hW; have HB := Lib.hid hB
            clear hI hW hB
            obtain ⟨pb, po, r, rfl, hpc, hr⟩ := (Hext4.out _ HB.out).2 q hqt
            obtain ⟨ra, rc, rfl, -, hrx⟩ := hr
            have Hrx := Lib.hid hrx; clear hrx
            by_cases hkt : k < (gR ps q).length
            · obtain ⟨rb, ro, rfl, -, hel⟩ := Hrx.out k hkt
              obtain ⟨x, hx, hxn⟩ := Hin.out q k hqt hkt
              have hfr := HI.out.fresh Hok.out Hmono.out hqt hkt hx hxn
              have hwx := HW.out.cell x hxn
              have hwf := HW.out.free x
              rw [hfr] at hwx
              have Hst := Lib.hid (HI.out.step Hok.out Hmono.out hqt hkt hx hxn)
              rw [hx] at hel
              clear hfr
              go_wp2_with fail
              exact ⟨⟨k + 1, _, count + 1, by omega, by go_num, by go_num, Hst.out, (HW.out.set x (.int .i64 q)).congr (fun y hy => by by_cases e : y = x <;> simp [e]), HB.out.setCell (Nat.le_refl _) _⟩, by simp [intOf]; omega⟩
            · go_wp2_with fail
              exact ⟨⟨q + 1, W, count, by omega, rfl, by go_num, HI.out.next (by omega), HW.out, HB.out⟩, by simp [intOf]; omega⟩
        · obtain rfl : ps.length = q := by omega
          have hcn := HI.out.count Hok.out
          subst hcn
          go_wp2_with fail
          have Hle := Lib.hid (fun i j hi hj hR => HI.out.le Hok.out (i := i) (j := j) hi hj hR)
          have Heq := Lib.hid (fun i j hi hj => HI.out.eq Hok.out (i := i) (j := j) hi hj)
          clear HI Hok Hmono Hin Hlp
          rename World => wA
          go_loopw [15] (fun p w6 => ∃ i : Nat, i ≤ us.length ∧ p = .int .i64 i ∧ Below wA.heap.size wA w6) (fun p _ => us.length - (intOf p).toNat)
          case atStart => exact ⟨0, by omega, rfl, Below.refl _ _⟩
          case round => as_aux_lemma =>
            obtain ⟨i, hi, rfl, hA6⟩ := hrel
            by_cases hit : i < us.length
            · have hE6 := Hext4.out _ (HB.out.trans (hA6.mono HB.out.size))
              have c0 := hE6.1.2.2.1
              have c1 := hE6.1.2.2.2
              have HU6 := Lib.hid hE6.1.1
              have HH6 := Lib.hid hE6.1.2.1
              have HA6 := Lib.hid hA6
              clear hE6 hA6
              go_wp2_with fail
              refine (pReachFn_any _ _ us hs i _ HU6.out HH6.out).mono ?_
              rintro e w7 ⟨v, rfl, hv, hb7⟩
              rw [(reach_in Hchk.out hit).1]
              rw [(reach_in Hchk.out hit).2] at hv
              obtain ⟨va, vc, rfl, -, hvx⟩ := hv
              have Hvx := Lib.hid hvx
              have HA7 := Lib.hid (HA6.out.trans (hb7.mono HA6.out.size))
              have Hnat := Lib.hid (fun x hx => reachTo_nat (R := rB us.length hs) i us.length x hx)
              have Hend := Lib.hid (fun v k hv hk => reach_mem (R := rB us.length hs) (i := i) (n := us.length) (v := v) (k := k) hv hk)
              have hll := reachTo_len (R := rB us.length hs) i us.length
              clear hvx hb7 HU6 HH6 HA6 c0 c1
              generalize hLi : reachTo (rB us.length hs) i us.length = Li at Hvx Hnat Hend hll ⊢
              clear hLi
              go_wp2_with (at_make; refine wpList_make_full _ rfl _ _ 34 rfl 0 4 i4 (.bool false) 1 Try.underlying34 Hi4.out Hz4.out Hsz4.out .i64 .i64 us.length us.length us.length rfl rfl rfl rfl Hm4.out Hm2.out (Nat.zero_le _) ?_; intro w8 hown hg8; have Hown := Lib.hid hown; have Hg8 := Lib.hid hg8; clear hown hg8)
              have HC := Lib.hid (CAt.mk' Hown.out)
              have HB8 := Lib.hid ((Below.refl w7.heap.size w7).grown Hg8.out (Nat.le_refl _) (fun q e => by cases e))
              clear Hown Hg8
              go_loopw [19] (fun p wx => ∃ k : Nat, k ≤ Li.length ∧ p = .int .i64 k ∧ CAt wx w7.heap.size us.length (fun x => .bool (decide ((x : Int) ∈ Li.take k))) ∧ Below w7.heap.size w7 wx) (fun p _ => Li.length - (intOf p).toNat)
              case atStart => exact ⟨0, by omega, rfl, HC.out.congr (fun k hk => by simp), HB8.out⟩
              case round => as_aux_lemma =>
                clear HC HB8
                obtain ⟨k, hk, rfl, hC, hB8⟩ := hrel
                by_cases hkt : k < Li.length
                · obtain ⟨rb, ro, rfl, -, hel⟩ := Hvx.out k hkt
                  obtain ⟨x, hxn, hx⟩ := Hnat.out k hkt
                  have hel := below_cells hB8 _ _ _ hel
                  rw [hx] at hel
                  have hci := hC.cell x hxn
                  have hcf := hC.free x
                  have HC := Lib.hid hC; have HB8 := Lib.hid hB8
                  clear hC hB8
                  go_wp2_with fail
                  exact ⟨⟨k + 1, by omega, by go_num, (HC.out.set x (.bool true)).congr (fun y hy => by
                    rw [decide_take_succ _ hkt, hx]
                    by_cases e : y = x
                    · simp [e]
                    · have : ¬ ((x : Int) = (y : Int)) := by omega
                      simp [e, this]), HB8.out.setCell (Nat.le_refl _) _⟩, by simp [intOf]; omega⟩
                · have HC := Lib.hid (hC.congr (g := fun x => .bool (rB us.length hs i x)) (fun x hx => by rw [Hend.out x k hx (by omega)]))
                  have HA9 := Lib.hid (HA7.out.trans (hB8.mono HA7.out.size))
                  have hnew : wA.heap.size ≤ w7.heap.size := HA7.out.size
                  clear hC hB8 HA7
                  go_wp2_with fail
                  rename World => wC
                  go_loopw [20] (fun p wy => ∃ j : Nat, j ≤ us.length ∧ p = .int .i64 j ∧ Below wC.heap.size wC wy) (fun p _ => us.length - (intOf p).toNat)
                  case atStart => exact ⟨0, by omega, rfl, Below.refl _ _⟩
                  case round => as_aux_lemma =>
                    obtain ⟨j, hj, rfl, hC6⟩ := hrel
                    by_cases hjt : j < us.length
                    · have hE6 := Hext4.out _ (HB.out.trans ((HA9.out.trans (hC6.mono HA9.out.size)).mono HB.out.size))
                      have c0 := hE6.1.2.2.1
                      have c1 := hE6.1.2.2.2
                      have HU6 := Lib.hid hE6.1.1
                      have HH6 := Lib.hid hE6.1.2.1
                      have HC6 := Lib.hid hC6
                      clear hE6 hC6
                      go_wp2_with fail
                      refine (pReachFn_any _ _ us hs j _ HU6.out HH6.out).mono ?_
                      rintro e w10 ⟨v, rfl, hv, hb10⟩
                      rw [(reach_in Hchk.out hjt).1]
                      rw [(reach_in Hchk.out hjt).2] at hv
                      obtain ⟨ba, bc, rfl, -, hbx⟩ := hv
                      have Hbx := Lib.hid hbx
                      have HC10 := Lib.hid (HC6.out.trans (hb10.mono HC6.out.size))
                      have Hend2 := Lib.hid (fun k hk => reach_mem (R := rB us.length hs) (i := j) (n := us.length) (v := i) (k := k) hit hk)
                      have hll2 := reachTo_len (R := rB us.length hs) j us.length
                      have hin := (HC.out.below HC10.out).cell j hjt
                      clear hbx hb10 HU6 HH6 HC6 c0 c1
                      generalize hLj : reachTo (rB us.length hs) j us.length = Lj at Hbx Hend2 hll2 ⊢
                      clear hLj
                      go_wp2_with fail
                      go_loop [23, 24] (fun t p => ∃ k : Nat, k ≤ Lj.length ∧ p = .int .i64 k ∧ t = .bool (decide ((i : Int) ∈ Lj.take k) && rB us.length hs i j)) (fun _ p => Lj.length - (intOf p).toNat)
                      case atStart => exact ⟨0, by omega, rfl, by simp⟩
                      case round => as_aux_lemma =>
                        obtain ⟨k, hk, rfl, rfl⟩ := hrel
                        by_cases hkt : k < Lj.length
                        · obtain ⟨rb, ro, rfl, -, hel⟩ := Hbx.out k hkt
                          have Hts := Lib.hid (decide_take_succ (i : Int) hkt)
                          obtain ⟨y, Hy⟩ : ∃ y, Hid (y = gI Lj k) := ⟨_, rfl⟩
                          rw [← Hy.out] at hel Hts
                          by_cases hyi : y = i <;> cases hrr : rB us.length hs i j <;> cases hT : decide ((i : Int) ∈ Lj.take k)
                          all_goals
                            have HR := Lib.hid hrr; have HT := Lib.hid hT
                            rw [hrr] at hin
                            clear hrr hT
                            go_wp2_with fail
                            exact ⟨⟨k + 1, by omega, by go_num, by rw [Hts.out, HT.out]; simp [hyi]⟩, by simp [intOf]; omega⟩
                        · rw [Hend2.out k (by omega), Heq.out i j hit hjt]
                          have hE10 := (Hext4.out _ (HB.out.trans ((HA9.out.trans (HC10.out.mono HA9.out.size)).mono HB.out.size))).1
                          have c1 := hE10.2.2.2
                          obtain ⟨sa, sc, hse, -, hsx⟩ := hE10.2.1
                          have hbi : i < hs.length := by have := HS.out.2.1; omega
                          have b5 : (i : Int) < (hs.length : Int) := by omega
                          obtain ⟨sb, so, sr, hsa, -, hsc, hsr⟩ := hsx i hbi
                          subst hsa
                          obtain ⟨ta, tc, rfl, -, htx⟩ := hsr
                          obtain ⟨tb, tg, rfl, -, htc⟩ := htx j (by rw [(HS.out.2.2 i hit).1]; exact hjt)
                          cases hse
                          rw [(HS.out.2.2 i hit).1] at hsc
                          have hwi := (HW.out.below (HA9.out.trans (HC10.out.mono HA9.out.size))).cell i hit
                          have hwj := (HW.out.below (HA9.out.trans (HC10.out.mono HA9.out.size))).cell j hjt
                          change _ = some (Value.int .i64 (Hd hs i j)) at htc
                          clear hsx htx
                          have b1 : (0:Int) ≤ (i:Int) := by omega
                          have b2 : (i:Int) < us.length := by omega
                          have b3 : (0:Int) ≤ (j:Int) := by omega
                          have b4 : (j:Int) < us.length := by omega
                          have hA : 0 < Hd hs i j → W j ≤ W i := fun hd => Hle.out i j hit hjt (rB_iff.2 (.edge ⟨hit, hjt, hd⟩))
                          have hC : rB us.length hs i j = true → W j ≤ W i := Hle.out i j hit hjt
                          by_cases p1 : 0 < Hd hs i j <;> cases p2 : rB us.length hs i j <;> by_cases p3 : W i = W j
                          all_goals
                            rw [p2] at hin
                            first
                              | (have q3 : decide (W i = W j) = true := by simp [p3])
                              | (have q3 : decide (W i = W j) = false := by simp [p3])
                            rw [q3]
                            try have q1 : decide (0 < Hd hs i j) = true := by simp [p1]
                            try have q1 : decide (0 < Hd hs i j) = false := by simp [p1]
                            try have q4 : W j ≤ W i := hA p1
                            try have q4 : W j ≤ W i := hC p2
                            try have q5 : decide (W i < W j) = false := by simp; exact q4
                            first
                              | (have q6 : (W i == W j) = true := by simp [p3])
                              | (have q6 : (W i == W j) = false := by simp [p3])
                            clear hA hC
                            go_wp2_with fail
                            refine wp_region_quiet_lit (by kernel_rfl) (by kernel_rfl) ?_
                            iterate 50 (go_big_quiet_step (fail))
                            refine wpQuiet_nil ?_
                            intro _ hw'
                            obtain ⟨nq, hw''⟩ := hw'
                            subst hw''
                            go_wp2_with fail
                            exact ⟨⟨j + 1, by omega, by go_num, HC10.out.trans (Drew.below ⟨nq, rfl⟩ _)⟩, by simp [intOf]; omega⟩
                    · obtain rfl : us.length = j := by omega
                      go_wp2_with fail
                      exact ⟨⟨i + 1, by omega, by go_num, HA9.out.trans (hC6.mono HA9.out.size)⟩, by simp [intOf]; omega⟩
            · obtain rfl : us.length = i := by omega
              have HA6 := Lib.hid hA6; clear hA6
              go_wp2_with fail
              refine (awake_any _).mono ?_
              rintro e w7 ⟨rfl, hb7⟩
              have HA7 := Lib.hid (HA6.out.trans (hb7.mono HA6.out.size))
              clear hb7
              go_wp2_with fail
              go_ret
              have hB := HB.out.trans (HA7.out.mono HB.out.size)
              exact ⟨rfl, B4.out.trans (hB.mono B4.out.size)⟩
end Go.Proofs.Ytfnjcjoomaeapaa
