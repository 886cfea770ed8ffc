/- walks: the funds that are made -/
import Derived.Test.YtfnjcjoomaeapaaMade
import Derived.Deep.DeepCutAuto
namespace Go.Proofs.Ytfnjcjoomaeapaa
open Go.RowKit

def MadePost (w : World) (bt : Nat) (most : Nat) (e : Ending) (w' : World) : Prop :=
  ∃ u h us hs, e = .returned (.agg #[u, h]) ∧ IntsAt w' u us ∧ RowsAt w' h hs ∧ us.length ≤ most ∧ Shape us hs ∧ Held us hs ∧ w.grownBy w' (some bt)

theorem gcell {w w' : World} (h : w.grownBy w' none) : (∀ b o, b < w.heap.size → w'.cell? ⟨b, o, none⟩ = w.cell? ⟨b, o, none⟩) ∧ (∀ b o, b < w.heap.size → w'.frozen? ⟨b, o, none⟩ = w.frozen? ⟨b, o, none⟩) :=
  ⟨fun b _ hb => World.cell?_of_block (w := w) (h.block b hb (by simp)), fun b _ hb => World.frozen?_of_block (w := w) (h.block b hb (by simp))⟩
theorem made_size {w w' : World} {e : TypeId} {n : Nat} {xs : List Value} (h : w'.ownsRow 0 e 1 (.slice (some ⟨w.heap.size, 0, none⟩) n n) n xs) : w.heap.size < w'.heap.size := (World.ownsRow.lt h _ rfl).2
theorem made_lt {w w' : World} {e : TypeId} {n : Nat} {xs : List Value} (h : w'.ownsRow 0 e 1 (.slice (some ⟨w.heap.size, 0, none⟩) n n) n xs) : ∀ b, b < w.heap.size → b < w'.heap.size := fun _ hb => Nat.lt_trans hb (World.ownsRow.lt h _ rfl).2
def NSt (w1 wx : World) (n : Nat) (b : Value) : Prop :=
  ∃ Bx Bu Bh : Nat, b = .pointer (some ⟨Bx, 0, none⟩) ∧ wx.heap[Bx]? = some (.cells #[.slice (some ⟨Bu, 0, none⟩) n n, .slice (some ⟨Bh, 0, none⟩) n n] 25 (0, 0)) ∧
    w1.grownBy wx none ∧ UZ wx Bu n (.int .i64 0) ∧ UZ wx Bh n (.slice none 0 0) ∧ Bx ≠ Bu ∧ Bx ≠ Bh ∧ Bu ≠ Bh ∧ w1.heap.size ≤ Bx ∧ w1.heap.size ≤ Bu ∧ w1.heap.size ≤ Bh

theorem NSt.intro {w1 wx : World} {n Bx Bu Bh : Nat} (h1 : wx.heap[Bx]? = some (.cells #[.slice (some ⟨Bu, 0, none⟩) n n, .slice (some ⟨Bh, 0, none⟩) n n] 25 (0, 0)))
    (h2 : w1.grownBy wx none) (h3 : UZ wx Bu n (.int .i64 0)) (h4 : UZ wx Bh n (.slice none 0 0)) (h5 : (Bx ≠ Bu ∧ Bx ≠ Bh ∧ Bu ≠ Bh) ∧ w1.heap.size ≤ Bx ∧ w1.heap.size ≤ Bu ∧ w1.heap.size ≤ Bh) : NSt w1 wx n (.pointer (some ⟨Bx, 0, none⟩)) :=
  ⟨Bx, Bu, Bh, rfl, h1, h2, h3, h4, h5.1.1, h5.1.2.1, h5.1.2.2, h5.2.1, h5.2.2.1, h5.2.2.2⟩

set_option maxRecDepth 100000 in
set_option maxHeartbeats 4000000 in
theorem made_any (w0 : World) (bt : Nat) (L : Value) (l : List Int) (most : Nat) (free : Bool) (w : World) (h : TapeEnv w0 w bt L l) (hm : most ≤ 8) :
    Calls Try.prog 8 #[.pointer (some ⟨bt, 0, none⟩), .int .i64 most, .bool free] w (MadePost w bt most) := by
  have hbt := h.lt
  have H := Lib.hid h; clear h
  obtain ⟨i3, hi, hz, hsz, hby⟩ := info_parts Try.info3
  have Hi3 := Lib.hid hi; have Hz3 := Lib.hid hz; have Hsz3 := Lib.hid hsz; have Hby3 := Lib.hid hby
  clear hi hz hsz hby
  obtain ⟨i22, hi, hz, hsz, hby⟩ := info_parts Try.info22
  have Hi22 := Lib.hid hi; have Hz22 := Lib.hid hz; have Hsz22 := Lib.hid hsz; have Hby22 := Lib.hid hby
  clear hi hz hsz hby
  go_enter Try.func8, Try.ntmps8
  go_wp2_with fail
  refine (next_any w0 bt L l _ _ (H.out.grown (World.grownBy_alloc w _ none) (by simp) (fun q e => by cases e)) (by omega) (by omega)).mono ?_
  rintro e w1 ⟨n, rfl, ⟨hn1, hn2⟩, ht, hg⟩
  obtain ⟨n, rfl⟩ := Int.eq_ofNat_of_zero_le hn1
  have hn : n ≤ most := by omega
  have hn8 : n ≤ 8 := by omega
  have hs1 := hg.size
  have Ht1 := Lib.hid ht
  have Hg1 := Lib.hid (show w.grownBy w1 (some bt) from grownBy_trans (World.grownBy_alloc w _ _) hg)
  have Hc0 := Lib.hid (hg.cell (show (w.alloc (.cells #[.slice none 0 0, .slice none 0 0] 25)).cell? ⟨w.heap.size, 0, none⟩ = some (.slice none 0 0) by rw [World.cell?_alloc_at _ _ _ _ rfl]; rfl) (by simp; omega))
  have Hc1 := Lib.hid (hg.cell (show (w.alloc (.cells #[.slice none 0 0, .slice none 0 0] 25)).cell? ⟨w.heap.size, 1, none⟩ = some (.slice none 0 0) by rw [World.cell?_alloc_at _ _ _ _ rfl]; rfl) (by simp; omega))
  have Hblk := Lib.hid (show w1.heap[w.heap.size]? = some (.cells #[.slice none 0 0, .slice none 0 0] 25 (0, 0)) by rw [hg.block _ (by simp) (by simp; omega)]; exact heap_new' _ _ _ rfl)
  clear ht hg hn1 hn2
  have Hm2 := Lib.hid (show n ≤ maxLen by unfold maxLen; omega)
  have Hm3 := Lib.hid (show i3.bytes * n ≤ 281474976710656 by have := Hby3.out; rw [this]; omega)
  have Hm22 := Lib.hid (show i22.bytes * n ≤ 281474976710656 by have := Hby22.out; rw [this]; omega)
  go_upto_region 2 with (fail)
  go_cut [8] (fun b wx => NSt w1 wx n b)
  case first =>
    go_region_with (first
      | (refine upon_make 22 3 i3 (.int .i64 0) Try.underlying22 Hi3.out Hz3.out Hsz3.out n Hm3.out Hm2.out ?_; intro wu hu hgu; have cu := (gcell hgu).1; have fu := (gcell hgu).2; have su := made_lt hu; have Hu := Lib.hid hu; have Hgu := Lib.hid hgu; clear hu hgu)
      | (refine upon_make 23 22 i22 (.slice none 0 0) Try.underlying23 Hi22.out Hz22.out Hsz22.out n Hm22.out Hm2.out ?_; intro wh hh hgh; have ch := (gcell hgh).1; have fh := (gcell hgh).2; have sh := made_lt hh; have Hh := Lib.hid hh; have Hgh := Lib.hid hgh; clear hh hgh))
    all_goals
      have HU := UZ.mk' Hu.out
      have HH := UZ.mk' Hh.out
      have l1 := HU.lt
      have l2 := HH.lt
      have l3 := Hgu.out.size
      have l4 := Hgh.out.size
      simp at l1 l2 l3 l4
      try simp at HU
      try simp at HH
      go_wp2_with fail
      go_meet
      apply NSt.intro
      · first
          | exact heap_new' _ _ _ rfl
          | (refine blk_set (blk_set (cs := #[.slice none 0 0, .slice none 0 0]) (t := 25) ?_ _ _) _ _
             first
               | (rw [Hgh.out.block _ (by first | (simp; done) | (simp; omega) | omega) (by simp)]
                  first
                    | exact heap_new' _ _ _ (by simp)
                    | (rw [Hgu.out.block _ (by first | (simp; done) | (simp; omega) | omega) (by simp)]; exact heap_new' _ _ _ (by simp)))
               | (rw [Hgu.out.block _ (by first | (simp; done) | (simp; omega) | omega) (by simp)]
                  first
                    | exact heap_new' _ _ _ (by simp)
                    | (rw [Hgh.out.block _ (by first | (simp; done) | (simp; omega) | omega) (by simp)]; exact heap_new' _ _ _ (by simp))))
      · repeat (first | exact World.grownBy.refl _ _ | refine gb_new ?_ (grownBy_setCell _ _ _) (fun q e => by cases e; first | (simp; done) | (simp; omega) | omega) | refine gb_new ?_ (World.grownBy_alloc _ _ none) (fun q e => by cases e) | refine gb_new ?_ Hgh.out (fun q e => by cases e) | refine gb_new ?_ Hgu.out (fun q e => by cases e) | refine gb_new ?_ (grown_drew _ none) (fun q e => by cases e))
      · repeat (first | exact HU | refine UZ.g ?_ (grown_drew _ none) | refine UZ.s ?_ (by first | omega | (simp; omega)) | refine UZ.g ?_ (World.grownBy_alloc _ _ none) | refine UZ.g ?_ Hgh.out | refine UZ.g ?_ Hgu.out)
      · repeat (first | exact HH | refine UZ.g ?_ (grown_drew _ none) | refine UZ.s ?_ (by first | omega | (simp; omega)) | refine UZ.g ?_ (World.grownBy_alloc _ _ none) | refine UZ.g ?_ Hgu.out | refine UZ.g ?_ Hgh.out)
      · first | omega | (simp; omega) | (simp at *; omega)
  case rest =>
    obtain ⟨Bx, Bu, Bh, rfl, hbx, hgx, hU, hH, n1, n2, n3, l1, l2, l3⟩ := hcut
    simp at hs1
    have hNG : NGU w0 w wc bt L l n Bx Bu Bh (fun _ => 0) 0 :=
      ⟨fun _ => 0, fun _ _ => ⟨by simp, by simp⟩, ⟨Ht1.out.grown hgx (by simp) (fun q e => by cases e), grownBy_trans Hg1.out (NG.new.gb_up hgx), by rw [hgx.block _ (by omega) (by simp)]; exact Hblk.out, hbx, fun k hk => hU.cell k hk, hU.free, fun k hk => absurd hk (by omega), fun k _ hk => hH.cell k hk, hH.free, fun k i hk => absurd hk (by omega), fun k i hk => absurd hk (by omega), ⟨n1, n2, n3⟩, ⟨by omega, by omega, by omega⟩, ⟨(Array.getElem?_eq_some_iff.1 hbx).1, hU.lt, hH.lt⟩, fun k hk => absurd hk (by omega), fun k i hk => absurd hk (by omega), hbt⟩⟩
    have HN := Lib.hid hNG
    clear hNG hbx hgx hU hH Ht1 Hg1 Hc0 Hc1 Hblk H
    go_wp2_with fail
    go_loopw [9] (fun p wr => ∃ (j : Nat) (R : Nat → Nat), j ≤ n ∧ p = .int .i64 j ∧ NGU w0 w wr bt L l n Bx Bu Bh R j) (fun p _ => n - (intOf p).toNat)
    case atStart => exact ⟨0, _, by omega, rfl, HN.out⟩
    case round =>
      clear HN
      obtain ⟨j, R, hj, rfl, hN⟩ := hrel
      have HN := Lib.hid hN; clear hN
      by_cases hjt : j < n
      · go_wp2_with fail
        go_region_held3 (fun w' => NGU w0 w w' bt L l n Bx Bu Bh R j ∧ w'.cell? ⟨Bx, 0, none⟩ = some (.slice (some ⟨Bu, 0, none⟩) n n) ∧ w'.cell? ⟨Bu, j, none⟩ = some (valAt w' ⟨Bu, j, none⟩) ∧ w'.frozen? ⟨Bu, j, none⟩ = false)
          (first | assumption | exact NGU.s6 (NGU.new HN.out (grown_drew _ none)) hjt | exact NGU.s6 (NGU.new (by assumption) (World.grownBy_alloc _ _ none)) hjt | exact NGU.s6 (NGU.store (by assumption) (by assumption)) hjt | (refine NGU.s6 (NGU.new (And.left (by assumption)) (World.grownBy_alloc _ _ none)) hjt) | exact NGU.s6 (NGU.store (And.left (by assumption)) (by assumption)) hjt)
          (first
            | (go_at_call 17; obtain ⟨s0, s1, s2, s3⟩ := (by assumption : (NGU w0 w _ bt L l n Bx Bu Bh R j ∧ _ ∧ _ ∧ _)); refine (pick5 w0 _ bt L l _ _ _ s0.tape ⟨by omega, by omega⟩ ⟨by omega, by omega⟩).mono ?_; rintro e wn ⟨x, rfl, hx, ht, hg⟩; have s := NGU.s6 (s0.kept ht hg) hjt; clear s0 s1 s2 s3 ht hg)
            | (go_at_call 16; obtain ⟨s0, s1, s2, s3⟩ := (by assumption : (NGU w0 w _ bt L l n Bx Bu Bh R j ∧ _ ∧ _ ∧ _)); refine (next_any w0 bt L l _ _ s0.tape (by omega) (by omega)).mono ?_; rintro e wn ⟨x, rfl, ⟨hx1, hx2⟩, ht, hg⟩; have hwx : IntKind.i64.wrap (1 + x) = 1 + x := IntWalk.i64_in _ ⟨by omega, by omega⟩; have s := NGU.s6 (s0.kept ht hg) hjt; clear s0 s1 s2 s3 ht hg))
        all_goals
          go_wp2_with fail
          obtain ⟨t0, -, -, -⟩ := (by assumption : NGU w0 w (World.setCell _ _ _) bt L l n Bx Bu Bh R j ∧ _ ∧ _ ∧ _)
          have T0 := Lib.hid t0
          obtain ⟨-, t1, t2, t3⟩ := t0.s7 hjt
          clear t0
          generalize World.setCell _ _ _ = wz at T0 t1 t2 t3 ⊢
          go_region_with (first
            | (refine upon_make 22 3 i3 (.int .i64 0) Try.underlying22 Hi3.out Hz3.out Hsz3.out n Hm3.out Hm2.out ?_; intro wu hu hgu; obtain ⟨z0, z1, z2, z3⟩ := NGU.s7 (NGU.new (NGU.new T0.out (grown_drew _ none)) hgu) hjt; have Hu := Lib.hid hu; have Hgu := Lib.hid hgu; clear hu hgu z0))
          all_goals
            go_wp2_with fail
            obtain ⟨R', hR⟩ := NGU.row7 (NGU.new T0.out (grown_drew _ none)) hjt Hgu.out (Nat.le_refl _) (UZ.mk' Hu.out)
            exact ⟨⟨j + 1, R', by omega, by go_num, hR⟩, by simp [intOf]; omega⟩
      · obtain rfl : n = j := by omega
        obtain ⟨U, hu, hG⟩ := HN.out
        have HG := Lib.hid hG; have HU := Lib.hid hu
        clear HN hG hu
        go_wp2_with fail
        go_loopw [10] (fun p wr => ∃ (c : Nat) (H : Nat → Nat → Int), c ≤ n ∧ p = .int .i64 c ∧ NG w0 w wr bt L l n Bx Bu Bh R n U H ∧ OInv n c U H) (fun p _ => n - (intOf p).toNat)
        case atStart => exact ⟨0, _, by omega, rfl, HG.out, ⟨fun _ _ _ _ => ⟨by simp, by simp⟩, fun y hy => absurd hy (by omega), fun _ _ _ _ _ => rfl⟩⟩
        case round =>
          clear HG
          obtain ⟨c, H, hc, rfl, hG, hO⟩ := hrel
          by_cases hct : c < n
          · have b0 : wr.cell? ⟨Bx, 0, none⟩ = some (.slice (some ⟨Bu, 0, none⟩) n n) := by rw [heap_cell hG.box]; rfl
            have cu := hG.unit c hct
            have hub := HU.out c hct
            have Hst0 := Lib.hid (hO.start HU.out hct (left := U c) (.inl rfl))
            have Hst1 := Lib.hid (hO.start HU.out hct (left := U c - 1) (.inr rfl))
            have HG := Lib.hid hG
            clear hG hO
            cases free
            all_goals
              go_wp2_with fail
              go_loopw [11, 12] (fun lf p wr => ∃ (i : Nat) (left : Int) (H : Nat → Nat → Int), i ≤ n ∧ lf = .int .i64 left ∧ p = .int .i64 i ∧ NG w0 w wr bt L l n Bx Bu Bh R n U H ∧ FInv n c i left U H) (fun _ p _ => n - (intOf p).toNat)
              case atStart => first | exact ⟨0, _, H, by omega, rfl, rfl, HG.out, Hst0.out⟩ | exact ⟨0, _, H, by omega, rfl, rfl, HG.out, Hst1.out⟩
              case round =>
                clear HG Hst0 Hst1 b0 cu
                obtain ⟨i, left, H, hi, rfl, rfl, hG, hF⟩ := hrel
                have hlb := hF.lb
                have HG := Lib.hid hG
                have HF := Lib.hid hF
                clear hG hF
                by_cases hit : i < n
                · by_cases hl : 0 < left
                  · go_wp2_with fail
                    refine (bool_any w0 bt L l 2 _ HG.out.tape (by omega) (by omega)).mono ?_
                    rintro e w5 ⟨⟨b, rfl⟩, ht, hg⟩
                    have HG5 := Lib.hid (NG.kept HG.out ht hg)
                    clear ht hg HG
                    cases b
                    · go_wp2_with fail
                      exact ⟨⟨i + 1, left, H, by omega, rfl, by go_num, HG5.out, HF.out.skip hit⟩, by simp [intOf]; omega⟩
                    · go_wp2_with fail
                      refine (next_any w0 bt L l left _ HG5.out.tape (by omega) (by omega)).mono ?_
                      rintro e w6 ⟨x, rfl, ⟨hx1, hx2⟩, ht, hg⟩
                      have HG6 := Lib.hid (NG.kept HG5.out ht hg)
                      clear ht hg HG5
                      go_wp2_with fail
                      refine (next_any w0 bt L l (left + 1) _ HG6.out.tape (by omega) (by omega)).mono ?_
                      rintro e w7 ⟨y, rfl, ⟨hy1, hy2⟩, ht, hg⟩
                      have HG7 := Lib.hid (NG.kept HG6.out ht hg)
                      clear ht hg HG6
                      go_wp2_with fail
                      refine (pick3 w0 _ bt L l _ _ _ _ (NG.new HG7.out (World.grownBy_alloc _ _ none)).tape (by omega) ⟨by omega, by omega⟩ ⟨by omega, by omega⟩).mono ?_
                      rintro e w8 ⟨v, rfl, hv, ht, hg⟩
                      have hG8 := NG.kept (NG.new HG7.out (World.grownBy_alloc _ _ none)) ht hg
                      clear ht hg HG7
                      have b1 : w8.cell? ⟨Bx, 1, none⟩ = some (.slice (some ⟨Bh, 0, none⟩) n n) := by rw [heap_cell hG8.box]; rfl
                      have hri := hG8.row i hit
                      have hen := hG8.ent i c hit hct
                      have hfr := hG8.efree i c hit
                      have HG8 := Lib.hid hG8
                      clear hG8
                      go_wp2_with fail
                      exact ⟨⟨i + 1, left - v, _, by omega, by go_num, by go_num, HG8.out.setEnt hit c v, HF.out.put hv⟩, by simp [intOf]; omega⟩
                  · go_wp2_with fail
                    exact ⟨⟨c + 1, H, by omega, by go_num, HG.out, HF.out.done hi⟩, by simp [intOf]; omega⟩
                · obtain rfl : n = i := by omega
                  go_wp2_with fail
                  exact ⟨⟨c + 1, H, by omega, by go_num, HG.out, HF.out.done hi⟩, by simp [intOf]; omega⟩
          · obtain rfl : n = c := by omega
            have b0 : wr.cell? ⟨Bx, 0, none⟩ = some (.slice (some ⟨Bu, 0, none⟩) n n) := by rw [heap_cell hG.box]; rfl
            have b1 : wr.cell? ⟨Bx, 1, none⟩ = some (.slice (some ⟨Bh, 0, none⟩) n n) := by rw [heap_cell hG.box]; rfl
            have r0 : wr.cell? ⟨w.heap.size, 0, none⟩ = some (.slice none 0 0) := by rw [heap_cell hG.res]; rfl
            have r1 : wr.cell? ⟨w.heap.size, 1, none⟩ = some (.slice none 0 0) := by rw [heap_cell hG.res]; rfl
            have fr : ∀ k, wr.frozen? ⟨w.heap.size, k, none⟩ = false := fun k => heap_free hG.res k
            have hb0 := hG.box
            have hb1 := hG.res
            have HG := Lib.hid hG
            have HO := Lib.hid hO
            clear hG hO
            go_wp2_with fail
            have q0 : ∀ W : World, W.heap[w.heap.size]? = some (.cells #[.slice (some ⟨Bu, 0, none⟩) n n, .slice (some ⟨Bh, 0, none⟩) n n] 25 (0, 0)) → W.cell? ⟨w.heap.size, 0, none⟩ = some (.slice (some ⟨Bu, 0, none⟩) n n) ∧ W.cell? ⟨w.heap.size, 1, none⟩ = some (.slice (some ⟨Bh, 0, none⟩) n n) := fun W h => ⟨by rw [heap_cell h]; rfl, by rw [heap_cell h]; rfl⟩
            obtain ⟨q1, q2⟩ := q0 _ (blk_set (blk_set (w := wr) hb1 0 (.slice (some ⟨Bu, 0, none⟩) n n)) 1 (.slice (some ⟨Bh, 0, none⟩) n n))
            refine bodyPost_ret (v := .agg #[.slice (some ⟨Bu, 0, none⟩) n n, .slice (some ⟨Bh, 0, none⟩) n n]) (by simp [results, Try.results8, go_sem, q1, q2]) rfl ?_
            have hg2 := grownBy_trans (grownBy_setCell wr ⟨w.heap.size, 0, none⟩ (.slice (some ⟨Bu, 0, none⟩) n n)) (grownBy_setCell _ ⟨w.heap.size, 1, none⟩ (.slice (some ⟨Bh, 0, none⟩) n n))
            refine ⟨_, _, listU n U, listH n H, rfl, HG.out.ints hn8 hg2, HG.out.rows hn8 hg2, by rw [listU_len]; omega, made_shape hn8 HU.out HO.out.bd, made_held HO.out, gb_new HG.out.gr hg2 (fun q e => by cases e; exact Nat.le_refl _)⟩
end Go.Proofs.Ytfnjcjoomaeapaa
