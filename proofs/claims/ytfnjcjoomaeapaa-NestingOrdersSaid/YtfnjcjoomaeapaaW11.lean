/- walks: the reference's Parts -/
import Derived.Test.YtfnjcjoomaeapaaW10
import Derived.Test.YtfnjcjoomaeapaaW2
import Derived.Test.YtfnjcjoomaeapaaW9
import Derived.Test.YtfnjcjoomaeapaaNext
import Derived.Deep.RegionHeld3
namespace Go.Proofs.Ytfnjcjoomaeapaa
open Go.RowKit

theorem GridAt.below {w w' : World} {lo B : Nat} {rb : Nat → Nat} {n k : Nat} {g : Nat → Nat → Bool} (h : GridAt w lo B rb n k g) (hb : Below w.heap.size w w') : GridAt w' lo B rb n k g := h.kept (grown_of_below hb) (fun q e => by cases e)

structure LstAt (w : World) (L n : Nat) (lst : Nat → Bool) : Prop where
  cell : ∀ v, v < n → w.cell? ⟨L, v, none⟩ = some (.bool (lst v))
  free : ∀ v, w.frozen? ⟨L, v, none⟩ = false
  lt : L < w.heap.size
theorem LstAt.kept {w w' : World} {L n : Nat} {lst : Nat → Bool} {row : Option Nat} (h : LstAt w L n lst) (hg : w.grownBy w' row) (hne : some L ≠ row) : LstAt w' L n lst :=
  ⟨fun v hv => hg.cell (h.cell v hv) hne, fun v => by rw [World.frozen?_of_block (w := w) (hg.block L h.lt hne)]; exact h.free v, Nat.lt_of_lt_of_le h.lt hg.size⟩
theorem LstAt.set {w : World} {L n : Nat} {lst : Nat → Bool} (h : LstAt w L n lst) (i : Nat) : LstAt (w.setCell ⟨L, i, none⟩ (.bool true)) L n (upd lst i) :=
  ⟨fun v hv => by
    rw [cell_setCell (h.cell v hv) rfl]
    unfold upd
    by_cases e : v = i
    · subst e; simp
    · rw [if_neg (fun x => e (congrArg Addr.off x)), if_neg e], fun v => (World.frozen?_setCell _ _ _ _).trans (h.free v), by simp [World.setCell]; exact h.lt⟩

def RMid (w wG : World) (us : List Int) (hs : List (List Int)) (L k : Nat) (out count : Value) (w2 : World) : Prop :=
  ∃ lst outs, cnt lst < k ∧ outs.length + k = 9 ∧ outs ++ partsS (rB us.length hs) us.length k lst = partsOf us hs ∧ LstAt w2 L us.length lst ∧ ClosedL (rB us.length hs) us.length lst ∧ RowsOwn w2 out outs (L + 1) ∧ wG.grownBy w2 none ∧ count = .int .i64 (lcount lst us.length)

set_option maxRecDepth 100000 in
set_option maxHeartbeats 4000000 in
theorem rParts_any (u h : Value) (us : List Int) (hs : List (List Int)) (w : World) (hu : IntsAt w u us) (hh : RowsAt w h hs) :
    Calls Try.prog 22 #[.agg #[u, h]] w (PartsRPost w us hs) := by
  have hb0 : Below w.heap.size w (w.alloc (.cells #[u, h] 25)) := (Below.refl _ _).alloc (Nat.le_refl _) _
  have Hb0 := Lib.hid hb0; clear hb0
  have Hu := Lib.hid hu; clear hu
  have Hh := Lib.hid hh; clear hh
  go_enter Try.func22, Try.ntmps22
  go_wp2_with fail
  refine (rcheck_any u h us hs _ (Hu.out.ext (ExtW.of_below Hb0.out)) (Hh.out.ext (ExtW.of_below Hb0.out))).mono ?_
  rintro e w1 ⟨rfl, hb1⟩
  have hc0 := below_cells hb1 w.heap.size 0 u (by rw [World.cell?_alloc_at _ _ _ _ rfl]; rfl)
  have hc1 := below_cells hb1 w.heap.size 1 h (by rw [World.cell?_alloc_at _ _ _ _ rfl]; rfl)
  have hz1 : w.heap.size < w1.heap.size := by have := hb1.size; simp at this; omega
  have hbel := Hb0.out.trans (hb1.mono (by simp))
  have Hbel := Lib.hid hbel; clear hbel hb1
  by_cases hz : checkS us hs = 0
  · have hS := (checkS_zero hz).1
    have Hz := Lib.hid hz
    rw [hz]
    clear hz
    have HS := Lib.hid hS; clear hS
    obtain ⟨a, ca, rfl, hl, hx⟩ := Hu.out
    have Hx := Lib.hid hx; clear hx
    have h8 : us.length ≤ 8 := HS.out.1
    have Hc0 := Lib.hid hc0
    have Hc1 := Lib.hid hc1
    go_wp2_with fail
    go_region_held3 (fun w' => w'.cell? ⟨w.heap.size, 0, none⟩ = some (.slice a us.length ca) ∧ w'.cell? ⟨w.heap.size, 1, none⟩ = some h) (first | exact ⟨Hc0.out, Hc1.out⟩ | (refine ⟨?_, ?_⟩ <;> assumption))
      (first | (go_at_call 29; refine (rreach_any _ h us hs _ HS.out (Hu.out.ext (ExtW.of_below (Hbel.out.drew))) (Hh.out.ext (ExtW.of_below (Hbel.out.drew)))).mono ?_; rintro e w2 ⟨B, rb, g, rfl, hgr, hgg, hb2⟩; have e0 := below_cells hb2 _ _ _ Hc0.out; have e1 := below_cells hb2 _ _ _ Hc1.out; have Hgr := Lib.hid hgr; have Hgg := Lib.hid hgg; have Hb2 := Lib.hid hb2; clear hgr hgg hb2))
    obtain ⟨i4, hi, hz, hsz, hby⟩ := info_parts Try.info4
    have Hi4 := Lib.hid hi; have Hz4 := Lib.hid hz; have Hsz4 := Lib.hid hsz; have Hby4 := Lib.hid hby
    clear hi hz hsz hby
    obtain ⟨i22, hi, hz, hsz, hby⟩ := info_parts Try.info22
    have Hi22 := Lib.hid hi; have Hz22 := Lib.hid hz; have Hsz22 := Lib.hid hsz; have Hby22 := Lib.hid hby
    clear hi hz hsz hby
    obtain ⟨i3, hi, hz, hsz, hby⟩ := info_parts Try.info3
    have Hi3 := Lib.hid hi; have Hz3 := Lib.hid hz; have Hsz3 := Lib.hid hsz; have Hby3 := Lib.hid hby
    clear hi hz hsz hby
    have Hm2 := Lib.hid (show us.length ≤ maxLen by unfold maxLen; omega)
    have Hm3 := Lib.hid (show i4.bytes * us.length ≤ 281474976710656 by have := Hby4.out; rw [this]; omega)
    have Hgr' := Lib.hid (Hgr.out.congr (g' := rB us.length hs) (fun i j hi hj => Hgg.out i j hi hj))
    have Hbel2 := Lib.hid (Hbel.out.drew.trans (Hb2.out.mono Hbel.out.size))
    clear Hgr Hgg Hb2 e0 e1 hc0 hc1 Hc0 Hc1
    obtain ⟨R, HR⟩ : ∃ R, Hid (R = rB us.length hs) := ⟨_, rfl⟩
    rw [← HR.out] at Hgr'
    go_wp2_with (at_make; refine wpList_make_full _ rfl _ _ 34 rfl 0 4 i4 (.bool false) 1 Try.underlying34 Hi4.out Hz4.out Hsz4.out .i64 .i64 us.length us.length us.length rfl rfl rfl rfl Hm3.out Hm2.out (Nat.zero_le _) ?_; intro w3 hown hg3; have Hown := Lib.hid hown; have Hg3 := Lib.hid hg3; clear hown hg3)
    have Hl0 := Lib.hid (show LstAt w3 w2.heap.size us.length (fun _ => false) from ⟨made_cell Hown.out, World.ownsRow.frozenAt Hown.out, (World.ownsRow.lt Hown.out _ rfl).2⟩)
    obtain ⟨L, HL⟩ : ∃ L, Hid (L = w2.heap.size) := ⟨_, rfl⟩
    rw [← HL.out] at Hl0 ⊢
    have Ho0 := Lib.hid (RowsOwn.nil w3 (L + 1))
    go_loopg [8, 9] 9 (fun k out count wr => RMid w w2 us hs L k out count wr)
    case atStart => exact ⟨fun _ => false, [], by decide, rfl, rfl, Hl0.out, .none, Ho0.out, Hg3.out, by rw [lcount_false]; rfl⟩
    case round =>
      clear Hl0 Ho0 Hg3 Hown
      obtain ⟨lst, outs, hcnt, hlen, heq, hl, hcl, hro, hgw, rfl⟩ := hrel
      obtain ⟨wo, rfl⟩ : ∃ wo : World, wo = wr := ⟨_, rfl⟩
      have hLs := hl.lt
      have Hl := Lib.hid hl; clear hl
      have Hcl := Lib.hid hcl; clear hcl
      have Hro := Lib.hid hro; clear hro
      have Hgw := Lib.hid hgw; clear hgw
      have Heq := Lib.hid heq; clear heq
      have Hcnt := Lib.hid hcnt; clear hcnt
      have Hlen := Lib.hid hlen; clear hlen
      rw [← HR.out] at Heq Hcl
      have hle := lcount_le lst us.length
      by_cases hfull : lcount lst us.length < us.length
      · obtain ⟨i0, hi0, hnx, hrd0, hno⟩ := progress (R := R) (n := us.length) (by rw [HR.out]; exact rB_refl) (by rw [HR.out]; exact rB_trans) (lcount_lt hfull)
        have Hnx := Lib.hid hnx; have Hrd0 := Lib.hid hrd0; have Hno := Lib.hid hno
        clear hnx hrd0 hno
        go_wp2_with fail
        go_loopw [8, 9, 10] (fun ot ct p wr => ∃ i : Nat, i ≤ i0 ∧ p = .int .i64 i ∧ u8 = ot ∧ ct = .int .i64 (lcount lst us.length) ∧ wo.grownBy wr none) (fun _ _ p _ => i0 - (intOf p).toNat)
        case atStart => exact ⟨0, by omega, rfl, rfl, rfl, World.grownBy.refl _ _⟩
        case round =>
          obtain ⟨i, hi, rfl, rfl, rfl, hgi⟩ := hrel
          obtain ⟨wi, rfl⟩ : ∃ wi : World, wi = wr := ⟨_, rfl⟩
          have hin : i < us.length := by omega
          have hcl := (Hl.out.kept hgi (by simp)).cell i hin
          have hwi := hgi.size
          have Hgi := Lib.hid hgi; clear hgi
          cases hli : lst i with
          | true =>
            have hii : i ≠ i0 := fun e => by subst e; have := readyTo_lst Hrd0.out; rw [this] at hli; cases hli
            rw [hli] at hcl
            clear hli
            go_wp2_with fail
            exact ⟨⟨i + 1, by omega, by go_num, rfl, rfl, Hgi.out⟩, by simp [intOf]; omega⟩
          | false =>
            have Hli := Lib.hid hli
            rw [hli] at hcl
            clear hli
            go_wp2_with fail
            go_loopw [11, 12, 13] (fun part rd p wr => ∃ j : Nat, j ≤ us.length ∧ p = .int .i64 j ∧ rd = .bool (readyTo R lst i j) ∧ Own wr 3 part ((partTo R i j).map (Value.int .i64)) ∧ (∀ k, part.ownBlock = some k → wi.heap.size ≤ k) ∧ wi.grownBy wr none) (fun _ _ p _ => us.length - (intOf p).toNat)
            case atStart => exact ⟨0, by omega, rfl, by simp [readyTo, Hli.out], Own.nil _ _, fun k hk => by simp [Value.ownBlock] at hk, World.grownBy.refl _ _⟩
            case round =>
              obtain ⟨j, hj, rfl, rfl, hown, hblk, hgj⟩ := hrel
              have hwj := hgj.size
              have hgall := grownBy_trans (grownBy_trans Hgw.out Hgi.out) hgj
              have hgrid := Hgr'.out.kept hgall (fun q e => by cases e)
              have hlr := (Hl.out.kept Hgi.out (by simp)).kept hgj (by simp)
              have Hown := Lib.hid hown; clear hown
              have Hblk := Lib.hid hblk; clear hblk
              have Hgj := Lib.hid hgj; clear hgj
              by_cases hjt : j < us.length
              · have r1 := hgrid.row i hin
                have r2 := hgrid.row j hjt
                have c1 := hgrid.cell i j hin hjt
                have c2 := hgrid.cell j i hjt hin
                have c3 := hlr.cell j hjt
                clear hgall hgrid hlr
                have hpl := partTo_len (R := R) i j
                have hmiss : (R i j && R j i) = false → partTo R i (j + 1) = partTo R i j := fun h => by simp only [partTo, h]; rfl
                have Hmiss := Lib.hid hmiss; clear hmiss
                have hstep : readyTo R lst i (j + 1) = (readyTo R lst i j && (!R i j || lst j || R j i)) := rfl
                have Hstep := Lib.hid hstep; clear hstep
                have Hc3 := Lib.hid (show ((partTo R i j).map (Value.int .i64)).length + 1 ≤ maxLen by rw [List.length_map]; unfold maxLen; omega)
                have Hc4 := Lib.hid (show (((partTo R i j).map (Value.int .i64)).length + 1) * 8 ≤ 140737488355328 by rw [List.length_map]; omega)
                cases h1 : R i j with
                | true =>
                  cases h2 : R j i with
                  | true =>
                    have hhit : (partTo R i (j + 1)).map (Value.int .i64) = (partTo R i j).map (Value.int .i64) ++ [.int .i64 j] := by simp [partTo, h1, h2]
                    have Hhit := Lib.hid hhit; clear hhit
                    cases hrd : readyTo R lst i j
                    all_goals
                      have Hs2 := Lib.hid (Hstep.out.trans (show _ = (_ : Bool) by rw [h1, h2, hrd]))
                      clear hrd
                      rw [h1] at c1
                      rw [h2] at c2
                      go_wp2_with (at_builtin; refine wpList_push _ rfl _ _ 22 rfl 3 i3 (.int .i64 0) 8 Try.underlying22 Hi3.out Hz3.out Hsz3.out Hby3.out rfl _ ((partTo R i j).map (Value.int .i64)) rfl (Hown.out.alloc _) ⟨wr.heap.size, 0, none⟩ 1 (.int .i64 j) rfl (cell_new1 _ _ _) rfl Hc3.out Hc4.out ?_; intro v' w4 ho4 hg4 hf4; have hs4 := hg4.size; have Ho4 := Lib.hid ho4; have Hg4 := Lib.hid hg4; have Hf4 := Lib.hid hf4; clear ho4 hg4 hf4)
                      refine ⟨⟨j + 1, by omega, by go_num, by rw [Hs2.out]; cases lst j <;> rfl, by rw [Hhit.out]; exact Ho4.out, Hf4.out.ge (lo := wi.heap.size) Hblk.out (by simp; omega), gb_new (gb_new Hgj.out (World.grownBy_alloc wr (.cells #[.int .i64 j] 3) none) (fun q e => by cases e)) Hg4.out (fun q e => Hblk.out q e)⟩, by simp [intOf]; omega⟩
                  | false =>
                    cases hrd : readyTo R lst i j <;> cases h3 : lst j
                    all_goals
                      have Hs2 := Lib.hid (Hstep.out.trans (show _ = (_ : Bool) by rw [h1, h2, h3, hrd]))
                      have Hm := Lib.hid (Hmiss.out (by simp [h2]))
                      rw [h3] at c3
                      rw [h1] at c1
                      rw [h2] at c2
                      clear hrd h1 h2 h3
                      go_wp2_with fail
                      refine ⟨⟨j + 1, by omega, by go_num, by rw [Hs2.out]; rfl, by rw [Hm.out]; exact Hown.out, Hblk.out, Hgj.out⟩, by simp [intOf]; omega⟩
                | false =>
                  cases hrd : readyTo R lst i j
                  all_goals
                    have Hs2 := Lib.hid (Hstep.out.trans (show _ = (_ : Bool) by rw [h1, hrd]))
                    have Hm := Lib.hid (Hmiss.out (by simp [h1]))
                    rw [h1] at c1
                    clear hrd h1
                    go_wp2_with fail
                    refine ⟨⟨j + 1, by omega, by go_num, by rw [Hs2.out]; rfl, by rw [Hm.out]; exact Hown.out, Hblk.out, Hgj.out⟩, by simp [intOf]; omega⟩
              · have hjn : j = us.length := by omega
                subst hjn
                clear hgall hgrid
                have Hlr := Lib.hid hlr; clear hlr
                cases hrd : readyTo R lst i us.length with
                | false =>
                  have hii : i ≠ i0 := fun e => by subst e; have := Hrd0.out; unfold ready at this; rw [this] at hrd; cases hrd
                  clear hrd
                  go_wp2_with fail
                  exact ⟨⟨i + 1, by omega, by go_num, rfl, rfl, grownBy_trans Hgi.out Hgj.out⟩, by simp [intOf]; omega⟩
                | true =>
                  have hii : i = i0 := by
                    by_cases e : i < i0
                    · have := Hno.out i e; unfold ready at this; rw [this] at hrd; cases hrd
                    · omega
                  clear hrd
                  subst hii
                  obtain ⟨wj, rfl⟩ : ∃ wj : World, wj = wr := ⟨_, rfl⟩
                  have hpl := partTo_len (R := R) i us.length
                  have Hpb := Lib.hid (fun x h => partTo_bd (R := R) i us.length x h)
                  have hpi := Hown.out.ints (by omega)
                  obtain ⟨pa, pc, rfl, _, hpx⟩ := hpi
                  have Hpx := Lib.hid hpx; clear hpx
                  obtain ⟨pt, HPT⟩ : ∃ pt, Hid (pt = partTo R i us.length) := ⟨_, rfl⟩
                  rw [← HPT.out] at Hpx Hpb hpl Hown Hblk ⊢
                  go_wp2_with fail
                  go_loopw [15] (fun p wr => ∃ x : Nat, x ≤ pt.length ∧ p = .int .i64 x ∧ LstAt wr L us.length (lstPart lst pt x) ∧ wj.grownBy wr (some L)) (fun p _ => pt.length - (intOf p).toNat)
                  case atStart => exact ⟨0, by omega, rfl, by rw [lstPart_zero]; exact Hlr.out, World.grownBy.refl _ _⟩
                  case round =>
                    obtain ⟨x, hx, rfl, hlx, hgx⟩ := hrel
                    by_cases hxt : x < pt.length
                    · obtain ⟨b, o, rfl, hb, hc⟩ := Hpx.out x hxt
                      have hbL : b ≠ L := by have := Hblk.out b rfl; omega
                      have hcx := hgx.cell hc (by simpa using hbL)
                      obtain ⟨v, hv⟩ := Int.eq_ofNat_of_zero_le (Hpb.out x hxt).1
                      have hvn : v < us.length := by have := (Hpb.out x hxt).2; omega
                      rw [hv] at hcx
                      have Hv := Lib.hid hv; clear hv hc
                      have d1 := hlx.cell v hvn
                      have d2 := hlx.free v
                      have Hlx := Lib.hid hlx; clear hlx
                      have Hgx := Lib.hid hgx; clear hgx
                      go_wp2_with fail
                      refine ⟨⟨x + 1, by omega, by go_num, ?_, grownBy_trans Hgx.out (grownBy_setCell _ ⟨L, v, none⟩ _)⟩, by simp [intOf]; omega⟩
                      rw [← lstPart_succ hxt Hv.out]
                      exact Hlx.out.set v
                    · have hxn : x = pt.length := by omega
                      subst hxn
                      have hgo := grownBy_trans Hgi.out Hgj.out
                      have hro1 := ((Hro.out.kept hgo (fun q e => by cases e)).kept hgx (fun k e => by cases e; exact .inl (by omega))).kept (World.grownBy_alloc wr (.cells #[.slice pa pt.length pc] 22) none) (fun q e => by cases e)
                      obtain ⟨rs, ho, hrl, hlo, hr⟩ := hro1
                      have hol : ∀ k, u8.ownBlock = some k → k < wo.heap.size := fun k e => by obtain ⟨rs', ho', _⟩ := Hro.out; exact ho'.lt e
                      have hown2 := Hown.out.kept hgx (by
                        cases hv : (Value.slice pa pt.length pc).ownBlock with
                        | none => exact .inl rfl
                        | some q => exact .inr (fun e => by injection e with e; have h9 := Hblk.out q hv; omega))
                      have hx1 := (hown2.alloc (.cells #[.slice pa pt.length pc] 22)).ints (by omega)
                      have hx2 : ∀ k, (Value.slice pa pt.length pc).ownBlock = some k → L + 1 ≤ k ∧ k < (wr.alloc (.cells #[.slice pa pt.length pc] 22)).heap.size ∧ some k ≠ u8.ownBlock := fun k e => ⟨by have := Hblk.out k e; omega, by have := hown2.lt e; simp; omega, fun e' => by have := Hblk.out k e; have := hol k e'.symm; omega⟩
                      have hwx := hgx.size
                      have hrs9 : rs.length ≤ 9 := by have := Hlen.out; omega
                      have hpn : pt.length ≤ us.length := hpl
                      have hcadd := lcount_add Hcl.out hi0 (readyTo_lst Hrd0.out) us.length (Nat.le_refl _)
                      rw [← HPT.out] at hcadd
                      have hlen8 := lcount_le (lstTo R lst i us.length) us.length
                      have Hcadd := Lib.hid hcadd; clear hcadd
                      have Ho := Lib.hid ho; have Hrl := Lib.hid hrl; have Hlo := Lib.hid hlo; have Hr := Lib.hid hr; have Hol := Lib.hid hol; have Hx1 := Lib.hid hx1; have Hx2 := Lib.hid hx2; have Hgx := Lib.hid hgx; have Hlx := Lib.hid hlx; have Hgo := Lib.hid hgo
                      clear ho hrl hlo hr hol hx1 hx2 hgx hlx hgo hown2
                      have Hc3 := Lib.hid (show rs.length + 1 ≤ maxLen by unfold maxLen; omega)
                      have Hc4 := Lib.hid (show (rs.length + 1) * 24 ≤ 140737488355328 by omega)
                      go_wp2_with (at_builtin; refine wpList_push _ rfl _ _ 23 rfl 22 i22 (.slice none 0 0) 24 Try.underlying23 Hi22.out Hz22.out Hsz22.out Hby22.out rfl _ rs rfl Ho.out ⟨wr.heap.size, 0, none⟩ 1 (.slice pa pt.length pc) rfl (cell_new1 _ _ _) rfl Hc3.out Hc4.out ?_; intro v' w4 ho4 hg4 hf4; have Ho4 := Lib.hid ho4; have Hg4 := Lib.hid hg4; have Hf4 := Lib.hid hf4; clear ho4 hg4 hf4)
                      go_roundg (gk - 1)
                      case measure => have := Hcnt.out; omega
                      case rel =>
                        have hpush := RowsOwn.push Ho.out Hrl.out Hlo.out Hr.out Hx1.out Hx2.out (by simp; omega) Ho4.out Hg4.out Hf4.out
                        have hcn := lstTo_cnt (R := R) (lst := lst) hi0 h8 (readyTo_lst Hrd0.out) (by rw [HR.out]; exact rB_refl _)
                        refine ⟨lstTo R lst i us.length, outs ++ [pt], by have := Hcnt.out; omega, by have := Hlen.out; have := Hcnt.out; simp; omega, ?_, ?_, ?_, hpush, ?_, ?_⟩
                        · have e := Heq.out
                          have hk1 : gk = (gk - 1) + 1 := by have := Hcnt.out; omega
                          rw [hk1] at e
                          simp only [partsS, Hnx.out] at e
                          rw [List.append_assoc, ← HR.out, HPT.out]
                          exact e
                        · have hl2 := (Hlx.out.kept (World.grownBy_alloc wr (.cells #[.slice pa pt.length pc] 22) none) (by simp)).kept Hg4.out (fun e => by have := Hlo.out L e.symm; omega)
                          rw [HPT.out, lstPart_all] at hl2
                          exact hl2
                        · rw [← HR.out]; exact Hcl.out.add (by rw [HR.out]; exact rB_trans) i
                        · exact gb_new (gb_new (gb_new (grownBy_trans Hgw.out Hgo.out) Hgx.out (fun q e => by cases e; have := HL.out; omega)) (World.grownBy_alloc wr (.cells #[.slice pa pt.length pc] 22) none) (fun q e => by cases e)) Hg4.out (fun q e => by have := Hlo.out q e; have := HL.out; omega)
                        · rw [Hcadd.out]; go_num
      · have hfl : lcount lst us.length = us.length := by omega
        have hfin : partsS R us.length gk lst = [] := by
          cases gk with
          | zero => rfl
          | succ k => simp only [partsS, all_listed (R := R) (lcount_full hfl)]
        have Hfin := Lib.hid hfin; clear hfin
        have Hfl := Lib.hid hfl; clear hfl
        go_wp2_with fail
        go_ret2
        refine ⟨_, by rw [Hz.out]; rfl, ?_, Hbel2.out.grown Hgw.out Hbel2.out.size (fun k e => by cases e)⟩
        have e := Heq.out
        rw [Hfin.out, List.append_nil] at e
        unfold partsR
        rw [if_pos Hz.out, ← e]
        exact Hro.out.rows (by have := Hlen.out; omega)
  · have hne : (checkS us hs != 0) = true := by simpa using hz
    have Hz := Lib.hid hz; clear hz
    go_wp2_with fail
    go_ret2
    exact ⟨_, rfl, by unfold partsR; rw [if_neg Hz.out]; exact RowsAt.nil _, Hbel.out⟩
end Go.Proofs.Ytfnjcjoomaeapaa
