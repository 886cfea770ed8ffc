/- walks: the reference's reach -/
import Derived.Test.YtfnjcjoomaeapaaFw
import Derived.Test.YtfnjcjoomaeapaaW4
import Derived.BigRegion
import Derived.StillTailTactics
namespace Go.Proofs.Ytfnjcjoomaeapaa
open Go.RowKit

def RGridPost (w : World) (us : List Int) (hs : List (List Int)) (e : Ending) (w' : World) : Prop :=
  ∃ B rb g, e = .returned (.slice (some ⟨B, 0, none⟩) us.length us.length) ∧ GridAt w' w.heap.size B rb us.length us.length g ∧ (∀ a b, a < us.length → b < us.length → g a b = rB us.length hs a b) ∧ Below w.heap.size w w'

theorem made_cell {w : World} {e : TypeId} {z : Value} {q n : Nat} (h : w.ownsRow 0 e 1 (.slice (some ⟨q, 0, none⟩) n n) n (madeCells #[z] (n * 1)).toList) : ∀ j, j < n → w.cell? ⟨q, j, none⟩ = some z := by
  intro j hj
  rw [World.ownsRow.cellAt h j (by omega), toList_madeCells_one]
  simp [hj]

theorem still_of_quiet {P : Program} {o : Oper} {a : Act} {W : World} {K : Act → Prop} (h : o.quiet P a (fun w' => w' = W) K) : o.still P a W K := by
  obtain ⟨v, h1, h2⟩ := h
  have h3 := h1 W rfl
  unfold Oper.quietAt at h3
  unfold Oper.still
  generalize (execOp a.eval o).run P W = r at *
  cases r with
  | ok n w' =>
    cases n <;> simp only [Oper.quietUpon] at h3 <;> simp only [Oper.stillUpon]
    case value u => obtain ⟨rfl, rfl⟩ := h3; exact ⟨rfl, h2⟩
    case skip => obtain ⟨rfl, rfl⟩ := h3; exact ⟨rfl, h2⟩
    case enter f args => obtain ⟨rfl, hc⟩ := h3; exact ⟨rfl, v, hc, h2⟩
  | halt x w' => simp only [Oper.quietUpon] at h3
theorem wpStill_of_quiet {P : Program} {ops : Array Oper} {W : World} {L : Act → Prop} : ∀ (l : List Oper) (a : Act), wpQuiet P ops (fun w' => w' = W) L l a → wpStill P ops W L l a
  | [], _, h => h
  | o :: rest, a, h => by
    unfold wpQuiet at h
    unfold wpStill
    split
    · rename_i hw; rw [if_pos hw] at h
      exact still_of_quiet (Oper.quiet_mono (fun a => wpStill_of_quiet rest a) h)
    · rename_i hw; rw [if_neg hw] at h
      exact wpStill_of_quiet rest _ h
theorem region_tail {P : Program} {id : Nat} {Q : Exit → Act → World → Prop} {a : Act} {w : World} {l : List Oper} (n : Nat) (hm : P.follows .mixedOrders = true) (hB : Region.lexTailB .any l.toArray n = true)
    (h : ∀ L : Act → Prop, (∀ a', wpList P l.toArray Q (l.drop n) a' w.drew → L a') → wpQuiet P l.toArray (fun w' => w' = w.drew) L (l.take n) a) : (Code.region id l.toArray true).wp P Q a w :=
  wp_region_still_tail n hm hB (wpStill_of_quiet _ _ (h _ fun _ h => h))

structure REnv (w wr : World) (v0 v1 : Value) : Prop where
  below : Below w.heap.size w wr
  c0 : wr.cell? ⟨w.heap.size, 0, none⟩ = some v0
  c1 : wr.cell? ⟨w.heap.size, 1, none⟩ = some v1
theorem REnv.grown {w wr w' : World} {v0 v1 : Value} {row : Option Nat} (h : REnv w wr v0 v1) (hg : wr.grownBy w' row) (hr : ∀ q, row = some q → w.heap.size + 1 ≤ q) : REnv w w' v0 v1 :=
  ⟨h.below.grown hg h.below.size (fun k hk => by have := hr k hk; omega), hg.cell h.c0 (fun e => by have := hr _ e.symm; simp at this; omega), hg.cell h.c1 (fun e => by have := hr _ e.symm; simp at this; omega)⟩

theorem GridAt.drew {w : World} {lo B : Nat} {rb : Nat → Nat} {n k : Nat} {g : Nat → Nat → Bool} (h : GridAt w lo B rb n k g) : GridAt w.drew lo B rb n k g := ⟨h.top, h.topf, h.row, h.cell, h.free, h.blo, h.rlo, h.inj⟩
theorem REnv.drew {w wr : World} {v0 v1 : Value} (h : REnv w wr v0 v1) : REnv w wr.drew v0 v1 := ⟨h.below.drew, h.c0, h.c1⟩

def g0 (hs : List (List Int)) (i j : Nat) : Bool := decide (i = j) || decide (0 < Hd hs i j)

set_option maxRecDepth 100000 in
set_option maxHeartbeats 4000000 in
theorem rreach_any (u h : Value) (us : List Int) (hs : List (List Int)) (w : World) (hS : Shape us hs) (hu : IntsAt w u us) (hh : RowsAt w h hs) :
    Calls Try.prog 29 #[.agg #[u, h]] w (RGridPost w us hs) := by
  obtain ⟨a, ca, rfl, hl, hx⟩ := hu
  obtain ⟨ha, hca, rfl, hhl, hhx⟩ := hh
  have Hx := Lib.hid hx; clear hx
  have Hhx := Lib.hid hhx; clear hhx
  have HS := Lib.hid hS; clear hS
  have h8 : us.length ≤ 8 := HS.out.1
  have hb0 : Below w.heap.size w (w.alloc (.cells #[.slice a us.length ca, .slice ha hs.length hca] 25)) := (Below.refl _ _).alloc (Nat.le_refl _) _
  have Hb0 := Lib.hid hb0; clear hb0
  obtain ⟨i34, hi, hz, hsz, hby⟩ := info_parts Try.info34
  have Hi := Lib.hid hi; have Hz := Lib.hid hz; have Hsz := Lib.hid hsz; have Hby := Lib.hid hby
  clear hi hz hsz hby
  obtain ⟨i4, hi, hz, hsz, hby⟩ := info_parts Try.info4
  have Hi4 := Lib.hid hi; have Hz4 := Lib.hid hz; have Hsz4 := Lib.hid hsz; have Hby4 := Lib.hid hby
  clear hi hz hsz hby
  have hc0w : (w.alloc (.cells #[.slice a us.length ca, .slice ha hs.length hca] 25)).cell? ⟨w.heap.size, 0, none⟩ = some (.slice a us.length ca) := by rw [World.cell?_alloc_at _ _ _ _ rfl]; rfl
  have hc1w : (w.alloc (.cells #[.slice a us.length ca, .slice ha hs.length hca] 25)).cell? ⟨w.heap.size, 1, none⟩ = some (.slice ha hs.length hca) := by rw [World.cell?_alloc_at _ _ _ _ rfl]; rfl
  have Hc0w := Lib.hid hc0w; have Hc1w := Lib.hid hc1w; clear hc0w hc1w
  have Hm1 := Lib.hid (show i34.bytes * us.length ≤ 281474976710656 by have := Hby.out; rw [this]; omega)
  have Hm2 := Lib.hid (show us.length ≤ maxLen by unfold maxLen; omega)
  have Hm3 := Lib.hid (show i4.bytes * us.length ≤ 281474976710656 by have := Hby4.out; rw [this]; omega)
  go_enter Try.func29, Try.ntmps29
  go_wp2_with (at_make; refine wpList_make_full _ rfl _ _ 58 rfl 0 34 i34 (.slice none 0 0) 1 Try.underlying58 Hi.out Hz.out Hsz.out .i64 .i64 us.length us.length us.length rfl rfl rfl rfl Hm1.out Hm2.out (Nat.zero_le _) ?_; intro w2 hown hg2; have Hown := Lib.hid hown; have Hg2 := Lib.hid hg2; clear hown hg2)
  have hs2 : w.heap.size + 1 ≤ w2.heap.size := by have := Hg2.out.size; simp at this; omega
  have Hgrid := Lib.hid (show GridAt w2 (w.heap.size + 1) (w.heap.size + 1) (fun _ => 0) us.length 0 (fun _ _ => false) from by
    have ho := Hown.out
    simp only [World.size_alloc] at ho
    refine ⟨fun i hi => ⟨_, made_cell ho i hi⟩, fun i => World.ownsRow.frozenAt ho i, fun i hi => by omega, fun i j hi => by omega, fun i j hi => by omega, ⟨Nat.le_refl _, (World.ownsRow.lt ho _ rfl).2⟩, fun i hi => by omega, fun i j hi => by omega⟩)
  have Henv := Lib.hid (show REnv w w2 (.slice a us.length ca) (.slice ha hs.length hca) from
    ⟨Hb0.out.grown Hg2.out Hb0.out.size (fun k e => by cases e), Hg2.out.cell Hc0w.out (by simp), Hg2.out.cell Hc1w.out (by simp)⟩)
  clear Hown Hg2 Hb0 Hc0w Hc1w
  go_loopw [5] (fun p wr => ∃ (k : Nat) (rb : Nat → Nat) (g : Nat → Nat → Bool), k ≤ us.length ∧ p = .int .i64 k ∧ GridAt wr (w.heap.size + 1) (w.heap.size + 1) rb us.length k g ∧ (∀ a b, a < k → b < us.length → g a b = g0 hs a b) ∧ REnv w wr (.slice a us.length ca) (.slice ha hs.length hca)) (fun p _ => us.length - (intOf p).toNat)
  case atStart => exact ⟨0, _, _, by omega, rfl, Hgrid.out, fun a b h => by omega, Henv.out⟩
  case round =>
    obtain ⟨k, rb, g, hk, rfl, hgr, hgg, henv⟩ := hrel
    have hc0 := henv.c0
    have hc1 := henv.c1
    have Hgr := Lib.hid hgr; clear hgr
    have Hgg := Lib.hid hgg; clear hgg
    have Henvr := Lib.hid henv; clear henv
    clear Hgrid Henv
    by_cases hkt : k < us.length
    · go_wp2_with (at_make; refine wpList_make_full _ rfl _ _ 34 rfl 0 4 i4 (.bool false) 1 Try.underlying34 Hi4.out Hz4.out Hsz4.out .i64 .i64 us.length us.length us.length rfl rfl rfl rfl Hm3.out Hm2.out (Nat.zero_le _) ?_; intro w3 hown hg3; have ht := (Hgr.out.kept hg3 (fun q e => by cases e)).top k hkt; have hf := (Hgr.out.kept hg3 (fun q e => by cases e)).topf k; obtain ⟨xt, ht⟩ := ht; have Hown := Lib.hid hown; have Hg3 := Lib.hid hg3; clear hown hg3)
      have Hadd := Lib.hid (Hgr.out.add hkt Hg3.out (Nat.le_refl _) (World.ownsRow.lt Hown.out _ rfl).2 (made_cell Hown.out) (World.ownsRow.frozenAt Hown.out))
      have Henv3 := Lib.hid ((Henvr.out.grown Hg3.out (fun q e => by cases e)).grown (grownBy_setCell w3 ⟨w.heap.size + 1, k, none⟩ (.slice (some ⟨wr.heap.size, 0, none⟩) us.length us.length)) (fun q e => by cases e; exact Nat.le_refl _))
      obtain ⟨W4, HW4⟩ : ∃ W, Hid (W = w3.setCell ⟨w.heap.size + 1, k, none⟩ (.slice (some ⟨wr.heap.size, 0, none⟩) us.length us.length)) := ⟨_, rfl⟩
      obtain ⟨rb4, HRB⟩ : ∃ rb', Hid (rb' = fun i => if i = k then wr.heap.size else rb i) := ⟨_, rfl⟩
      obtain ⟨g4, HG4⟩ : ∃ g', Hid (g' = fun i j => if i = k then false else g i j) := ⟨_, rfl⟩
      rw [← HW4.out] at Hadd Henv3 ⊢
      rw [← HRB.out, ← HG4.out] at Hadd
      have Hgg4 := Lib.hid (show ∀ a b, a < k → b < us.length → g4 a b = g0 hs a b from fun a b h1 h2 => by rw [HG4.out]; simp only []; rw [if_neg (by omega)]; exact Hgg.out a b h1 h2)
      clear HW4 HG4 HRB Hown Hg3 ht hf Hgr Hgg Henvr hc0 hc1
      go_loopw [6] (fun p wr => ∃ (j : Nat) (g : Nat → Nat → Bool), j ≤ us.length ∧ p = .int .i64 j ∧ GridAt wr (w.heap.size + 1) (w.heap.size + 1) rb4 us.length (k + 1) g ∧ (∀ a b, a < k → b < us.length → g a b = g0 hs a b) ∧ (∀ b, b < j → g k b = g0 hs k b) ∧ REnv w wr (.slice a us.length ca) (.slice ha hs.length hca)) (fun p _ => us.length - (intOf p).toNat)
      case atStart => exact ⟨0, _, by omega, rfl, Hadd.out, Hgg4.out, fun b h => by omega, Henv3.out⟩
      case round =>
        obtain ⟨j, g, hj, rfl, hgr, hgg, hgk, henv⟩ := hrel
        have hc0 := henv.c0
        have hc1 := henv.c1
        have hrow := hgr.row k (by omega)
        have hbk := hgr.rlo k (by omega)
        have hfree := hgr.free k j (by omega)
        have Hgr := Lib.hid hgr; clear hgr
        have Hgg := Lib.hid hgg; clear hgg
        have Hgk := Lib.hid hgk; clear hgk
        have Henvr := Lib.hid henv; clear henv
        clear Hadd Hgg4 Henv3
        by_cases hjt : j < us.length
        · have hcell := Hgr.out.cell k j (by omega) hjt
          obtain ⟨b1, o1, r, rfl, hb1, hcr, hr⟩ := Hhx.out k (by have := HS.out.2.1; omega)
          obtain ⟨ra, rc, rfl, hrl, hrx⟩ := hr
          have hlr := (HS.out.2.2 k hkt).1
          obtain ⟨b2, o2, rfl, hb2, hcr2⟩ := hrx j (by omega)
          have hjr : j < (gR hs k).length := by omega
          have hkh : k < hs.length := by have := HS.out.2.1; omega
          have hd1 : wr.cell? ⟨b1, o1 + k, none⟩ = some (.slice (some ⟨b2, o2, none⟩) (gR hs k).length rc) := by rw [Henvr.out.below.cell hb1]; exact hcr
          have hd2 : wr.cell? ⟨b2, o2 + j, none⟩ = some (.int .i64 (gI (gR hs k) j)) := by rw [Henvr.out.below.cell hb2]; exact hcr2
          clear hrx hcr hcr2 hlr
          have hstepEnv : ∀ b : Bool, REnv w (wr.setCell ⟨rb4 k, j, none⟩ (.bool b)).drew (.slice a us.length ca) (.slice (some ⟨b1, o1, none⟩) hs.length hca) := fun b => (Henvr.out.grown (grownBy_setCell wr ⟨rb4 k, j, none⟩ (.bool b)) (fun q e => by cases e; exact hbk.1)).drew
          have HstepEnv := Lib.hid hstepEnv; clear hstepEnv
          have hgs : ∀ b : Bool, b = g0 hs k j → (∀ a c, a < k → c < us.length → upd2 g k j b a c = g0 hs a c) ∧ (∀ c, c < j + 1 → upd2 g k j b k c = g0 hs k c) := fun b hb => by
            refine ⟨fun a c h1 h2 => ?_, fun c h1 => ?_⟩
            · unfold upd2; rw [if_neg (by omega)]; exact Hgg.out a c h1 h2
            · unfold upd2
              by_cases e : c = j
              · subst e; simp [hb]
              · rw [if_neg (by omega)]; exact Hgk.out c (by omega)
          have Hgs := Lib.hid hgs; clear hgs
          have hfin : ∀ b : Bool, b = g0 hs k j → (∃ j_1 g, j_1 ≤ us.length ∧ Value.int IntKind.i64 ((j : Int) + 1) = Value.int IntKind.i64 (j_1 : Nat) ∧ GridAt (wr.setCell ⟨rb4 k, j, none⟩ (.bool b)).drew (w.heap.size + 1) (w.heap.size + 1) rb4 us.length (k + 1) g ∧ (∀ (a b : Nat), a < k → b < us.length → g a b = g0 hs a b) ∧ (∀ (b : Nat), b < j_1 → g k b = g0 hs k b) ∧ REnv w (wr.setCell ⟨rb4 k, j, none⟩ (.bool b)).drew (.slice a us.length ca) (.slice (some ⟨b1, o1, none⟩) hs.length hca)) :=
            fun b hb => ⟨j + 1, upd2 g k j b, by omega, by go_num, (Hgr.out.set (by omega) b).drew, (Hgs.out b hb).1, (Hgs.out b hb).2, HstepEnv.out b⟩
          have Hfin := Lib.hid hfin; clear hfin
          by_cases hkj : k = j
          · have hkj' : ((k : Int) == (j : Int)) = true := by simp [hkj]
            have Hkj := Lib.hid hkj; clear hkj
            go_wp2_with fail
            refine region_tail 20 (by kernel_rfl) (by kernel_rfl) (fun L hL => ?_)
            simp only [List.take_succ_cons, List.take_zero, List.drop_succ_cons, List.drop_zero] at hL ⊢
            repeat (go_big_quiet_step (fail))
            refine wpQuiet_nil (hL _ ?_)
            clear hL L
            go_wp2_with fail
            exact ⟨Hfin.out true (by unfold g0; simp [Hkj.out]), by simp [intOf]; omega⟩
          · have hkj' : ((k : Int) == (j : Int)) = false := by simp; omega
            have Hkj := Lib.hid hkj; clear hkj
            by_cases hpos : 0 < gI (gR hs k) j
            all_goals
              go_wp2_with fail
              refine region_tail 20 (by kernel_rfl) (by kernel_rfl) (fun L hL => ?_)
              simp only [List.take_succ_cons, List.take_zero, List.drop_succ_cons, List.drop_zero] at hL ⊢
              repeat (go_big_quiet_step (fail))
              refine wpQuiet_nil (hL _ ?_)
              clear hL L
              go_wp2_with fail
              exact ⟨Hfin.out _ (by unfold g0 Hd; simp [Hkj.out, hpos]), by simp [intOf]; omega⟩
        · have hjn : j = us.length := by omega
          subst hjn
          go_wp2_with fail
          refine ⟨⟨k + 1, rb4, g, by omega, by go_num, Hgr.out, fun x y h1 h2 => ?_, Henvr.out⟩, by simp [intOf]; omega⟩
          by_cases e : x = k
          · subst e; exact Hgk.out y h2
          · exact Hgg.out x y (by omega) h2
    · have hkn : k = us.length := by omega
      subst hkn
      have Hfw := Lib.hid (show FwMid (Edge us.length hs) us.length 0 0 0 g from .start fun x y hx hy => by
        rw [Hgg.out x y hx hy]; unfold g0 Edge; simp [hx, hy])
      clear Hgg hc0 hc1
      go_wp2_with fail
      go_loopw [7] (fun p wr => ∃ (k : Nat) (g : Nat → Nat → Bool), k ≤ us.length ∧ p = .int .i64 k ∧ GridAt wr (w.heap.size + 1) (w.heap.size + 1) rb us.length us.length g ∧ FwMid (Edge us.length hs) us.length k 0 0 g ∧ Below w.heap.size w wr) (fun p _ => us.length - (intOf p).toNat)
      case atStart => exact ⟨0, g, by omega, rfl, Hgr.out, Hfw.out, Henvr.out.below⟩
      case round =>
        clear Hgr Hfw Henvr
        obtain ⟨k, g, hk, rfl, hgr, hfw, hbel⟩ := hrel
        have Hgr := Lib.hid hgr; clear hgr
        have Hfw := Lib.hid hfw; clear hfw
        have Hbel := Lib.hid hbel; clear hbel
        by_cases hkt : k < us.length
        · go_wp2_with fail
          go_loopw [8] (fun p wr => ∃ (i : Nat) (g : Nat → Nat → Bool), i ≤ us.length ∧ p = .int .i64 i ∧ GridAt wr (w.heap.size + 1) (w.heap.size + 1) rb us.length us.length g ∧ FwMid (Edge us.length hs) us.length k i 0 g ∧ Below w.heap.size w wr) (fun p _ => us.length - (intOf p).toNat)
          case atStart => exact ⟨0, g, by omega, rfl, Hgr.out, Hfw.out, Hbel.out⟩
          case round =>
            clear Hgr Hfw Hbel
            obtain ⟨i, g, hi, rfl, hgr, hfw, hbel⟩ := hrel
            have Hgr := Lib.hid hgr; clear hgr
            have Hfw := Lib.hid hfw; clear hfw
            have Hbel := Lib.hid hbel; clear hbel
            by_cases hit : i < us.length
            · go_wp2_with fail
              go_loopw [9] (fun p wr => ∃ (j : Nat) (g : Nat → Nat → Bool), j ≤ us.length ∧ p = .int .i64 j ∧ GridAt wr (w.heap.size + 1) (w.heap.size + 1) rb us.length us.length g ∧ FwMid (Edge us.length hs) us.length k i j g ∧ Below w.heap.size w wr) (fun p _ => us.length - (intOf p).toNat)
              case atStart => exact ⟨0, g, by omega, rfl, Hgr.out, Hfw.out, Hbel.out⟩
              case round =>
                clear Hgr Hfw Hbel
                obtain ⟨j, g, hj, rfl, hgr, hfw, hbel⟩ := hrel
                by_cases hjt : j < us.length
                · have hri := hgr.row i hit
                  have hrk := hgr.row k hkt
                  have hij := hgr.cell i j hit hjt
                  have hik := hgr.cell i k hit hkt
                  have hkj := hgr.cell k j hkt hjt
                  have hbk := hgr.rlo i hit
                  have hfree := hgr.free i j hit
                  have hfin : ∀ b : Bool, b = (g i j || (g i k && g k j)) → (∃ (j_1 : Nat) (g : Nat → Nat → Bool), j_1 ≤ us.length ∧ Value.int IntKind.i64 ((j : Int) + 1) = Value.int IntKind.i64 (j_1 : Nat) ∧ GridAt (wr.setCell ⟨rb i, j, none⟩ (.bool b)).drew (w.heap.size + 1) (w.heap.size + 1) rb us.length us.length g ∧ FwMid (Edge us.length hs) us.length k i j_1 g ∧ Below w.heap.size w (wr.setCell ⟨rb i, j, none⟩ (.bool b)).drew) :=
                    fun b hb => ⟨j + 1, upd2 g i j b, by omega, by go_num, (hgr.set hit b).drew, by rw [hb]; exact hfw.step hkt hit hjt, (hbel.setCell (by show w.heap.size ≤ rb i; omega) _).drew⟩
                  have Hfin := Lib.hid hfin; clear hfin hgr hfw hbel
                  cases h1 : g i j <;> cases h2 : g i k <;> cases h3 : g k j
                  all_goals
                    have Hb := Lib.hid (show _ = (g i j || (g i k && g k j)) by rw [h1, h2, h3])
                    rw [h1] at hij
                    rw [h2] at hik
                    rw [h3] at hkj
                    clear h1 h2 h3
                    go_wp2_with fail
                    refine region_tail 31 (by kernel_rfl) (by kernel_rfl) (fun L hL => ?_)
                    simp only [List.take_succ_cons, List.take_zero, List.drop_succ_cons, List.drop_zero] at hL ⊢
                    repeat (go_big_quiet_step (fail))
                    refine wpQuiet_nil (hL _ ?_)
                    clear hL L
                    go_wp2_with fail
                    exact ⟨Hfin.out _ (by rw [← Hb.out]; rfl), by simp [intOf]; omega⟩
                · have hjn : j = us.length := by omega
                  subst hjn
                  have Hgr := Lib.hid hgr; clear hgr
                  have Hfw := Lib.hid hfw; clear hfw
                  have Hbel := Lib.hid hbel; clear hbel
                  go_wp2_with fail
                  exact ⟨⟨i + 1, g, by omega, by go_num, Hgr.out, Hfw.out.row, Hbel.out⟩, by simp [intOf]; omega⟩
            · have hin : i = us.length := by omega
              subst hin
              go_wp2_with fail
              exact ⟨⟨k + 1, g, by omega, by go_num, Hgr.out, Hfw.out.phase, Hbel.out⟩, by simp [intOf]; omega⟩
        · have hkn : k = us.length := by omega
          subst hkn
          go_wp2_with fail
          go_ret
          refine ⟨w.heap.size + 1, rb, g, rfl, ?_, fun x y hx hy => ?_, Hbel.out⟩
          · have hg := Hgr.out
            exact ⟨hg.top, hg.topf, hg.row, hg.cell, hg.free, ⟨by omega, hg.blo.2⟩, fun i hi => ⟨by have := (hg.rlo i hi).1; omega, (hg.rlo i hi).2⟩, hg.inj⟩
          · rw [Bool.eq_iff_iff, Hfw.out.done (fun a b h => ⟨h.1, h.2.1⟩) hx hy, rB_iff]
end Go.Proofs.Ytfnjcjoomaeapaa
