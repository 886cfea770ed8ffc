/- walks: Parts, Reach -/
import Derived.Test.YtfnjcjoomaeapaaW7
import Derived.Test.YtfnjcjoomaeapaaW1
namespace Go.Proofs.Ytfnjcjoomaeapaa
open Go.RowKit

noncomputable def partsR (us : List Int) (hs : List (List Int)) : List (List Int) := if checkS us hs = 0 then partsOf us hs else []
def PartsRPost (w : World) (us : List Int) (hs : List (List Int)) (e : Ending) (w' : World) : Prop :=
  ∃ v, e = .returned (.tuple #[v, .int .i64 (checkS us hs)]) ∧ RowsAt w' v (partsR us hs) ∧ Below w.heap.size w w'

theorem checkS_zero {us : List Int} {hs : List (List Int)} (h : checkS us hs = 0) : Shape us hs ∧ Held us hs := by
  unfold checkS at h
  split at h
  · split at h
    · exact ⟨by assumption, by assumption⟩
    · cases h
  · cases h
theorem RowsAt.nil (w : World) : RowsAt w (.slice none 0 0) [] := ⟨none, 0, rfl, by simp, fun i hi => by simp at hi⟩
theorem IntsAt.nil (w : World) : IntsAt w (.slice none 0 0) [] := ⟨none, 0, rfl, by simp, fun i hi => by simp at hi⟩
theorem BoolsAt.nil (w : World) : BoolsAt w (.slice none 0 0) [] := ⟨none, 0, rfl, by simp, fun i hi => by simp at hi⟩

theorem below_cells {W w1 : World} (hb : Below W.heap.size W w1) : (∀ b o v, W.cell? ⟨b, o, none⟩ = some v → w1.cell? ⟨b, o, none⟩ = some v) := fun b o v h => (ExtW.of_below hb).2 _ _ h

set_option maxHeartbeats 1000000 in
theorem pPartsFn_any (u h : Value) (us : List Int) (hs : List (List Int)) (w : World) (hu : IntsAt w u us) (hh : RowsAt w h hs) :
    Calls Try.prog 9 #[.agg #[u, h]] w (PartsRPost w us hs) := by
  have hb0 : Below w.heap.size w (w.alloc (.cells #[u, h] 25)) := (Below.refl _ _).alloc (Nat.le_refl _) _
  have Hb0 := Lib.hid hb0; clear hb0
  have Hu := Lib.hid hu; clear hu
  have Hh := Lib.hid hh; clear hh
  go_enter Try.func9, Try.ntmps9
  go_wp2_with fail
  refine (pcheck_any u h us hs _ (Hu.out.ext (ExtW.of_below Hb0.out)) (Hh.out.ext (ExtW.of_below Hb0.out))).mono ?_
  rintro e w1 ⟨rfl, hb1⟩
  have hc0 := below_cells hb1 w.heap.size 0 u (by rw [World.cell?_alloc_at _ _ _ _ rfl]; rfl)
  have hc1 := below_cells hb1 w.heap.size 1 h (by rw [World.cell?_alloc_at _ _ _ _ rfl]; rfl)
  have hbel := Hb0.out.trans (hb1.mono (by simp))
  have Hbel := Lib.hid hbel; clear hbel hb1
  by_cases hz : checkS us hs = 0
  · have hS := (checkS_zero hz).1
    have Hz := Lib.hid hz
    rw [hz]
    clear hz
    have HS := Lib.hid hS; clear hS
    go_wp2_with fail
    refine (pparts_any u h us hs _ HS.out (Hu.out.ext (ExtW.of_below Hbel.out)) (Hh.out.ext (ExtW.of_below Hbel.out))).mono ?_
    rintro e w2 ⟨v, rfl, hv, hb2⟩
    have Hv := Lib.hid hv; clear hv
    have Hb2 := Lib.hid hb2; clear hb2
    go_wp2_with fail
    go_ret2
    exact ⟨v, by rw [Hz.out]; rfl, by unfold partsR; rw [if_pos Hz.out]; exact Hv.out, Hbel.out.trans (Hb2.out.mono Hbel.out.size)⟩
  · have hne : (checkS us hs != 0) = true := by simpa using hz
    have Hz := Lib.hid hz; clear hz
    go_wp2_with fail
    go_ret2
    exact ⟨_, rfl, by unfold partsR; rw [if_neg Hz.out]; exact RowsAt.nil _, Hbel.out⟩

def reachTo (R : Nat → Nat → Bool) (i : Nat) : Nat → List Int
  | 0 => []
  | j + 1 => if R i j then reachTo R i j ++ [(j : Int)] else reachTo R i j
theorem reachTo_len {R : Nat → Nat → Bool} (i : Nat) : ∀ j, (reachTo R i j).length ≤ j
  | 0 => Nat.le_refl _
  | j + 1 => by unfold reachTo; have := reachTo_len (R := R) i j; split <;> simp <;> omega
noncomputable def reachE (us : List Int) (hs : List (List Int)) (i : Int) : Int := if checkS us hs = 0 then (if i < 0 ∨ i ≥ us.length then 340 else 0) else checkS us hs
noncomputable def reachR (us : List Int) (hs : List (List Int)) (i : Int) : List Int := if reachE us hs i = 0 then reachTo (rB us.length hs) i.toNat us.length else []
def ReachRPost (w : World) (us : List Int) (hs : List (List Int)) (i : Int) (e : Ending) (w' : World) : Prop :=
  ∃ v, e = .returned (.tuple #[v, .int .i64 (reachE us hs i)]) ∧ IntsAt w' v (reachR us hs i) ∧ Below w.heap.size w w'

set_option maxHeartbeats 2000000 in
theorem pReachFn_any (u h : Value) (us : List Int) (hs : List (List Int)) (i : Int) (w : World) (hu : IntsAt w u us) (hh : RowsAt w h hs) :
    Calls Try.prog 10 #[.agg #[u, h], .int .i64 i] w (ReachRPost w us hs i) := by
  have hb0 : Below w.heap.size w (w.alloc (.cells #[u, h] 25)) := (Below.refl _ _).alloc (Nat.le_refl _) _
  have Hb0 := Lib.hid hb0; clear hb0
  have Hu := Lib.hid hu; clear hu
  have Hh := Lib.hid hh; clear hh
  go_enter Try.func10, Try.ntmps10
  go_wp2_with fail
  refine (pcheck_any u h us hs _ (Hu.out.ext (ExtW.of_below Hb0.out)) (Hh.out.ext (ExtW.of_below Hb0.out))).mono ?_
  rintro e w1 ⟨rfl, hb1⟩
  have hc0 := below_cells hb1 w.heap.size 0 u (by rw [World.cell?_alloc_at _ _ _ _ rfl]; rfl)
  have hc1 := below_cells hb1 w.heap.size 1 h (by rw [World.cell?_alloc_at _ _ _ _ rfl]; rfl)
  have hbel := Hb0.out.trans (hb1.mono (by simp))
  have hz1 : w.heap.size < w1.heap.size := by have := hb1.size; simp at this; omega
  have Hbel := Lib.hid hbel; clear hbel hb1
  by_cases hz : checkS us hs = 0
  · have hS := (checkS_zero hz).1
    have Hz := Lib.hid hz
    rw [hz]
    clear hz
    have HS := Lib.hid hS; clear hS
    have h8 : us.length ≤ 8 := HS.out.1
    obtain ⟨a, ca, rfl, hl, hx⟩ := Hu.out
    have Hx := Lib.hid hx; clear hx
    by_cases hi0 : i < 0
    · have He := Lib.hid (show reachE us hs i = 340 by unfold reachE; rw [if_pos Hz.out, if_pos (.inl hi0)])
      go_wp2_with fail
      go_ret2
      exact ⟨_, by rw [He.out]; rfl, by unfold reachR; rw [He.out, if_neg (by decide)]; exact IntsAt.nil _, Hbel.out⟩
    · by_cases hin : i ≥ us.length
      · have He := Lib.hid (show reachE us hs i = 340 by unfold reachE; rw [if_pos Hz.out, if_pos (.inr hin)])
        go_wp2_with fail
        go_ret2
        exact ⟨_, by rw [He.out]; rfl, by unfold reachR; rw [He.out, if_neg (by decide)]; exact IntsAt.nil _, Hbel.out⟩
      · have He := Lib.hid (show reachE us hs i = 0 by unfold reachE; rw [if_pos Hz.out, if_neg (by omega)])
        obtain ⟨n, rfl⟩ := Int.eq_ofNat_of_zero_le (show 0 ≤ i by omega)
        have hn : n < us.length := by omega
        go_wp2_with fail
        refine (preach_any _ h us hs _ n HS.out hn (Hh.out.ext (ExtW.of_below Hbel.out))).mono ?_
        rintro e w2 ⟨rfl, hb2⟩
        have hc0' := below_cells hb2 _ _ _ hc0
        have hc1' := below_cells hb2 _ _ _ hc1
        have hz2 : w.heap.size < w2.heap.size := by have := hb2.size; omega
        have hbel2 := Hbel.out.trans (hb2.mono Hbel.out.size)
        have Hbel2 := Lib.hid hbel2; clear hbel2 hb2 hc0 hc1
        have Hm := Lib.hid (show MarksAt (w2.alloc (.cells (mArr (rB us.length hs n)) 51)) w2.heap.size (rB us.length hs n) from heap_new' _ _ _ rfl)
        obtain ⟨R, HR⟩ : ∃ R, Hid (R = rB us.length hs) := ⟨_, rfl⟩
        rw [← HR.out] at Hm ⊢
        have Hown0 := Lib.hid (Own.nil (w2.alloc (.cells (mArr (R n)) 51)) 3)
        have Hbel3 := Lib.hid (Hbel2.out.alloc Hbel2.out.size (.cells (mArr (R n)) 51))
        obtain ⟨W3, HW3⟩ : ∃ W, Hid (W = w2.alloc (.cells (mArr (R n)) 51)) := ⟨_, rfl⟩
        obtain ⟨B, HB⟩ : ∃ B, Hid (B = w2.heap.size) := ⟨_, rfl⟩
        have hc03 : W3.cell? ⟨w.heap.size, 0, none⟩ = some (.slice a us.length ca) := by rw [HW3.out, World.cell?_alloc_past _ _ _ hz2]; exact hc0'
        have hB3 : W3.heap.size = B + 1 := by rw [HW3.out, HB.out]; simp
        have hwB : w.heap.size < B := by rw [HB.out]; exact hz2
        unfold mArr at HW3 Hm Hown0 Hbel3 ⊢
        go_wp2_with fail
        rw [← HB.out]
        rw [← HB.out] at Hm
        rw [← HW3.out] at Hm Hown0 Hbel3 ⊢
        have HB3 := Lib.hid hB3; clear hB3 HW3 HB hc0' hc1' hz2
        obtain ⟨ii, hi3, hz3, hs3, hb3⟩ := info_parts Try.info3
        have Hi3 := Lib.hid hi3; have Hz3 := Lib.hid hz3; have Hs3 := Lib.hid hs3; have Hb3 := Lib.hid hb3
        clear hi3 hz3 hs3 hb3
        go_loopw [8, 30] (fun part p w3 => ∃ j : Nat, j ≤ us.length ∧ p = .int .i64 j ∧ Own w3 3 part ((reachTo R n j).map (Value.int .i64)) ∧ (∀ k, part.ownBlock = some k → B + 1 ≤ k) ∧ W3.grownBy w3 none) (fun _ p _ => us.length - (intOf p).toNat)
        case atStart => exact ⟨0, by omega, rfl, Hown0.out, fun k hk => by simp [Value.ownBlock] at hk, World.grownBy.refl _ _⟩
        case round =>
          obtain ⟨j, hj, rfl, hown, hblk, hgr⟩ := hrel
          have hszo : W3.heap.size ≤ wr.heap.size := hgr.size
          have hmk := Hm.out.kept hgr (by simp)
          have hc0r := hgr.cell hc03 (by simp)
          have Hown := Lib.hid hown; clear hown
          have Hblk := Lib.hid hblk; clear hblk
          have Hgr := Lib.hid hgr; clear hgr
          by_cases hjt : j < us.length
          · have hA := hmk.cell (v := j) (by omega)
            have Hmk := Lib.hid hmk; clear hmk
            have hpl := reachTo_len (R := R) n j
            cases h1 : R n j with
            | true =>
              have Hb := Lib.hid h1
              rw [h1] at hA
              clear h1
              have Hc3 := Lib.hid (show ((reachTo R n j).map (Value.int .i64)).length + 1 ≤ maxLen by rw [List.length_map]; unfold maxLen; omega)
              have Hc4 := Lib.hid (show (((reachTo R n j).map (Value.int .i64)).length + 1) * 8 ≤ 140737488355328 by rw [List.length_map]; omega)
              go_wp2_with (at_builtin; refine wpList_push _ rfl _ _ 22 rfl 3 ii (.int .i64 0) 8 Try.underlying22 Hi3.out Hz3.out Hs3.out Hb3.out rfl _ ((reachTo R n j).map (Value.int .i64)) rfl (Hown.out.alloc _) ⟨wr.heap.size, 0, none⟩ 1 (.int .i64 j) rfl (cell_new1 _ _ _) rfl Hc3.out Hc4.out ?_; intro v' w4 ho4 hg4 hf4; have hs4 := hg4.size; have Ho4 := Lib.hid ho4; have Hg4 := Lib.hid hg4; have Hf4 := Lib.hid hf4; clear ho4 hg4 hf4)
              have hlo := Hf4.out.ge (lo := B + 1) Hblk.out (by have := HB3.out; simp; omega)
              refine ⟨⟨j + 1, by omega, by go_num, ?_, hlo, ?_⟩, by simp [intOf]; omega⟩
              · have e : (reachTo R n (j + 1)).map (Value.int .i64) = (reachTo R n j).map (Value.int .i64) ++ [.int .i64 j] := by simp [reachTo, Hb.out]
                rw [e]
                exact Ho4.out
              · exact gb_new (gb_new Hgr.out (World.grownBy_alloc wr (.cells #[.int .i64 j] 3) none) (fun q e => by cases e)) Hg4.out (fun q e => by have := Hblk.out q e; have := HB3.out; omega)
            | false =>
              have Hb := Lib.hid h1
              rw [h1] at hA
              clear h1
              go_wp2_with fail
              refine ⟨⟨j + 1, by omega, by go_num, ?_, Hblk.out, Hgr.out⟩, by simp [intOf]; omega⟩
              have e : reachTo R n (j + 1) = reachTo R n j := by simp [reachTo, Hb.out]
              rw [e]; exact Hown.out
          · have hjn : j = us.length := by omega
            subst hjn
            have hpl := reachTo_len (R := R) n us.length
            go_wp2_with fail
            go_ret2
            refine ⟨_, by rw [He.out]; rfl, ?_, Hbel3.out.grown Hgr.out Hbel3.out.size (fun k e => by cases e)⟩
            unfold reachR
            rw [if_pos He.out, ← HR.out]
            exact Hown.out.ints (by omega)
  · have hne : (checkS us hs != 0) = true := by simpa using hz
    have Hz := Lib.hid hz; clear hz
    have He := Lib.hid (show reachE us hs i = checkS us hs by unfold reachE; rw [if_neg Hz.out])
    go_wp2_with fail
    go_ret2
    exact ⟨_, by rw [He.out]; rfl, by unfold reachR; rw [He.out, if_neg Hz.out]; exact IntsAt.nil _, Hbel.out⟩
end Go.Proofs.Ytfnjcjoomaeapaa
