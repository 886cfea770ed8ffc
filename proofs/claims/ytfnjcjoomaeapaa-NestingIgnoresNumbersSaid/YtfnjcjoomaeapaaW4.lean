/- walks: reach -/
import Derived.Test.YtfnjcjoomaeapaaMem
import Derived.Test.YtfnjcjoomaeapaaGraph
namespace Go.Proofs.Ytfnjcjoomaeapaa
open Go.RowKit

def mArr (m : Nat → Bool) : Array Value := #[.bool (m 0), .bool (m 1), .bool (m 2), .bool (m 3), .bool (m 4), .bool (m 5), .bool (m 6), .bool (m 7)]
def MarksAt (w : World) (B : Nat) (m : Nat → Bool) : Prop := w.heap[B]? = some (.cells (mArr m) 51 (0, 0))

theorem MarksAt.cell {w : World} {B : Nat} {m : Nat → Bool} (h : MarksAt w B m) {v : Nat} (hv : v < 8) : w.cell? ⟨B, v, none⟩ = some (.bool (m v)) := by
  unfold MarksAt at h
  simp only [World.cell?, h]
  have : v = 0 ∨ v = 1 ∨ v = 2 ∨ v = 3 ∨ v = 4 ∨ v = 5 ∨ v = 6 ∨ v = 7 := by omega
  rcases this with rfl | rfl | rfl | rfl | rfl | rfl | rfl | rfl <;> rfl
theorem MarksAt.free {w : World} {B : Nat} {m : Nat → Bool} (h : MarksAt w B m) (v : Nat) : w.frozen? ⟨B, v, none⟩ = false := by
  unfold MarksAt at h
  simp [World.frozen?, h]
theorem MarksAt.set {w : World} {B : Nat} {m : Nat → Bool} (h : MarksAt w B m) {v : Nat} (hv : v < 8) : MarksAt (w.setCell ⟨B, v, none⟩ (.bool true)) B (upd m v) := by
  unfold MarksAt at *
  simp only [World.setCell, Array.getElem?_modify, h]
  have : v = 0 ∨ v = 1 ∨ v = 2 ∨ v = 3 ∨ v = 4 ∨ v = 5 ∨ v = 6 ∨ v = 7 := by omega
  rcases this with rfl | rfl | rfl | rfl | rfl | rfl | rfl | rfl <;> simp [mArr, upd]
theorem MarksAt.congr {w : World} {B : Nat} {m m' : Nat → Bool} (h : MarksAt w B m) (he : ∀ v, v < 8 → m v = m' v) : MarksAt w B m' := by
  unfold MarksAt at *
  rw [h]; simp [mArr, he]

theorem grownBy_setCell (w : World) (a : Addr) (u : Value) : w.grownBy (w.setCell a u) (some a.block) :=
  ⟨rfl, rfl, rfl, by simp [World.setCell], fun k _ hne => Below.heap_setCell _ _ _ _ (fun e => hne (by rw [e]))⟩
theorem grownBy_trans {a b c : World} {row : Option Nat} (h : a.grownBy b row) (k : b.grownBy c row) : a.grownBy c row :=
  ⟨k.os.trans h.os, k.tape.trans h.tape, k.output.trans h.output, Nat.le_trans h.size k.size, fun i hi hne => (k.block i (Nat.lt_of_lt_of_le hi h.size) hne).trans (h.block i hi hne)⟩

structure DfsEnv (w0 w : World) (Bm Bg Bv : Nat) (hv clo : Value) : Prop where
  below : Below w0.heap.size w0 w
  cg : w.cell? ⟨Bg, 1, none⟩ = some hv
  cv : w.cell? ⟨Bv, 0, none⟩ = some clo

theorem DfsEnv.step {w0 w w' : World} {Bm Bg Bv : Nat} {hv clo : Value} (h : DfsEnv w0 w Bm Bg Bv hv clo) (hB : w0.heap.size ≤ Bm) (hs : w0.heap.size ≤ w.heap.size) (h1 : Bg ≠ Bm) (h2 : Bv ≠ Bm) (hg : w.grownBy w' (some Bm)) : DfsEnv w0 w' Bm Bg Bv hv clo :=
  ⟨h.below.grown hg hs (fun k hk => by cases hk; exact hB), hg.cell h.cg (by simpa using h1), hg.cell h.cv (by simpa using h2)⟩

theorem getsize {w : World} {Bm : Nat} {m : Nat → Bool} (h : MarksAt w Bm m) : Bm < w.heap.size := cell_lt (h.cell (v := 0) (by omega))

theorem mid_cnt {E : Nat → Nat → Prop} {m mk : Nat → Bool} {i j k : Nat} (h : DfsMid E m mk i j) (h8 : i < 8) (hm : m i = false) (hk : cnt m < k + 1) : cnt mk < k := by
  have h1 : cnt mk ≤ cnt (upd m i) := cnt_mono fun v hv => by
    unfold upd at hv; split at hv
    · subst_vars; exact h.self
    · exact h.keep v hv
  have h2 := cnt_upd h8 hm
  omega

set_option maxHeartbeats 2000000 in
theorem dfs_any (us : List Int) (hs : List (List Int)) (w0 : World) (Bm Bg Bv : Nat) (hv : Value) (hB : w0.heap.size ≤ Bm) (h1 : Bg ≠ Bm) (h2 : Bv ≠ Bm) (hS : Shape us hs) (hrows : RowsAt w0 hv hs) :
    ∀ (k : Nat) (m : Nat → Bool) (i : Nat) (w : World), cnt m < k → i < us.length → MarksAt w Bm m → DfsEnv w0 w Bm Bg Bv hv (.func (.func 28) #[] #[.pointer (some ⟨Bm, 0, none⟩), .pointer (some ⟨Bg, 0, none⟩), .pointer (some ⟨Bv, 0, none⟩)]) →
    Calls Try.prog 28 #[.int .i64 i, .pointer (some ⟨Bm, 0, none⟩), .pointer (some ⟨Bg, 0, none⟩), .pointer (some ⟨Bv, 0, none⟩)] w fun e w' => e = .returned (.tuple #[]) ∧ ∃ m', DfsPost (Edge us.length hs) m m' i ∧ MarksAt w' Bm m' ∧ w.grownBy w' (some Bm) := by
  intro k
  induction k with
  | zero => intro m i w hk; omega
  | succ k ih =>
    intro m i w hk hi hm he
    have Ih := Lib.hid ih; clear ih
    have h8 : i < 8 := Nat.lt_of_lt_of_le hi hS.1
    have hsz : w0.heap.size ≤ w.heap.size := he.below.size
    have HS := Lib.hid hS; clear hS
    have Hrows := Lib.hid hrows; clear hrows
    have hc := hm.cell h8
    have hcg := he.cg
    have hf := hm.free i
    have Hm := Lib.hid hm; clear hm
    have He := Lib.hid he; clear he
    by_cases hmi : m i = true
    · have Hmi := Lib.hid hmi
      rw [hmi] at hc
      clear hmi
      go_enter Try.func28, Try.ntmps28
      go_wp2_with fail
      refine bodyPost_ret (results_none rfl _ _ _) rfl ?_
      exact ⟨rfl, m, .same Hmi.out, Hm.out, ⟨rfl, rfl, rfl, Nat.le_refl _, fun _ _ _ => rfl⟩⟩
    · have Hmi := Lib.hid (show m i = false by simpa using hmi)
      rw [Hmi.out] at hc
      clear hmi
      obtain ⟨a, ca, rfl, hl, hx⟩ := Hrows.out
      obtain ⟨b1, o1, r, rfl, hb1, hc1, hr1⟩ := hx i (by have := HS.out.2.1; omega)
      have hc2 : w.cell? ⟨b1, o1 + i, none⟩ = some r := by rw [He.out.below.cell hb1]; exact hc1
      obtain ⟨ar, cr, rfl, hlr, hxr⟩ := hr1
      have Hxr := Lib.hid hxr; clear hxr hx hc1
      have hne : b1 ≠ Bm := by omega
      have hil : i < hs.length := by have := HS.out.2.1; omega
      have Hrl := Lib.hid (HS.out.2.2 i hi).1
      have hrl8 : (gR hs i).length ≤ 8 := by have := Hrl.out; have := HS.out.1; omega
      go_enter Try.func28, Try.ntmps28
      go_wp2_with fail
      go_loopw [18] (fun p wr => ∃ (j : Nat) (mk : Nat → Bool), j ≤ (gR hs i).length ∧ p = .int .i64 j ∧ DfsMid (Edge us.length hs) m mk i j ∧ MarksAt wr Bm mk ∧ DfsEnv w0 wr Bm Bg Bv (.slice (some ⟨b1, o1, none⟩) hs.length ca) (.func (.func 28) #[] #[.pointer (some ⟨Bm, 0, none⟩), .pointer (some ⟨Bg, 0, none⟩), .pointer (some ⟨Bv, 0, none⟩)]) ∧ w.grownBy wr (some Bm)) (fun p _ => (gR hs i).length - (intOf p).toNat)
      case atStart => exact ⟨0, upd m i, by omega, rfl, .start, Hm.out.set h8, He.out.step hB hsz h1 h2 (grownBy_setCell _ _ _), grownBy_setCell _ _ _⟩
      case round =>
        obtain ⟨j, mk, hj, rfl, hmid, hmk, henv, hgr⟩ := hrel
        have hmsz : w0.heap.size ≤ wr.heap.size := henv.below.size
        have hcv := henv.cv
        have Henv := Lib.hid henv; clear henv
        have Hmk := Lib.hid hmk; clear hmk
        have Hmid := Lib.hid hmid; clear hmid
        have Hgr := Lib.hid hgr; clear hgr
        by_cases hjt : j < (gR hs i).length
        · obtain ⟨b3, o3, rfl, hb3, hc3⟩ := Hxr.out j hjt
          have hc4 : wr.cell? ⟨b3, o3 + j, none⟩ = some (.int .i64 (gI (gR hs i) j)) := by rw [Henv.out.below.cell hb3]; exact hc3
          clear hc3
          have hju : j < us.length := by have := Hrl.out; omega
          by_cases hE : 0 < gI (gR hs i) j
          · have hcall := Ih.out mk j wr (mid_cnt Hmid.out h8 Hmi.out hk) hju Hmk.out Henv.out
            have Hcall := Lib.hid hcall; clear hcall
            go_wp2_with (go_at_call 28; refine Hcall.out.mono ?_; rintro e w1 ⟨rfl, m', hp, hm', hg'⟩)
            refine ⟨⟨j + 1, m', by omega, by go_num, Hmid.out.step ⟨hi, hju, hE⟩ hp, hm', Henv.out.step hB hmsz h1 h2 hg', grownBy_trans Hgr.out hg'⟩, by simp [intOf]; omega⟩
          · go_wp2_with fail
            refine ⟨⟨j + 1, mk, by omega, by go_num, Hmid.out.skip (fun h => hE h.2.2), Hmk.out, Henv.out, Hgr.out⟩, by simp [intOf]; omega⟩
        · go_wp2_with fail
          refine bodyPost_end (results_none rfl _ _ _) rfl ?_
          exact ⟨rfl, mk, Hmid.out.post (fun u hu => by have := Hrl.out; have := hu.2.1; omega), Hmk.out, Hgr.out⟩
end Go.Proofs.Ytfnjcjoomaeapaa
