/- walks -/
import Derived.Test.YtfnjcjoomaeapaaLib
namespace Go.Proofs.Ytfnjcjoomaeapaa
open Go.RowKit

theorem tmod_neg (n m : Int) (hm : 0 < m) (h : n.tmod m < 0) : n.tmod m + m = n % m := by
  have a1 := Int.tmod_add_mul_tdiv n m
  have g2 := Int.lt_tmod_of_pos n hm
  have h1 : (n.tmod m + m) % m = n % m := by
    conv => rhs; rw [← a1]
    simp
  rw [← h1, Int.emod_eq_of_lt (by omega) (by omega)]
theorem tmod_zero (n m : Int) (hm : 0 < m) (h : n.tmod m = 0) : n.tmod m = n % m := by
  have a1 := Int.tmod_add_mul_tdiv n m
  have h1 : (n.tmod m) % m = n % m := by
    conv => rhs; rw [← a1]
    simp
  rw [← h1, h]; simp

set_option maxHeartbeats 400000 in
theorem mod_any (n m : Int) (w : World) (hm : 1 ≤ m) (hm2 : m ≤ 9223372036854775807) :
    Calls Try.prog 12 #[.int .i64 n, .int .i64 m] w fun e w' => (e = .returned (.int .i64 (n % m))) ∧ w = w' := by
  by_cases h1 : 0 ≤ n
  · have g1 := Int.emod_nonneg n (show m ≠ 0 by omega)
    go_enter Try.func12, Try.ntmps12
    go_wp2
    go_ret
    exact ⟨rfl, rfl⟩
  · by_cases h2 : n.tmod m < 0
    · have g2 := Int.lt_tmod_of_pos n (show 0 < m by omega)
      have e : n.tmod m + m = n % m := by
        exact tmod_neg n m (by omega) h2
      have E := Lib.hid e; clear e
      go_enter Try.func12, Try.ntmps12
      go_wp2
      go_ret
      exact ⟨ret_int E.out, rfl⟩
    · have g2 : n.tmod m ≤ 0 := by
        have := Int.tmod_nonneg m (show 0 ≤ -n by omega)
        rw [Int.neg_tmod] at this; omega
      have e : n.tmod m = n % m := tmod_zero n m (by omega) (by omega)
      have E := Lib.hid e; clear e
      go_enter Try.func12, Try.ntmps12
      go_wp2
      go_ret
      exact ⟨ret_int E.out, rfl⟩

set_option maxHeartbeats 1000000 in
theorem same_any (u v : Value) (xs ys : List Int) (w : World) (hx : IntsAt w u xs) (hy : IntsAt w v ys) (hxy : xs = ys) :
    Calls Try.prog 27 #[u, v] w fun e w' => (e = .returned (.bool true)) ∧ Drew w w' := by
  obtain ⟨a, c, rfl, hl, hx⟩ := hx
  obtain ⟨a', c', rfl, hl', hy⟩ := hy
  have hb : ((xs.length : Int) != ys.length) = false := by simp [hxy]
  have Hxy := Lib.hid hxy; clear hxy
  have Hx := Lib.hid hx; clear hx
  have Hy := Lib.hid hy; clear hy
  go_enter Try.func27, Try.ntmps27
  go_wp2
  go_loopw [5] (fun i wr => ∃ k : Nat, k ≤ xs.length ∧ i = .int .i64 k ∧ Drew w wr) (fun i _ => xs.length - (intOf i).toNat)
  case atStart => exact ⟨0, by omega, rfl, Drew.refl _⟩
  case round =>
    obtain ⟨k, hk, rfl, hd⟩ := hrel
    have Hd' := Lib.hid hd; clear hd
    by_cases hlt : k < xs.length
    · have h2 : k < ys.length := by have := Hxy.out; subst this; omega
      obtain ⟨b, off, rfl, hb, hc0⟩ := Hx.out k hlt
      obtain ⟨b', off', rfl, hb', hc0'⟩ := Hy.out k h2
      have hc := Hd'.out.ext.2 _ _ hc0
      have hc' := Hd'.out.ext.2 _ _ hc0'
      clear hc0 hc0'
      have h3 : (gI xs k != gI ys k) = false := by have := Hxy.out; subst this; simp
      go_wp2
      go_quiet (fail)
      go_wp2
      exact ⟨⟨k + 1, by omega, by go_num, Hd'.out.drewN _⟩, by simp [intOf]; omega⟩
    · go_wp2
      go_ret
      exact ⟨rfl, Hd'.out⟩

set_option maxHeartbeats 1000000 in
theorem bools_any (u v : Value) (xs ys : List Bool) (w : World) (hx : BoolsAt w u xs) (hy : BoolsAt w v ys) (hxy : xs = ys) :
    Calls Try.prog 26 #[u, v] w fun e w' => (e = .returned (.bool true)) ∧ Drew w w' := by
  obtain ⟨a, c, rfl, hl, hx⟩ := hx
  obtain ⟨a', c', rfl, hl', hy⟩ := hy
  have hb : ((xs.length : Int) != ys.length) = false := by simp [hxy]
  have Hxy := Lib.hid hxy; clear hxy
  have Hx := Lib.hid hx; clear hx
  have Hy := Lib.hid hy; clear hy
  go_enter Try.func26, Try.ntmps26
  go_wp2
  go_loopw [5] (fun i wr => ∃ k : Nat, k ≤ xs.length ∧ i = .int .i64 k ∧ Drew w wr) (fun i _ => xs.length - (intOf i).toNat)
  case atStart => exact ⟨0, by omega, rfl, Drew.refl _⟩
  case round =>
    obtain ⟨k, hk, rfl, hd⟩ := hrel
    have Hd' := Lib.hid hd; clear hd
    by_cases hlt : k < xs.length
    · have h2 : k < ys.length := by have := Hxy.out; subst this; omega
      obtain ⟨b, off, rfl, hb, hc0⟩ := Hx.out k hlt
      obtain ⟨b', off', rfl, hb', hc0'⟩ := Hy.out k h2
      have hc := Hd'.out.ext.2 _ _ hc0
      have hc' := Hd'.out.ext.2 _ _ hc0'
      clear hc0 hc0'
      have h3 : (gB xs k == gB ys k) = true := by have := Hxy.out; subst this; simp
      go_wp2
      go_quiet (fail)
      go_wp2
      exact ⟨⟨k + 1, by omega, by go_num, Hd'.out.drewN _⟩, by simp [intOf]; omega⟩
    · go_wp2
      go_ret
      exact ⟨rfl, Hd'.out⟩

set_option maxHeartbeats 1000000 in
theorem sames_any (u v : Value) (xs ys : List (List Int)) (w : World) (hx : RowsAt w u xs) (hy : RowsAt w v ys) (hxy : xs = ys) :
    Calls Try.prog 21 #[u, v] w fun e w' => (e = .returned (.bool true)) ∧ Drew w w' := by
  obtain ⟨a, c, rfl, hl, hx⟩ := hx
  obtain ⟨a', c', rfl, hl', hy⟩ := hy
  have hb : ((xs.length : Int) != ys.length) = false := by simp [hxy]
  have Hxy := Lib.hid hxy; clear hxy
  have Hx := Lib.hid hx; clear hx
  have Hy := Lib.hid hy; clear hy
  go_enter Try.func21, Try.ntmps21
  go_wp2
  go_loopw [5] (fun i wr => ∃ k : Nat, k ≤ xs.length ∧ i = .int .i64 k ∧ Drew w wr) (fun i _ => xs.length - (intOf i).toNat)
  case atStart => exact ⟨0, by omega, rfl, Drew.refl _⟩
  case round =>
    obtain ⟨k, hk, rfl, hd⟩ := hrel
    have Hd' := Lib.hid hd; clear hd
    by_cases hlt : k < xs.length
    · have h2 : k < ys.length := by have := Hxy.out; subst this; omega
      obtain ⟨b, off, r, rfl, hb, hc0, hr⟩ := Hx.out k hlt
      obtain ⟨b', off', r', rfl, hb', hc0', hr'⟩ := Hy.out k h2
      have hc := Hd'.out.ext.2 _ _ hc0
      have hc' := Hd'.out.ext.2 _ _ hc0'
      clear hc0 hc0'
      have hq : ∀ m, Calls Try.prog 27 #[r, r'] (wr.drewN m) fun e w' => (e = .returned (.bool true)) ∧ Drew (wr.drewN m) w' := fun m => same_any r r' _ _ _ (hr.ext (Hd'.out.drewN _).ext) (hr'.ext (Hd'.out.drewN _).ext) (by have := Hxy.out; subst this; rfl)
      have Hq := Lib.hid hq; clear hq hr hr'
      go_wp2
      go_quiet ((go_at_call 27; exact quiet_drew (Hq.out _)))
      go_wp2
      exact ⟨⟨k + 1, by omega, by go_num, Hd'.out.drewN _⟩, by simp [intOf]; omega⟩
    · go_wp2
      go_ret
      exact ⟨rfl, Hd'.out⟩

end Go.Proofs.Ytfnjcjoomaeapaa
