/- walks: a number that is made; no condition. -/
import Derived.Test.YtnfmpddhcjkjbaaGreatDoorV36
namespace Go.Proofs.YtnfmpddhcjkjbaaGreatDoor
open Go Go.RowKit Go.SX
/-- the number that comes off the tape next -/
def nx (zs : List Int) (k : Nat) (n : Int) : Int := foldI (if k < zs.length then zs.getD k 0 else (IntKind.i64.wrap ((k : Nat) * 7)).tmod 11) n
theorem nx_bd (zs : List Int) (k : Nat) (n : Int) : 0 ≤ nx zs k n ∧ (nx zs k n < n ∨ nx zs k n = 0) := foldI_bd _ n
set_option smartUnfolding false in
set_option maxRecDepth 100000 in
theorem next_x {n : Int} (hn : n ≤ 9223372036854775807) (zs : List Int) (k : Nat) (hk : k + 1 ≤ 4000000000000000000) (E : Env) (v : Value) (d : Key) (hE : E.P = Tryz.prog) (hv : Tp E v zs) : Own E 18 [SV.ptr d 0, SV.c (.int .i64 n)] [(d, Blk.row 42 2 (tb v k))] (SV.c (.int .i64 (nx zs k n))) [(d, Blk.row 42 2 (tb v (k + 1)))] := by
  obtain ⟨a, cap, rfl, hi⟩ := hv
  have hlen : ∀ w', (builtin .len #[39] 3 #[false] #[.slice a zs.length cap]).run Tryz.prog w' = .ok (.value (.int .i64 (zs.length : Nat))) w' := fun w' => run_len_sl Tryz.underlying39 w'
  unfold nx
  by_cases h : k < zs.length
  · rw [if_pos h]
    obtain ⟨b, h2, h4⟩ := hi k h
    refine sx_ownT1 [] tt_ok mixed at18 E hE d (42, 2, tb (.slice a zs.length cap) k, tb (.slice a zs.length cap) (k + 1)) [SV.ptr 1000 0, SV.c (.int .i64 n)] _ rfl rfl fun w b hT => ?_
    refine ⟨_, rfl, by decide, _, rfl, _, rfl, _, fun w' _ => hlen w', by kernel_rfl, fun _ => ?_, fun h => absurd (of_decide_eq_false h) (by omega)⟩
    refine ⟨_, rfl, _, rfl, _, runs_old hE.symm hT h2, _, runs_old hE.symm hT h4, by kernel_rfl, _, rfl, Nat.lt_add_one 1, rfl, _, rfl, .inl ⟨_, fold_t hn, rfl, ?_, trivial⟩⟩
    exact row_eq (tb_set k (by omega))
  · rw [if_neg h]
    refine sx_ownT1 [] tt_ok mixed at18 E hE d (42, 2, tb (.slice a zs.length cap) k, tb (.slice a zs.length cap) (k + 1)) [SV.ptr 1000 0, SV.c (.int .i64 n)] _ rfl rfl fun w b hT => ?_
    refine ⟨_, rfl, by decide, _, rfl, _, rfl, _, fun w' _ => hlen w', by kernel_rfl, fun h => absurd (of_decide_eq_true h) (by omega), fun _ => ?_⟩
    refine ⟨_, rfl, Nat.lt_add_one 1, rfl, _, rfl, .inl ⟨_, fold_t hn, ?_, ?_, trivial⟩⟩
    · exact vi rfl
    · exact row_eq (tb_set k (by omega))
theorem run_min3_ct {P : Program} {ats : Array TypeId} {ty : TypeId} {cs : Array Bool} (x y z : Int) (w : World) : (builtin .min ats ty cs #[.int .i64 x, .int .i64 y, .int .i64 z]).run P w = .ok (.value (.int .i64 (min (min x y) z))) w := by
  have e : ∀ x y : Int, (if y < x then y else x) = min x y := fun x y => by
    rw [Int.min_def]
    split <;> split <;> omega
  simp [builtin, Sem.run_bind, Builtin.min_, Builtin.min2, e]
/-- the limb that is made at a place -/
def lv (zs : List Int) (k : Nat) (n : Int) (i : Nat) : Int :=
  let v := if nx zs (k + 2 * i + 1) 9 = 0 then 0 else if nx zs (k + 2 * i + 1) 9 = 1 then 4294967295 else IntKind.u32.wrap (nx zs (k + 2 * i) 4294967296)
  if n - 32 * i < 32 then IntKind.u32.wrap (BitVec.ofInt IntKind.u32.bits v &&& BitVec.ofInt IntKind.u32.bits (IntKind.u32.wrap (IntKind.u32.wrap (1 * 2 ^ min (IntKind.u64.wrap (n - 32 * i)).toNat IntKind.u32.bits) - 1))).toNat else v
theorem u32_bd (x : Int) : 0 ≤ IntKind.u32.wrap x ∧ IntKind.u32.wrap x < 4294967296 := by
  show 0 ≤ x % 4294967296 ∧ x % 4294967296 < 4294967296
  omega
theorem lv_bd (zs : List Int) (k : Nat) (n : Int) (i : Nat) : 0 ≤ lv zs k n i ∧ lv zs k n i < 4294967296 := by
  unfold lv
  dsimp only
  split
  · exact u32_bd _
  · split
    · omega
    · split
      · omega
      · exact u32_bd _
def lf (zs : List Int) (k : Nat) (n : Int) (m : Nat) (x : Nat) : Nat := if x < m then (lv zs k n x).toNat else 0
def Xi (f : Nat → Nat) : Array Value := #[.bool false] ++ lA f 32
theorem Xi_fits (f : Nat → Nat) : Fits (Xi f) 33 := ⟨by simp [Xi, lA_size], by
  rw [Xi, Array.all_append, (lA_fits f 32).one]; simp [Value.oneCell']⟩
theorem Xi_set {f g : Nat → Nat} {i : Nat} {u : Int} (hi : i < 32) (h : ∀ x, x < 32 → (if x = i then u.toNat else f x) = g x) (hu : 0 ≤ u) : (Xi f).setIfInBounds (0 + 1 + i) (.int .u32 u) = Xi g := by
  have e : u = ((u.toNat : Nat) : Int) := by omega
  rw [e, Xi, Array.setIfInBounds_append_right (by simp)]
  have e2 : 0 + 1 + i - (#[Value.bool false] : Array Value).size = i := by simp
  rw [e2, lA_set, Xi]
  congr 1
  exact lA_congr fun x hx => h x hx
theorem Xi_zero : ti25.zero = Xi (fun _ => 0) := rfl
theorem Xi_iA {f : Nat → Nat} (h : ∀ i, i < 32 → f i < BB) : Xi f = iA false (nv f 32) := by
  unfold Xi iA mA
  congr 1
  exact lA_congr fun i hi => (dg_nv h hi).symm
theorem u64_bd (x : Int) : 0 ≤ IntKind.u64.wrap x ∧ IntKind.u64.wrap x < 18446744073709551616 := by
  show 0 ≤ x % 18446744073709551616 ∧ x % 18446744073709551616 < 18446744073709551616
  omega
theorem set_neg (a b : Bool) (N : Nat) : (iA a N).setIfInBounds (0 + 0) (.bool b) = iA b N := by
  rw [iA, Array.setIfInBounds_append_left (by simp)]; rfl
def RN (r : Value) : Prop := ∃ a N, r = .agg (iA a N) ∧ N < BB ^ 32
set_option smartUnfolding false in
set_option maxRecDepth 100000 in
set_option maxHeartbeats 4000000 in
theorem int_g {bits : Int} (hb : 0 ≤ bits) (hb2 : bits ≤ 100000) : Gen 64 [SV.c (.int .i64 bits)] 70 RN := by
  intro zs k hk
  have eb : IntKind.i64.wrap (bits + 1) = bits + 1 := i64_in (by omega)
  obtain ⟨r1, k1, a1, b1, ⟨i1, rfl, c1⟩, O1⟩ := next_g (n := IntKind.i64.wrap (bits + 1)) (by omega) zs k (by omega)
  obtain ⟨r2, k2, a2, b2, ⟨i2, rfl, c2⟩, O2⟩ := pick_g (xs := [0, 1, 5, 20, 31, 32, 33, 64, 65, 100, 200, 400, bits, bits, i1]) (by simp) (by simp) zs k1 (by omega)
  have q2 : 0 ≤ i2 := by simp at c2; omega
  obtain ⟨n, hn⟩ : ∃ n, n = min (min i2 bits) 1024 := ⟨_, rfl⟩
  have n0 : 0 ≤ n ∧ n ≤ 1024 := by omega
  obtain ⟨cnt, hc1, hc2⟩ : ∃ cnt : Nat, cnt ≤ 32 ∧ ∀ i : Nat, (32 * (i : Int) < n ↔ i < cnt) := ⟨((n + 31) / 32).toNat, by omega, fun i => by omega⟩
  obtain ⟨r3, k3, a3, b3, ⟨neg, rfl⟩, O3⟩ := chance_g (a := 1) (b := 3) (by decide) zs (k2 + 2 * cnt) (by omega)
  have hlt : ∀ m i, i < 32 → lf zs k2 n m i < BB := fun m i _ => by
    have := lv_bd zs k2 n i
    unfold lf; rw [BB_eq]; split <;> omega
  refine ⟨_, k3, by omega, by omega, ⟨neg && (sgn (zN false (nv (lf zs k2 n cnt) 32)) != 0), nv (lf zs k2 n cnt) 32, rfl, nv_lt fun i hi => hlt cnt i hi⟩, fun E v d hE hv => ?_⟩
  refine sx_ownT1 [] tt_ok mixed at64 E hE d (42, 2, tb v k, tb v k3) [SV.ptr 1000 0, SV.c (.int .i64 bits)] _ rfl rfl fun w b hT => ?_
  have hv := hv.of_old hE.symm hT
  refine .inr ⟨_, _, _, O1 _ v 1000 rfl hv, ⟨rfl, trivial⟩, rfl, by decide, by decide, ints [0, 1, 5, 20, 31, 32, 33, 64, 65, 100, 200, 400, bits, bits, i1], by kernel_rfl, rfl, .inr ⟨_, _, _, O2 _ v 1000 17 (by decide) rfl hv, ⟨rfl, rfl, trivial⟩, rfl, _, fun w' _ => run_min3_ct _ _ _ w', ?_⟩⟩
  rw [← hn]
  refine ⟨fun q f m => ∃ i : Nat, q = cnt - i ∧ i ≤ cnt ∧ f = [(0, SV.ptr 1000 0), (1, SV.c (.int .i64 bits)), (4, SV.ptr 4 0), (5, SV.ptr 5 0), (6, SV.c (.int .i64 n)), (7, SV.c (.int .i64 i))] ∧ m = [(1000, Blk.row 42 2 (tb v (k2 + 2 * i))), (4, Blk.row 25 33 ti25.zero), (5, Blk.row 25 33 (Xi (lf zs k2 n i)))], cnt, ⟨_, _, ⟨0, rfl, Nat.zero_le _, rfl, rfl⟩, ⟨rfl, rfl, rfl, rfl, rfl, rfl, trivial⟩, ⟨rfl, rfl, rfl, trivial⟩, rfl⟩, ?_⟩
  rintro q f m ⟨i, rfl, hi1, rfl, rfl⟩
  have ei : IntKind.i64.wrap (32 * (i : Int)) = 32 * (i : Int) := i64_in (by omega)
  refine ⟨fun h => ?_, fun h => ?_⟩
  · have h : 32 * (i : Int) < n := by have := of_decide_eq_true h; omega
    have hi : i < cnt := (hc2 i).1 h
    have e2 : IntKind.i64.wrap (n - IntKind.i64.wrap (32 * (i : Int))) = n - 32 * i := by rw [ei]; exact i64_in (by omega)
    have hst : ∀ u, u = lv zs k2 n i → (Xi (lf zs k2 n i)).setIfInBounds (0 + 1 + i) (.int .u32 u) = Xi (lf zs k2 n (i + 1)) := fun u hu => by
      have hb := lv_bd zs k2 n i
      refine Xi_set (by omega) (fun x hx => ?_) (by omega)
      unfold lf
      by_cases e : x = i
      · subst e; rw [if_pos rfl, if_pos (by omega), hu]
      · rw [if_neg e]
        by_cases e3 : x < i
        · rw [if_pos e3, if_pos (by omega)]
        · rw [if_neg e3, if_neg (by omega)]
    have hp1 : k2 + 2 * i + 1 + 1 = k2 + 2 * (i + 1) := by omega
    have N1 := next_x (n := 4294967296) (by decide) zs (k2 + 2 * i) (by omega) _ v 1000 rfl hv
    have N2 := next_x (n := 9) (by decide) zs (k2 + 2 * i + 1) (by omega) _ v 1000 rfl hv
    rw [hp1] at N2
    have ne0 : ∀ {x : Int}, (x == 0) = false → ¬ x = 0 := fun h e => by subst e; simp at h
    have ne1 : ∀ {x : Int}, (x == 1) = false → ¬ x = 1 := fun h e => by subst e; simp at h
    have i32 : (i : Int) < 32 := by omega
    have i33 : 0 + 1 + i < 33 := by omega
    refine .inr ⟨_, _, _, N1, ⟨rfl, trivial⟩, rfl, .inr ⟨_, _, _, N2, ⟨rfl, trivial⟩, rfl, fun s0 => ⟨fun l => ?_, fun l => ?_⟩, fun s0 => ⟨fun s1 => ⟨fun l => ?_, fun l => ?_⟩, fun s1 => ⟨fun l => ?_, fun l => ?_⟩⟩⟩⟩
    · have l := of_decide_eq_true l
      refine ⟨(u64_bd _).1, by omega, i32, i33, rfl, Xi (lf zs k2 n (i + 1)), hst _ ?_, cnt - (i + 1), _, _, by omega, ⟨i + 1, rfl, by omega, rfl, rfl⟩, ⟨rfl, rfl, rfl, rfl, rfl, c_int (i64_in (by omega)), trivial⟩, ⟨rfl, rfl, rfl, trivial⟩, rfl⟩
      unfold lv
      dsimp only
      rw [if_pos (eq_of_beq s0), e2]
      rw [e2] at l
      rw [if_pos l]
    · have l := of_decide_eq_false l
      refine ⟨by omega, i32, i33, rfl, Xi (lf zs k2 n (i + 1)), hst _ ?_, cnt - (i + 1), _, _, by omega, ⟨i + 1, rfl, by omega, rfl, rfl⟩, ⟨rfl, rfl, rfl, rfl, rfl, c_int (i64_in (by omega)), trivial⟩, ⟨rfl, rfl, rfl, trivial⟩, rfl⟩
      unfold lv
      dsimp only
      rw [e2] at l
      rw [if_pos (eq_of_beq s0), if_neg l]
    · have l := of_decide_eq_true l
      refine ⟨(u64_bd _).1, by omega, i32, i33, rfl, Xi (lf zs k2 n (i + 1)), hst _ ?_, cnt - (i + 1), _, _, by omega, ⟨i + 1, rfl, by omega, rfl, rfl⟩, ⟨rfl, rfl, rfl, rfl, rfl, c_int (i64_in (by omega)), trivial⟩, ⟨rfl, rfl, rfl, trivial⟩, rfl⟩
      unfold lv
      dsimp only
      rw [if_neg (ne0 s0), if_pos (eq_of_beq s1), e2]
      rw [e2] at l
      rw [if_pos l]
    · have l := of_decide_eq_false l
      refine ⟨by omega, i32, i33, rfl, Xi (lf zs k2 n (i + 1)), hst _ ?_, cnt - (i + 1), _, _, by omega, ⟨i + 1, rfl, by omega, rfl, rfl⟩, ⟨rfl, rfl, rfl, rfl, rfl, c_int (i64_in (by omega)), trivial⟩, ⟨rfl, rfl, rfl, trivial⟩, rfl⟩
      unfold lv
      dsimp only
      rw [e2] at l
      rw [if_neg (ne0 s0), if_pos (eq_of_beq s1), if_neg l]
    · have l := of_decide_eq_true l
      refine ⟨(u64_bd _).1, by omega, i32, i33, rfl, Xi (lf zs k2 n (i + 1)), hst _ ?_, cnt - (i + 1), _, _, by omega, ⟨i + 1, rfl, by omega, rfl, rfl⟩, ⟨rfl, rfl, rfl, rfl, rfl, c_int (i64_in (by omega)), trivial⟩, ⟨rfl, rfl, rfl, trivial⟩, rfl⟩
      unfold lv
      dsimp only
      rw [if_neg (ne0 s0), if_neg (ne1 s1), e2]
      rw [e2] at l
      rw [if_pos l]
    · have l := of_decide_eq_false l
      refine ⟨by omega, i32, i33, rfl, Xi (lf zs k2 n (i + 1)), hst _ ?_, cnt - (i + 1), _, _, by omega, ⟨i + 1, rfl, by omega, rfl, rfl⟩, ⟨rfl, rfl, rfl, rfl, rfl, c_int (i64_in (by omega)), trivial⟩, ⟨rfl, rfl, rfl, trivial⟩, rfl⟩
      unfold lv
      dsimp only
      rw [e2] at l
      rw [if_neg (ne0 s0), if_neg (ne1 s1), if_neg l]
  · have h : ¬ 32 * (i : Int) < n := by have := of_decide_eq_false h; omega
    have hi : i = cnt := by have := (hc2 i); omega
    subst hi
    have hxi := Xi_iA (hlt i)
    have hN : nv (lf zs k2 n i) 32 < BB ^ 32 := nv_lt fun j hj => hlt i j hj
    rw [hxi]
    have hsg := sign_r (A := iA false (nv (lf zs k2 n i) 32)) (z := zN false (nv (lf zs k2 n i) 32)) ⟨_, _, hN, rfl, rfl⟩
    generalize nv (lf zs k2 n i) 32 = N at *
    generalize zN false N = z at *
    have nl : 0 + 0 < 33 := Nat.zero_lt_succ _
    cases neg
    · refine .inr ⟨_, _, _, O3 _ v 1000 rfl hv, ⟨rfl, trivial⟩, rfl, nofun, fun _ => ⟨nl, rfl, iA false N, set_neg _ _ _, iA_fits _ _, ?_, rfl, trivial⟩⟩
      rw [Bool.false_and]; rfl
    · refine .inr ⟨_, _, _, O3 _ v 1000 rfl hv, ⟨rfl, trivial⟩, rfl, fun _ => .inl ⟨_, hsg, nl, rfl, iA (sgn z != 0) N, set_neg _ _ _, iA_fits _ _, ?_, rfl, trivial⟩, nofun⟩
      rw [Bool.true_and]; rfl
end Go.Proofs.YtnfmpddhcjkjbaaGreatDoor
