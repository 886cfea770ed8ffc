/- walks: products; no condition. -/
import Derived.Test.YtnfmpddhcjkjbaaGreatDoorV5
import Derived.Test.YtnfmpddhcjkjbaaGreatDoorLng
namespace Go.Proofs.YtnfmpddhcjkjbaaGreatDoor
open Go Go.RowKit Go.SX
theorem u64_in {x : Int} (h : 0 ≤ x ∧ x < 18446744073709551616) : IntKind.u64.wrap x = x := by rw [u64_wrap]; omega
theorem u32_in {x : Int} (h : 0 ≤ x ∧ x < 4294967296) : IntKind.u32.wrap x = x := by rw [u32_wrap]; omega
/-- the sum of a product and two limbs, in 64 bits -/
theorem mul64 {a b c d : Nat} (ha : a < BB) (hb : b < BB) (hc : c < BB) (hd : d < BB) :
    IntKind.u64.wrap (IntKind.u64.wrap (IntKind.u64.wrap (IntKind.u64.wrap (a : Int) * IntKind.u64.wrap (b : Int)) + IntKind.u64.wrap (c : Int)) + (d : Int)) = ((a * b + c + d : Nat) : Int) := by
  have h := mul_lt ha hb hc hd
  rw [BB_eq] at *
  have e : ((a : Int) * b) = ((a * b : Nat) : Int) := by simp
  rw [u64_in (x := (a : Int)) (by omega), u64_in (x := (b : Int)) (by omega), u64_in (x := (c : Int)) (by omega), e]
  generalize a * b = p at *
  rw [u64_in (x := (p : Int)) (by omega), u64_in (x := (p : Int) + c) (by omega), u64_in (by omega)]
  omega
theorem lA_put {G : Nat → Nat} {n i v : Nat} {x y : Int} (hx : x = (i : Nat)) (hy : y = (v : Nat)) : (lA G n).setIfInBounds x.toNat (.int .u32 y) = lA (fun k => if k = i then v else G k) n := by
  subst hx; subst hy; exact lA_set G n i v
theorem shr32 (x : Nat) : ((x : Int)).fdiv (2 ^ 32) = ((x / BB : Nat) : Int) := by rw [sh_nat x 32]; rfl
theorem lA_extract (F : Nat → Nat) {n off k : Nat} (h : off + k ≤ n) : (lA F n).extract off (off + k) = lA (fun i => F (off + i)) k := by
  apply Array.ext_getElem?
  intro i
  rw [Array.getElem?_extract]
  by_cases hi : i < k
  · rw [lA_get _ hi, if_pos (by rw [lA_size]; omega), lA_get F (by omega)]
  · rw [if_neg (by rw [lA_size]; omega), Array.getElem?_eq_none (by rw [lA_size]; omega)]
set_option smartUnfolding false in
set_option maxRecDepth 100000 in
theorem times_own {N M : Nat} (hN : N < BB ^ 32) (hM : M < BB ^ 32) (E : Env) (hE : E.P = Tryz.prog) (d e : Key) (hde : d ≠ e) : Own E 121 [SV.ptr d 0, SV.ptr e 0] [(d, Blk.row 121 32 (mA N)), (e, Blk.row 121 32 (mA M))] (SV.c (.tuple #[.agg (mA ((N * M) % BB ^ 32)), .bool (decide (N * M < BB ^ 32))])) [(d, Blk.row 121 32 (mA N)), (e, Blk.row 121 32 (mA M))] := by
  obtain ⟨n, hn, hu⟩ := used_ex hN
  obtain ⟨m, hm, hv⟩ := used_ex hM
  refine sx_own2 tt_ok mixed at121 E hE d e hde (121, 32, mA N, mA N) (121, 32, mA M, mA M) [SV.ptr 1000 0, SV.ptr 1001 0] _ rfl rfl fun w b b' hO => ?_
  refine .inr ⟨_, _, _, used_own hu hN _ rfl _, ⟨rfl, trivial⟩, rfl, .inr ⟨_, _, _, used_own hv hM _ rfl _, ⟨rfl, trivial⟩, rfl, ?_⟩⟩
  refine ⟨fun q f mm => ∃ (i : Nat) (F : Nat → Nat), q = n - i ∧ i ≤ n ∧ MulO N M m i F ∧ f = [(0, SV.ptr 1000 0), (1, SV.ptr 1001 0), (4, SV.ptr 4 0), (5, SV.c (.bool false)), (6, SV.ptr 6 0), (8, SV.c (.int .i64 m)), (17, SV.c (.int .i64 n)), (18, SV.c (.int .i64 i))] ∧ mm = [(1000, Blk.row 121 32 (mA N)), (1001, Blk.row 121 32 (mA M)), (4, Blk.row 121 32 (lA (fun _ => 0) 32)), (6, Blk.row 104 64 (lA F 64))], n, ⟨_, _, ⟨0, fun _ => 0, rfl, Nat.zero_le _, MulO.start N M m, rfl, rfl⟩, ⟨rfl, rfl, rfl, rfl, rfl, rfl, rfl, rfl, trivial⟩, ⟨rfl, rfl, rfl, rfl, trivial⟩, rfl⟩, ?_⟩
  rintro q f mm ⟨i, F, rfl, hi, hF, rfl, rfl⟩
  refine ⟨fun h => ?_, fun h => ?_⟩
  · have hin : i < n := by have := of_decide_eq_true h; omega
    refine ⟨fun q f mm => ∃ (j c : Nat) (G : Nat → Nat), q = m - j ∧ j ≤ m ∧ MulI N M m i j F G c ∧ f = [(0, SV.ptr 1000 0), (1, SV.ptr 1001 0), (4, SV.ptr 4 0), (5, SV.c (.bool false)), (6, SV.ptr 6 0), (8, SV.c (.int .i64 m)), (17, SV.c (.int .i64 n)), (18, SV.c (.int .i64 i)), (9, SV.c (.int .i64 i)), (10, SV.c (.int .u64 c)), (21, SV.c (.int .i64 m)), (22, SV.c (.int .i64 j))] ∧ mm = [(1000, Blk.row 121 32 (mA N)), (1001, Blk.row 121 32 (mA M)), (4, Blk.row 121 32 (lA (fun _ => 0) 32)), (6, Blk.row 104 64 (lA G 64))], m, ⟨_, _, ⟨0, 0, F, rfl, Nat.zero_le _, hF.row, rfl, rfl⟩, ⟨rfl, rfl, rfl, rfl, rfl, rfl, rfl, rfl, rfl, rfl, rfl, rfl, trivial⟩, ⟨rfl, rfl, rfl, rfl, trivial⟩, rfl⟩, ?_⟩
    rintro q f mm ⟨j, c, G, rfl, hj, hG, rfl, rfl⟩
    refine ⟨fun h2 => ?_, fun h2 => ?_⟩
    · have hjm : j < m := by have := of_decide_eq_true h2; omega
      have e1 : IntKind.i64.wrap ((i : Int) + j) = ((i + j : Nat) : Int) := by rw [i64_in (by omega)]; omega
      have gN := mA_get (N := N) (show i < 32 by omega)
      have gM := mA_get (N := M) (show j < 32 by omega)
      have gC : (lA G 64)[(IntKind.i64.wrap ((i : Int) + j)).toNat]? = some (.int .u32 (G (i + j) : Nat)) := by rw [e1]; exact lA_get G (by omega)
      have eM := mul64 (dg_lt N i) (dg_lt M j) (hG.lt (i + j)) hG.carry
      have hlt := mul_lt (dg_lt N i) (dg_lt M j) (hG.lt (i + j)) hG.carry
      refine ⟨by omega, by show (i : Int) < 32; omega, _, gN, by omega, by show (j : Int) < 32; omega, _, gM, by rw [e1]; omega, by rw [e1]; show ((i + j : Nat) : Int) < 64; omega, _, gC, by kernel_rfl, by decide, by rw [e1]; omega, by rw [e1]; show ((i + j : Nat) : Int) < 64; omega, by rw [e1]; show i + j < 64; omega, rfl, _, lA_put e1 (v := (dg N i * dg M j + G (i + j) + c) % BB) (by rw [eM, u32_wrap, BB_eq]; rfl), ?_⟩
      refine ⟨m - (j + 1), _, _, by omega, ⟨j + 1, _, _, rfl, by omega, hG.step, rfl, rfl⟩, ⟨rfl, rfl, rfl, rfl, rfl, rfl, rfl, rfl, rfl, ?_, rfl, c_int (by rw [i64_in (by omega)]; rfl), trivial⟩, ⟨rfl, rfl, rfl, rfl, trivial⟩, rfl⟩
      exact c_int (by rw [eM]; exact shr32 _)
    · have : j = m := by have := of_decide_eq_false h2; omega
      subst this
      have e1 : IntKind.i64.wrap ((i : Int) + j) = ((i + j : Nat) : Int) := by rw [i64_in (by omega)]; omega
      have hcc := hG.carry
      rw [BB_eq] at hcc
      refine ⟨by rw [e1]; omega, by rw [e1]; show ((i + j : Nat) : Int) < 64; omega, by rw [e1]; show i + j < 64; omega, rfl, _, lA_put e1 (v := c) (u32_in (by omega)), ?_⟩
      exact ⟨n - (i + 1), _, _, by omega, ⟨i + 1, _, rfl, by omega, hG.done hF hv.1, rfl, rfl⟩, ⟨rfl, rfl, rfl, rfl, rfl, rfl, rfl, c_int (by rw [i64_in (by omega)]; rfl), trivial⟩, ⟨rfl, rfl, rfl, rfl, trivial⟩, rfl⟩
  · have : i = n := by have := of_decide_eq_false h; omega
    subst this
    obtain ⟨h1, h2, h3⟩ := mul_low hF.lt (hF.full hu.1 (by omega))
    have e1 : (lA F 64).extract 0 (0 + 32) = mA ((N * M) % BB ^ 32) := by
      rw [lA_extract F (by omega)]
      exact lA_congr fun k hk => by rw [Nat.zero_add]; exact h1 k hk
    have e2 : (lA F 64).extract 32 (32 + 32) = mA ((N * M) / BB ^ 32) := by
      rw [lA_extract F (by omega)]
      exact lA_congr fun k hk => h2 k hk
    refine ⟨by decide, by decide, by decide, by decide, by decide, by decide, _, e1, by decide, by decide, by decide, by decide, by decide, by decide, _, e2, mA 0, some_eq mA_zero, _, eql_mag rfl h3 zero_lt, mA_fits _, by kernel_rfl, tup2 rfl (bv ?_), rfl, rfl, trivial⟩
    rw [Bool.eq_iff_iff]
    simp only [decide_eq_true_eq]
    exact Nat.div_eq_zero_iff_lt (pow_pos' 32)
theorem zN_mul (x y : Int) : zN (decide (x < 0) != decide (y < 0)) (x.natAbs * y.natAbs) = x * y := by
  unfold zN
  rw [Int.natCast_mul]
  by_cases hx : x < 0 <;> by_cases hy : y < 0
  · have h1 : (x.natAbs : Int) = -x := by omega
    have h2 : (y.natAbs : Int) = -y := by omega
    simp [hx, hy, h1, h2, Int.neg_mul, Int.mul_neg]
  · have h1 : (x.natAbs : Int) = -x := by omega
    have h2 : (y.natAbs : Int) = y := by omega
    simp [hx, hy, h1, h2, Int.neg_mul, Int.mul_neg]
  · have h1 : (x.natAbs : Int) = x := by omega
    have h2 : (y.natAbs : Int) = -y := by omega
    simp [hx, hy, h1, h2, Int.neg_mul, Int.mul_neg]
  · have h1 : (x.natAbs : Int) = x := by omega
    have h2 : (y.natAbs : Int) = y := by omega
    simp [hx, hy, h1, h2, Int.neg_mul, Int.mul_neg]
set_option smartUnfolding false in
set_option maxRecDepth 100000 in
theorem mul_z {A B : Array Value} {x y : Int} (hA : IsI A x) (hB : IsI B y) : Pure Tryz.prog 87 [SV.c (.agg A), SV.c (.agg B)] (fitR (x * y)) := by
  refine sx_pure tt_ok mixed at87 _ _ rfl rfl fun w => ?_
  have hx := hA.lt
  have hy := hB.lt
  have hab : (x * y).natAbs = x.natAbs * y.natAbs := Int.natAbs_mul x y
  refine ⟨hA.size, hB.size, .inl ⟨_, split_z hA, mA_fits _, .inl ⟨_, split_z hB, mA_fits _, .inr ⟨_, _, _, times_own hx hy _ rfl _ _ (by decide), ⟨rfl, rfl, trivial⟩, rfl, mA_fits _, fun h2 => ?_, fun h2 => ?_⟩⟩⟩⟩
  · have h2 : ¬ (x.natAbs * y.natAbs < BB ^ 32) := by simpa using h2
    exact ⟨ti25.zero, rfl, by rw [ti_zero]; exact eA_fits _, by rw [fitR, if_neg (by rw [hab]; exact h2), ← ti_zero]; rfl, trivial⟩
  · have h2 : x.natAbs * y.natAbs < BB ^ 32 := by simpa using h2
    have hm : Pure Tryz.prog 120 [SV.c (.bool (decide (x < 0) != decide (y < 0))), SV.c (.agg (mA (x.natAbs * y.natAbs % BB ^ 32)))] (.agg (eA (x * y))) := by
      rw [Nat.mod_eq_of_lt h2, ← zN_mul]; exact made_z _ _ h2
    exact .inl ⟨_, hm, eA_fits _, by rw [fitR, if_pos (by rw [hab]; exact h2)]; rfl, trivial⟩
theorem or64 {A B : Nat} (hA : A < 18446744073709551616) (hB : B < 18446744073709551616) : IntKind.u64.wrap (((BitVec.ofInt IntKind.u64.bits (A : Int) ||| BitVec.ofInt IntKind.u64.bits (B : Int)).toNat : Nat) : Int) = ((A ||| B : Nat) : Int) := by
  have h : A ||| B < 18446744073709551616 := Nat.or_lt_two_pow (n := 64) hA hB
  rw [BitVec.toNat_or, BitVec.ofInt_natCast, BitVec.ofInt_natCast, BitVec.toNat_ofNat, BitVec.toNat_ofNat]
  show IntKind.u64.wrap (((A % 18446744073709551616 ||| B % 18446744073709551616 : Nat)) : Int) = _
  rw [Nat.mod_eq_of_lt hA, Nat.mod_eq_of_lt hB, u64_in (by omega)]
theorem or32 {A B : Nat} (hA : A < 4294967296) (hB : B < 4294967296) : IntKind.u32.wrap (((BitVec.ofInt IntKind.u32.bits (A : Int) ||| BitVec.ofInt IntKind.u32.bits (B : Int)).toNat : Nat) : Int) = ((A ||| B : Nat) : Int) := by
  have h : A ||| B < 4294967296 := Nat.or_lt_two_pow (n := 32) hA hB
  rw [BitVec.toNat_or, BitVec.ofInt_natCast, BitVec.ofInt_natCast, BitVec.toNat_ofNat, BitVec.toNat_ofNat]
  show IntKind.u32.wrap (((A % 4294967296 ||| B % 4294967296 : Nat)) : Int) = _
  rw [Nat.mod_eq_of_lt hA, Nat.mod_eq_of_lt hB, u32_in (by omega)]
/-- two limbs side by side -/
theorem hilo {h l : Nat} {x y : Int} (hh : h < BB) (hl : l < BB) (hx : x = IntKind.u64.wrap (IntKind.u64.wrap (h : Int) * 2 ^ min (Int.toNat 32) IntKind.u64.bits)) (hy : y = IntKind.u64.wrap (l : Int)) :
    IntKind.u64.wrap (((BitVec.ofInt IntKind.u64.bits x ||| BitVec.ofInt IntKind.u64.bits y).toNat : Nat) : Int) = ((h * BB + l : Nat) : Int) := by
  rw [BB_eq] at *
  have e1 : x = ((h * 4294967296 : Nat) : Int) := by
    rw [hx, u64_in (x := (h : Int)) (by omega)]
    show IntKind.u64.wrap ((h : Int) * 4294967296) = _
    rw [u64_in (by omega)]; omega
  have e2 : y = (l : Int) := by rw [hy, u64_in (by omega)]
  rw [e1, e2, or64 (by omega) (by omega), show 4294967296 = 2 ^ 32 from rfl, or_disj hl]
set_option smartUnfolding false in
set_option maxRecDepth 100000 in
theorem div32_pure (x y z : Nat) (hx : x < z) (hy : y < BB) (hz : z < BB) : Pure Tryz.prog 177 [SV.c (.int .u32 x), SV.c (.int .u32 y), SV.c (.int .u32 z)] (.tuple #[.int .u32 ((x * BB + y) / z : Nat), .int .u32 ((x * BB + y) % z : Nat)]) := by
  refine sx_pure tt_ok mixed at177 _ _ rfl rfl fun w => ?_
  have hxb : x < BB := by omega
  have hq : (x * BB + y) / z < BB := by
    rw [Nat.div_lt_iff_lt_mul (by omega)]
    have : (x + 1) * BB ≤ z * BB := Nat.mul_le_mul_right _ hx
    rw [Nat.mul_comm BB]; rw [Nat.add_mul, Nat.one_mul] at this; omega
  have hr : (x * BB + y) % z < z := Nat.mod_lt _ (by omega)
  have hlt : x * BB + y < BB * BB := by
    have : (x + 1) * BB ≤ BB * BB := Nat.mul_le_mul_right _ hxb
    rw [Nat.add_mul, Nat.one_mul] at this; omega
  have key := hilo hxb hy rfl rfl
  have e3 : IntKind.u64.wrap (z : Int) = z := by rw [BB_eq] at hz; exact u64_in (by omega)
  refine ⟨fun h1 => ⟨fun h2 => ?_, fun h2 => ?_⟩, fun h1 => ?_⟩
  · exfalso
    have := of_decide_eq_true h2
    omega
  · have hz0 : IntKind.u64.wrap (z : Int) ≠ 0 := by rw [e3]; omega
    refine ⟨by decide, hz0, hz0, by kernel_rfl, tup2 (iv ?_) (iv ?_), trivial⟩
    · rw [key, e3, ← Int.ofNat_tdiv]
      clear key e3 hr
      generalize (x * BB + y) / z = q at *
      rw [BB_eq] at hq
      rw [u64_in (by omega), u32_in (by omega)]
    · rw [key, e3, ← Int.ofNat_tmod, u32_in (by clear key e3; rw [BB_eq] at *; omega)]
  · exfalso
    have : (z : Int) = 0 := by simpa using h1
    omega
set_option smartUnfolding false in
set_option maxRecDepth 100000 in
theorem short_own {N x : Nat} (hN : N < BB ^ 32) (hx : x < BB) (hx0 : 0 < x) (E : Env) (hE : E.P = Tryz.prog) (d : Key) : Own E 148 [SV.ptr d 0, SV.c (.int .u32 x)] [(d, Blk.row 121 32 (mA N))] (SV.c (.int .u32 (N % x : Nat))) [(d, Blk.row 121 32 (mA (N / x)))] := by
  obtain ⟨n, hn, hu⟩ := used_ex hN
  refine sx_own1 tt_ok mixed at148 E hE d (121, 32, mA N, mA (N / x)) [SV.ptr 1000 0, SV.c (.int .u32 x)] _ rfl rfl fun w b hO => ?_
  refine .inr ⟨_, _, _, used_own hu hN _ rfl _, ⟨rfl, trivial⟩, rfl, ?_⟩
  have e0 : IntKind.i64.wrap ((n : Int) - 1) = (n : Int) - 1 := i64_in (by omega)
  refine ⟨fun k f m => k ≤ n ∧ f = [(0, SV.ptr 1000 0), (1, SV.c (.int .u32 x)), (4, SV.c (.int .u32 0)), (5, SV.c (.int .u32 (N / BB ^ k % x : Nat))), (6, SV.c (.int .i64 ((k : Int) - 1)))] ∧ m = [(1000, Blk.row 121 32 (lA (fun j => if j < k then dg N j else dg (N / x) j) 32))], n, ⟨_, _, ⟨Nat.le_refl _, rfl, rfl⟩, ⟨rfl, rfl, rfl, c_int ?_, c_int e0, trivial⟩, ⟨row_eq ?_, trivial⟩, rfl⟩, ?_⟩
  · rw [Nat.div_eq_of_lt hu.1, Nat.zero_mod]; rfl
  · refine lA_congr fun i hi => ?_
    by_cases h : i < n
    · rw [if_pos h]
    · rw [if_neg h, dg_of_lt hu.1 (by omega), dg_div_hi hu.1 (by omega)]
  rintro k f m ⟨hk, rfl, rfl⟩
  refine ⟨fun h => ?_, fun h => ?_⟩
  · have h1 : (k : Int) - 1 ≥ 0 := of_decide_eq_true h
    obtain ⟨j, rfl⟩ : ∃ j, k = j + 1 := ⟨k - 1, by omega⟩
    have ej : ((j + 1 : Nat) : Int) - 1 = (j : Nat) := by omega
    have hg : (lA (fun i => if i < j + 1 then dg N i else dg (N / x) i) 32)[(((j + 1 : Nat) : Int) - 1).toNat]? = some (.int .u32 (dg N j : Nat)) := by
      rw [ej, Int.toNat_natCast, lA_get _ (by omega), if_pos (by omega)]
    have hr : N / BB ^ (j + 1) % x < x := Nat.mod_lt _ hx0
    refine ⟨h1, by show ((j + 1 : Nat) : Int) - 1 < 32; omega, _, hg, .inl ⟨_, div32_pure _ _ x hr (dg_lt N j) hx, h1, by show ((j + 1 : Nat) : Int) - 1 < 32; omega, by show (((j + 1 : Nat) : Int) - 1).toNat < 32; omega, rfl, _, lA_put ej rfl, by kernel_rfl, ?_⟩⟩
    refine ⟨j, _, _, by omega, ⟨by omega, rfl, rfl⟩, ⟨rfl, rfl, rfl, c_int (by rw [short_r N x j]), c_int (by rw [i64_in (by omega)]; omega), trivial⟩, ⟨row_eq (lA_congr fun i hi => ?_), trivial⟩, rfl⟩
    rw [← short_q N x j hx0]
    by_cases e : i = j
    · subst e; simp
    · by_cases e2 : i < j
      · simp [e, e2, show i < j + 1 by omega]
      · simp [e, e2, show ¬ i < j + 1 by omega]
  · have h1 : ¬ ((k : Int) - 1 ≥ 0) := of_decide_eq_false h
    obtain rfl : k = 0 := by omega
    exact ⟨by rw [Nat.pow_zero, Nat.div_one]; rfl, row_eq (lA_congr fun i hi => by simp), trivial⟩
end Go.Proofs.YtnfmpddhcjkjbaaGreatDoor
