/- walks: sums and products of pairs; no condition. -/
import Derived.Test.YtnfmpddhcjkjbaaGreatDoorV10
namespace Go.Proofs.YtnfmpddhcjkjbaaGreatDoor
open Go Go.RowKit Go.SX
set_option smartUnfolding false in
set_option maxRecDepth 100000 in
theorem combine_new (m : Bool) (E : Env) (hE : E.P = Tryz.prog) (d : Key) : Own E 105 [SV.c (.bool m)] [] (SV.clo 141 [d]) [(d, Blk.row 4 1 #[.bool m])] := by
  refine sx_new tt_ok mixed at105 E hE [SV.c (.bool m)] 2 141 d 1 4 1 #[.bool m] rfl rfl rfl fun w => ?_
  exact ⟨rfl, rfl, rfl⟩
/-- the second number of a sum or a difference -/
def sg (m : Bool) (y : Int) : Int := if m then -y else y
set_option smartUnfolding false in
set_option maxRecDepth 100000 in
set_option maxHeartbeats 1000000 in
theorem comb1_z {r s : RQ} (hr : r.In) (hs : s.In) (m : Bool) (h1 : (r.p * s.q).natAbs < BB ^ 32) (h2 : (s.p * r.q).natAbs < BB ^ 32) (h3 : (r.q * s.q).natAbs < BB ^ 32) (h4 : (r.p * s.q + sg m (s.p * r.q)).natAbs < BB ^ 32) (E : Env) (hE : E.P = Tryz.prog) (d : Key) :
    Own E 141 [SV.c (.agg r.A), SV.c (.agg s.A), SV.ptr d 0] [(d, Blk.row 4 1 #[.bool m])] (SV.c (.tuple #[.agg (eA (r.p * s.q + sg m (s.p * r.q))), .agg (eA (r.q * s.q))])) [(d, Blk.row 4 1 #[.bool m])] := by
  refine sx_own1 tt_ok mixed at141 E hE d (4, 1, #[.bool m], #[.bool m]) [SV.c (.agg r.A), SV.c (.agg s.A), SV.ptr 1000 0] _ rfl rfl fun w b hO => ?_
  refine ⟨r.A_size, s.A_size, by decide, _, s.cat_l, by decide, _, r.cat_r, .inl ⟨_, product_z hs.num hr.den h2, eA_fits _, _, rfl, fun hm => ?_, fun hm => ?_⟩⟩
  · have hm : m = true := hm
    subst hm
    have ha := add_z (isI_e h1) (isI_e (z := sg true (s.p * r.q)) (by show (-(s.p * r.q)).natAbs < _; rw [Int.natAbs_neg]; exact h2))
    rw [fitR, if_pos h4] at ha
    have hn : Pure Tryz.prog 126 [SV.c (.agg (eA (s.p * r.q)))] (.agg (eA (sg true (s.p * r.q)))) := neg_z (isI_e h2)
    exact .inl ⟨_, hn, eA_fits _, by decide, _, r.cat_l, by decide, _, s.cat_r, .inl ⟨_, product_z hr.num hs.den h1, .inl ⟨_, ha, eA_fits _, by kernel_rfl, by decide, _, r.cat_r, by decide, _, s.cat_r, .inl ⟨_, product_z hr.den hs.den h3, eA_fits _, eA_fits _, by kernel_rfl, rfl, rfl, trivial⟩⟩⟩⟩
  · have hm : m = false := hm
    subst hm
    have ha := add_z (isI_e h1) (isI_e (z := sg false (s.p * r.q)) h2)
    rw [fitR, if_pos h4] at ha
    exact ⟨by decide, _, r.cat_l, by decide, _, s.cat_r, .inl ⟨_, product_z hr.num hs.den h1, .inl ⟨_, ha, eA_fits _, by kernel_rfl, by decide, _, r.cat_r, by decide, _, s.cat_r, .inl ⟨_, product_z hr.den hs.den h3, eA_fits _, eA_fits _, by kernel_rfl, rfl, rfl, trivial⟩⟩⟩⟩
set_option smartUnfolding false in
set_option maxRecDepth 100000 in
set_option maxHeartbeats 1000000 in
theorem calcC_z {r s : RQ} (hr : r.In) (hs : s.In) {g : FuncId} {x y : Int} {ty : TypeId} {n0 : Nat} {C : Array Value} (hg : ∀ E : Env, E.P = Tryz.prog → ∀ d, r.ok = true → s.ok = true → Own E g [SV.c (.agg r.A), SV.c (.agg s.A), SV.ptr d 0] [(d, Blk.row ty n0 C)] (SV.c (.tuple #[.agg (eA x), .agg (eA y)])) [(d, Blk.row ty n0 C)]) (hx : r.ok = true → s.ok = true → x.natAbs < BB ^ 32) (hy : r.ok = true → s.ok = true → y.natAbs < BB ^ 32) (E : Env) (hE : E.P = Tryz.prog) (d : Key) :
    Own E 92 [SV.c (.agg r.A), SV.c (.agg s.A), SV.clo g [d]] [(d, Blk.row ty n0 C)] (SV.c (resQ (if r.ok && s.ok then mkQ x y else (.of 0 0, 20)))) [(d, Blk.row ty n0 C)] := by
  have hd : [SV.c (.agg r.A), SV.c (.agg s.A), SV.clo g [d]] = [SV.c (.agg r.A), SV.c (.agg s.A), SV.clo g [1000]].map (renS [⟨1000, d, ty, n0, C, C⟩]) := rfl
  rw [hd]
  refine sx_own1 tt_ok mixed at92 E hE d (ty, n0, C, C) [SV.c (.agg r.A), SV.c (.agg s.A), SV.clo g [1000]] _ rfl rfl fun w b hO => ?_
  refine ⟨r.A_size, s.A_size, .inl ⟨_, valid_raw hr, fun h1 => .inl ⟨_, valid_raw hs, fun h2 => ?_, fun h2 => ?_⟩, fun h1 => ?_⟩⟩
  · have h2 := bnt h2
    refine ⟨ti27.zero, rfl, (RQ.of 0 0).A_fits, ?_, rfl, trivial⟩
    rw [h2, Bool.and_false, if_neg Bool.false_ne_true]; rfl
  · have h1 := of_bnf h1
    have h2 := bnf h2
    have h4 := hx h1 h2
    have h5 := hy h1 h2
    refine .inr ⟨_, _, _, hg _ rfl _ h1 h2, ⟨rfl, trivial⟩, rfl, .inl ⟨_, make_z (isI_e h4) (isI_e h5), RQ.A_fits _, ?_, rfl, trivial⟩⟩
    rw [h1, h2, Bool.and_true, if_pos rfl]; rfl
  · have h1 := bnt h1
    refine ⟨fun _ => ⟨ti27.zero, rfl, (RQ.of 0 0).A_fits, ?_, rfl, trivial⟩, nofun⟩
    rw [h1, Bool.false_and, if_neg Bool.false_ne_true]; rfl
def sumQ (m : Bool) (r s : RQ) : RQ × Int := if r.ok && s.ok then mkQ (r.p * s.q + sg m (s.p * r.q)) (r.q * s.q) else (.of 0 0, 20)
set_option exponentiation.threshold 2000 in
theorem sum_lt {r s : RQ} (h1 : r.ok = true) (h2 : s.ok = true) (m : Bool) : (r.p * s.q).natAbs < BB ^ 32 ∧ (s.p * r.q).natAbs < BB ^ 32 ∧ (r.q * s.q).natAbs < BB ^ 32 ∧ (r.p * s.q + sg m (s.p * r.q)).natAbs < BB ^ 32 := by
  have k1 := RQ.ok_bits h1
  have k2 := RQ.ok_bits h2
  refine ⟨mul_lt' k1.1 k2.2.1, mul_lt' k2.1 k1.2.1, mul_lt' k1.2.1 k2.2.1, ?_⟩
  have e1 := bits_mul k1.1 k2.2.1
  have e2 := bits_mul k2.1 k1.2.1
  have e3 : (sg m (s.p * r.q)).natAbs = (s.p * r.q).natAbs := by cases m <;> simp [sg]
  refine Nat.lt_trans ?_ hp961
  have := Int.natAbs_add_le (r.p * s.q) (sg m (s.p * r.q))
  omega
theorem sumC_z {r s : RQ} (hr : r.In) (hs : s.In) (m : Bool) (E : Env) (hE : E.P = Tryz.prog) (d : Key) :
    Own E 92 [SV.c (.agg r.A), SV.c (.agg s.A), SV.clo 141 [d]] [(d, Blk.row 4 1 #[.bool m])] (SV.c (resQ (sumQ m r s))) [(d, Blk.row 4 1 #[.bool m])] :=
  calcC_z hr hs (fun E hE d h1 h2 => comb1_z hr hs m (sum_lt h1 h2 m).1 (sum_lt h1 h2 m).2.1 (sum_lt h1 h2 m).2.2.1 (sum_lt h1 h2 m).2.2.2 E hE d) (fun h1 h2 => (sum_lt h1 h2 m).2.2.2) (fun h1 h2 => (sum_lt h1 h2 m).2.2.1) E hE d
theorem sumQ_in (m : Bool) (r s : RQ) : (sumQ m r s).1.In := by
  unfold sumQ; split
  · exact mkQ_in _ _
  · exact ⟨zero_lt, zero_lt⟩
theorem mulQ_in (r s : RQ) : (mulQ r s).1.In := by
  unfold mulQ; split
  · exact mkQ_in _ _
  · exact ⟨zero_lt, zero_lt⟩
set_option smartUnfolding false in
set_option maxRecDepth 100000 in
theorem subR_z {r s : RQ} (hr : r.In) (hs : s.In) : Pure Tryz.prog 56 [SV.c (.agg r.A), SV.c (.agg s.A)] (resQ (sumQ true r s)) := by
  refine sx_pure tt_ok mixed at56 _ _ rfl rfl fun w => ?_
  refine ⟨r.A_size, s.A_size, .inr ⟨_, _, _, combine_new true _ rfl 500, trivial, rfl, .inr ⟨_, _, _, sumC_z hr hs true _ rfl _, ⟨rfl, trivial⟩, rfl, RQ.A_fits _, by kernel_rfl, rfl, trivial⟩⟩⟩
set_option smartUnfolding false in
set_option maxRecDepth 100000 in
theorem signR_z {r : RQ} (hr : r.In) : Pure Tryz.prog 145 [SV.c (.agg r.A)] (.tuple #[.int .i64 (if r.ok then sgn r.p else 0), .int .i64 (if r.ok then 0 else 20)]) := by
  refine sx_pure tt_ok mixed at145 _ _ rfl rfl fun w => ?_
  refine ⟨r.A_size, .inl ⟨_, valid_raw hr, fun h => ?_, fun h => ⟨by decide, _, r.cat_l, .inl ⟨_, sign_z hr.num, ?_, trivial⟩⟩⟩⟩
  · have h := bnt h
    refine ⟨?_, trivial⟩
    rw [h]; rfl
  · have h := bnf h
    rw [h]; rfl
set_option smartUnfolding false in
set_option maxRecDepth 100000 in
theorem cmpR_z {r s : RQ} (hr : r.In) (hs : s.In) : Pure Tryz.prog 146 [SV.c (.agg r.A), SV.c (.agg s.A)] (.tuple #[.int .i64 (if r.ok && s.ok then cmpI (r.p * s.q) (s.p * r.q) else 0), .int .i64 (if r.ok && s.ok then 0 else 20)]) := by
  refine sx_pure tt_ok mixed at146 _ _ rfl rfl fun w => ?_
  refine ⟨r.A_size, s.A_size, .inl ⟨_, valid_raw hr, fun h1 => .inl ⟨_, valid_raw hs, fun h2 => ?_, fun h2 => ?_⟩, fun h1 => ?_⟩⟩
  · have h2 := bnt h2
    refine ⟨?_, trivial⟩
    rw [h2, Bool.and_false]; rfl
  · have h1 := of_bnf h1
    have h2 := bnf h2
    obtain ⟨k1, k2, k3, k4⟩ := sum_lt h1 h2 false
    refine ⟨by decide, _, r.cat_l, by decide, _, s.cat_r, .inl ⟨_, product_z hr.num hs.den k1, by decide, _, s.cat_l, by decide, _, r.cat_r, .inl ⟨_, product_z hs.num hr.den k2, .inl ⟨_, cmp_z (isI_e k1) (isI_e k2), by kernel_rfl, ?_, trivial⟩⟩⟩⟩
    rw [h1, h2]; rfl
  · have h1 := bnt h1
    refine ⟨fun _ => ⟨?_, trivial⟩, nofun⟩
    rw [h1]; rfl
end Go.Proofs.YtnfmpddhcjkjbaaGreatDoor
