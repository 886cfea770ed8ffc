/- Plain: long division on limbs; no condition. -/
import Derived.Test.YtnfmpddhcjkjbaaGreatDoorPln
namespace Go.Proofs.YtnfmpddhcjkjbaaGreatDoor

/-- what the long division holds before limb k - 1 of the quotient -/
def wN (U V k : Nat) : Nat := U % BB ^ k + BB ^ k * (U / BB ^ k % V)
/-- what is divided at limb j -/
def tN (U V j : Nat) : Nat := U / BB ^ (j + 1) % V * BB + dg U j
theorem mod_succ (U j : Nat) : U % BB ^ (j + 1) = U % BB ^ j + BB ^ j * dg U j := by
  rw [Nat.mod_pow_succ]; rfl
theorem wN_succ (U V j : Nat) : wN U V (j + 1) = U % BB ^ j + BB ^ j * tN U V j := by
  unfold wN tN
  rw [mod_succ, Nat.pow_succ, Nat.mul_add, Nat.mul_assoc, Nat.mul_comm BB (U / (BB ^ j * BB) % V)]
  omega
theorem wN_eq (U V j : Nat) : wN U V j = U % BB ^ j + BB ^ j * (tN U V j % V) := by
  unfold wN tN
  rw [short_r]
theorem tN_lt {U V : Nat} (hV : 0 < V) (j : Nat) : tN U V j < V * BB := by
  unfold tN
  have hr := Nat.mod_lt (U / BB ^ (j + 1)) hV
  have hd := dg_lt U j
  generalize U / BB ^ (j + 1) % V = r at *
  have : (r + 1) * BB ≤ V * BB := Nat.mul_le_mul_right _ hr
  rw [Nat.add_mul, Nat.one_mul] at this
  omega
theorem quo_dg {U V : Nat} (hV : 0 < V) (j : Nat) : dg (U / V) j = tN U V j / V := short_q U V j hV
theorem dg_high (l T j i : Nat) (h : l < BB ^ j) : dg (l + BB ^ j * T) (j + i) = dg T i := by
  unfold dg
  rw [Nat.pow_add, ← Nat.div_div_eq_div_mul, Nat.add_mul_div_left _ _ (pow_pos' j), Nat.div_eq_of_lt h, Nat.zero_add]
theorem dg_low (l T j i : Nat) (h : i < j) : dg (l + BB ^ j * T) i = dg l i := by
  unfold dg
  obtain ⟨k, rfl⟩ : ∃ k, j = i + (k + 1) := ⟨j - i - 1, by omega⟩
  rw [Nat.pow_add, Nat.mul_assoc, Nat.add_mul_div_left _ _ (pow_pos' i), Nat.pow_succ, Nat.mul_comm (BB ^ k) BB, Nat.mul_assoc, Nat.add_mul_mod_self_left]

/-! ### the estimate -/
section
variable {T V n : Nat}
/-- the state of the search for a limb of the quotient -/
structure Gue (T V n g rest : Nat) : Prop where
  eq : g * dg V (n - 1) + rest = dg T n * BB + dg T (n - 1)
  up : T < (g + 1) * V
  le : g ≤ BB + 1
theorem top2 (N : Nat) {n : Nat} (h : N < BB ^ (n + 1)) (hn : 1 ≤ n) : N = (dg N n * BB + dg N (n - 1)) * BB ^ (n - 1) + N % BB ^ (n - 1) := by
  obtain ⟨k, rfl⟩ : ∃ k, n = k + 1 := ⟨n - 1, by omega⟩
  have := nv_top2 (dg N) k
  rw [nv_dg_full h, nv_dg] at this
  exact this
theorem top3 (N : Nat) {n : Nat} (h : N < BB ^ (n + 1)) (hn : 2 ≤ n) : N = ((dg N n * BB + dg N (n - 1)) * BB + dg N (n - 2)) * BB ^ (n - 2) + N % BB ^ (n - 2) := by
  obtain ⟨k, rfl⟩ : ∃ k, n = k + 2 := ⟨n - 2, by omega⟩
  have := nv_top3 (dg N) k
  rw [nv_dg_full h, nv_dg] at this
  exact this
theorem T_lt (hT : T < V * BB) (hV : V < BB ^ n) : T < BB ^ (n + 1) := by
  rw [Nat.pow_succ]
  exact Nat.lt_of_lt_of_le hT (Nat.mul_le_mul_right _ (Nat.le_of_lt hV))
theorem dg_top {N n : Nat} (h : N < BB ^ (n + 1)) : dg N n = N / BB ^ n := by
  unfold dg
  rw [Nat.mod_eq_of_lt]
  rw [Nat.div_lt_iff_lt_mul (pow_pos' n), Nat.mul_comm, ← Nat.pow_succ]
  exact h
theorem dg_top' {N n : Nat} (h : N < BB ^ n) (hn : 1 ≤ n) : dg N (n - 1) = N / BB ^ (n - 1) := dg_top (by rw [show n - 1 + 1 = n by omega]; exact h)
theorem top_le_dg (hT : T < V * BB) (hV : V < BB ^ n) (hn : 1 ≤ n) : dg T n ≤ dg V (n - 1) := by
  rw [dg_top (T_lt hT hV), dg_top' hV hn]
  obtain ⟨k, rfl⟩ : ∃ k, n = k + 1 := ⟨n - 1, by omega⟩
  rw [Nat.add_sub_cancel, Nat.pow_succ, Nat.mul_comm, ← Nat.div_div_eq_div_mul]
  refine Nat.div_le_div_right ?_
  have : T / BB < V := by rw [Nat.div_lt_iff_lt_mul BB_pos]; exact hT
  omega
theorem V_top (hV : V < BB ^ n) (hn : 1 ≤ n) : V = dg V (n - 1) * BB ^ (n - 1) + V % BB ^ (n - 1) := by
  rw [dg_top' hV hn, Nat.mul_comm]; exact (Nat.div_add_mod _ _).symm
theorem V_top2 (hV : V < BB ^ n) (hn : 2 ≤ n) : V = (dg V (n - 1) * BB + dg V (n - 2)) * BB ^ (n - 2) + V % BB ^ (n - 2) := by
  have := top2 V (n := n - 1) (by rw [show n - 1 + 1 = n by omega]; exact hV) (by omega)
  rw [show n - 1 - 1 = n - 2 by omega] at this
  exact this
theorem gue_init (hT : T < V * BB) (hV : V < BB ^ n) (hn : 2 ≤ n) (hh : 2147483648 ≤ dg V (n - 1)) : Gue T V n ((dg T n * BB + dg T (n - 1)) / dg V (n - 1)) ((dg T n * BB + dg T (n - 1)) % dg V (n - 1)) := by
  have htop := top_le_dg hT hV (by omega)
  have hd := dg_lt T (n - 1)
  have hT2 := top2 T (T_lt hT hV) (by omega)
  have hV2 := V_top hV (by omega)
  have hl := Nat.mod_lt T (pow_pos' (n - 1))
  obtain ⟨x, hx0⟩ : ∃ x, dg T n * BB + dg T (n - 1) = x := ⟨_, rfl⟩
  have hxle : x < (BB + 2) * dg V (n - 1) := by
    rw [← hx0, Nat.add_mul, Nat.mul_comm BB]
    have := Nat.mul_le_mul_right BB htop
    rw [BB_eq] at *; omega
  have hx : x < (x / dg V (n - 1) + 1) * dg V (n - 1) := by
    rw [Nat.add_mul, Nat.one_mul, Nat.mul_comm]
    have := Nat.div_add_mod x (dg V (n - 1))
    have := Nat.mod_lt x (show 0 < dg V (n - 1) by omega)
    omega
  rw [hx0] at hT2 ⊢
  refine ⟨by rw [Nat.mul_comm, hx0]; exact Nat.div_add_mod _ _, kd_gt hT2 hV2 hl hx, ?_⟩
  have : x / dg V (n - 1) < BB + 2 := by rw [Nat.div_lt_iff_lt_mul (by omega)]; exact hxle
  omega
/-- the estimate is too large -/
theorem gue_over (hT : T < V * BB) (hV : V < BB ^ n) (hn : 2 ≤ n) {g rest : Nat} (h : Gue T V n g rest) (hc : 4294967295 < g ∨ rest * BB + dg T (n - 2) < g * dg V (n - 2)) : T < g * V := by
  rcases hc with hc | hc
  · have : BB * V ≤ g * V := Nat.mul_le_mul_right _ (by rw [BB_eq]; omega)
    rw [Nat.mul_comm BB] at this
    omega
  · have hT3 := top3 T (T_lt hT hV) hn
    have hV2 := V_top2 hV hn
    refine kd_gt hT3 hV2 (Nat.mod_lt _ (pow_pos' _)) ?_
    rw [← h.eq, Nat.add_mul, Nat.mul_add, Nat.mul_assoc]
    omega
theorem gue_down {g rest : Nat} (h : Gue T V n g rest) (h2 : T < g * V) : 1 ≤ g ∧ Gue T V n (g - 1) (rest + dg V (n - 1)) := by
  have hg : 1 ≤ g := by
    rcases Nat.eq_zero_or_pos g with e | e
    · subst e; omega
    · exact e
  obtain ⟨k, rfl⟩ : ∃ k, g = k + 1 := ⟨g - 1, by omega⟩
  refine ⟨hg, ⟨?_, by simpa using h2, ?_⟩⟩
  · have := h.eq
    rw [Nat.add_mul, Nat.one_mul] at this
    rw [Nat.add_sub_cancel]; omega
  · have := h.le; omega
/-- the estimate is good enough -/
theorem gue_le (hT : T < V * BB) (hV : V < BB ^ n) (hn : 2 ≤ n) (hh : 2147483648 ≤ dg V (n - 1)) {g rest : Nat} (h : Gue T V n g rest) (hg : g ≤ 4294967295) (hc : g * dg V (n - 2) ≤ rest * BB + dg T (n - 2)) : g * V ≤ T + V := by
  have hT3 := top3 T (T_lt hT hV) hn
  have hV2 := V_top2 hV hn
  refine kd_le hT3 hV2 (Nat.mod_lt _ (pow_pos' _)) ?_ ?_
  · rw [← h.eq, Nat.add_mul, Nat.mul_add, Nat.mul_assoc]
    omega
  · have : 2147483648 * BB ≤ dg V (n - 1) * BB := Nat.mul_le_mul_right _ hh
    rw [BB_eq] at *; omega
theorem gue_wide (hT : T < V * BB) (hV : V < BB ^ n) (hn : 2 ≤ n) {g rest : Nat} (h : Gue T V n g rest) (hr : 4294967295 < rest) : g ≤ 4294967295 ∧ g * dg V (n - 2) ≤ rest * BB + dg T (n - 2) := by
  have htop := top_le_dg hT hV (by omega)
  have hd := dg_lt T (n - 1)
  have hg : g ≤ 4294967295 := by
    refine Nat.le_of_not_lt fun hlt => ?_
    have h1 : BB * dg V (n - 1) ≤ g * dg V (n - 1) := Nat.mul_le_mul_right _ (by rw [BB_eq]; omega)
    have h2 := Nat.mul_le_mul_right BB htop
    have := h.eq
    rw [Nat.mul_comm BB (dg V (n - 1))] at h1
    rw [BB_eq] at *; omega
  refine ⟨hg, ?_⟩
  have h1 : g * dg V (n - 2) ≤ 4294967295 * 4294967295 := Nat.mul_le_mul hg (by have := dg_lt V (n - 2); rw [BB_eq] at this; omega)
  have h2 : 4294967296 * BB ≤ rest * BB := Nat.mul_le_mul_right _ (by omega)
  rw [BB_eq] at *; omega
end

/-! ### a multiple is taken away -/
/-- a window -/
def wv (f : Nat → Nat) (j i : Nat) : Nat := nv (fun t => f (j + t)) i
structure SubI (f0 : Nat → Nat) (V g j i : Nat) (f : Nat → Nat) (c b : Nat) : Prop where
  val : wv f j i + g * nv (dg V) i = wv f0 j i + (c + b) * BB ^ i
  low : ∀ k, k < j → f k = f0 k
  high : ∀ k, j + i ≤ k → f k = f0 k
  lt : ∀ k, f k < BB
  carry : c < BB
  bor : b ≤ 1
theorem SubI.start {f0 : Nat → Nat} (h : ∀ k, f0 k < BB) (V g j : Nat) : SubI f0 V g j 0 f0 0 0 := ⟨by simp [wv, nv], fun _ _ => rfl, fun _ _ => rfl, h, BB_pos, by omega⟩
theorem SubI.step {f0 f : Nat → Nat} {V g j i c b : Nat} (h : SubI f0 V g j i f c b) (hg : g < BB) :
    SubI f0 V g j (i + 1) (fun k => if k = i + j then (f (i + j) + BB - ((g * dg V i + c) % BB + b)) % BB else f k) ((g * dg V i + c) / BB) (if f (i + j) < (g * dg V i + c) % BB + b then 1 else 0) := by
  have hm := Nat.mod_lt (g * dg V i + c) BB_pos
  have hmul : g * dg V i + c < BB * BB := by
    have h1 := dg_lt V i
    have h2 := h.carry
    have := mul_lt hg h1 BB_pos h2
    omega
  have hbb := h.bor
  have hf := h.lt (i + j)
  refine ⟨?_, fun k hk => ?_, fun k hk => ?_, fun k => ?_, Nat.div_lt_of_lt_mul hmul, by split <;> omega⟩
  · refine msub_step (k := c + b) ?_ ?_
    · rw [nv_congr (g := fun t => f (j + t)) (fun k hk => by simp only [if_neg (show ¬ j + k = i + j by omega)])]; exact h.val
    · simp only [show j + i = i + j by omega, if_true]
      rw [← h.high (i + j) (by omega)]
      have := Nat.div_add_mod (g * dg V i + c) BB
      rw [Nat.add_mul, Nat.mul_comm ((g * dg V i + c) / BB)]
      generalize (g * dg V i + c) / BB = q at *
      generalize (g * dg V i + c) % BB = lo at *
      generalize f (i + j) = x at *
      generalize g * dg V i = y at *
      generalize BB * q = z at *
      rw [BB_eq] at *
      split <;> omega
  · simp only [if_neg (show ¬ k = i + j by omega)]; exact h.low k hk
  · simp only [if_neg (show ¬ k = i + j by omega)]; exact h.high k (by omega)
  · by_cases e : k = i + j
    · simp only [if_pos e]; exact Nat.mod_lt _ BB_pos
    · simp only [if_neg e]; exact h.lt k
/-- the first limb, too -/
structure SubE (f0 : Nat → Nat) (V g j n : Nat) (f : Nat → Nat) (b : Nat) : Prop where
  val : wv f j (n + 1) + g * V = wv f0 j (n + 1) + b * BB ^ (n + 1)
  low : ∀ k, k < j → f k = f0 k
  high : ∀ k, j + n + 1 ≤ k → f k = f0 k
  lt : ∀ k, f k < BB
  bor : b ≤ 1
theorem SubI.fin {f0 f : Nat → Nat} {V g j n c b : Nat} (h : SubI f0 V g j n f c b) (hV : V < BB ^ n) :
    SubE f0 V g j n (fun k => if k = j + n then (f (j + n) + BB - (c + b)) % BB else f k) (if f (j + n) < c + b then 1 else 0) := by
  have hv := h.val
  rw [nv_dg_full hV] at hv
  have hc := h.carry
  have hb := h.bor
  have hf := h.lt (j + n)
  refine ⟨?_, fun k hk => ?_, fun k hk => ?_, fun k => ?_, by split <;> omega⟩
  · have e1 : wv (fun k => if k = j + n then (f (j + n) + BB - (c + b)) % BB else f k) j (n + 1) = wv f j n + (f (j + n) + BB - (c + b)) % BB * BB ^ n := by
      unfold wv
      simp only [nv, if_true]
      congr 1
      exact nv_congr fun k hk => by simp only [if_neg (show ¬ j + k = j + n by omega)]
    have e2 : wv f0 j (n + 1) = wv f0 j n + f0 (j + n) * BB ^ n := rfl
    have e3 : (f (j + n) + BB - (c + b)) % BB + (c + b) = f0 (j + n) + (if f (j + n) < c + b then 1 else 0) * BB := by
      rw [← h.high (j + n) (Nat.le_refl _)]
      rw [BB_eq] at *
      split <;> omega
    have e4 := congrArg (· * BB ^ n) e3
    simp only [Nat.add_mul] at e4
    rw [e1, e2, Nat.pow_succ, Nat.mul_comm (BB ^ n) BB, ← Nat.mul_assoc]
    rw [Nat.add_mul] at hv
    omega
  · simp only [if_neg (show ¬ k = j + n by omega)]; exact h.low k hk
  · simp only [if_neg (show ¬ k = j + n by omega)]; exact h.high k (by omega)
  · by_cases e : k = j + n
    · simp only [if_pos e]; exact Nat.mod_lt _ BB_pos
    · simp only [if_neg e]; exact h.lt k
/-- the divisor is added back -/
structure AddI (f0 : Nat → Nat) (V j i : Nat) (f : Nat → Nat) (c : Nat) : Prop where
  val : wv f j i + c * BB ^ i = wv f0 j i + nv (dg V) i
  low : ∀ k, k < j → f k = f0 k
  high : ∀ k, j + i ≤ k → f k = f0 k
  lt : ∀ k, f k < BB
  carry : c ≤ 1
theorem AddI.start {f0 : Nat → Nat} (h : ∀ k, f0 k < BB) (V j : Nat) : AddI f0 V j 0 f0 0 := ⟨by simp [wv, nv], fun _ _ => rfl, fun _ _ => rfl, h, by omega⟩
theorem AddI.step {f0 f : Nat → Nat} {V j i c : Nat} (h : AddI f0 V j i f c) :
    AddI f0 V j (i + 1) (fun k => if k = i + j then (f (i + j) + dg V i + c) % BB else f k) ((f (i + j) + dg V i + c) / BB) := by
  have hx := h.lt (i + j)
  have hy := dg_lt V i
  have hc := h.carry
  refine ⟨?_, fun k hk => ?_, fun k hk => ?_, fun k => ?_, by rw [BB_eq] at *; omega⟩
  · refine add_step (k := c) ?_ ?_
    · rw [nv_congr (g := fun t => f (j + t)) (fun k hk => by simp only [if_neg (show ¬ j + k = i + j by omega)])]; exact h.val
    · simp only [show j + i = i + j by omega, if_true]
      rw [← h.high (i + j) (by omega), Nat.mul_comm _ BB]; exact Nat.mod_add_div _ _
  · simp only [if_neg (show ¬ k = i + j by omega)]; exact h.low k hk
  · simp only [if_neg (show ¬ k = i + j by omega)]; exact h.high k (by omega)
  · by_cases e : k = i + j
    · simp only [if_pos e]; exact Nat.mod_lt _ BB_pos
    · simp only [if_neg e]; exact h.lt k
theorem wv_lt {f : Nat → Nat} (h : ∀ k, f k < BB) (j i : Nat) : wv f j i < BB ^ i := nv_lt fun k _ => h _
/-- the end of a step in which nothing is added back -/
theorem fin_sub {f0 f : Nat → Nat} {T V g j n : Nat} (h : SubE f0 V g j n f 0) (hT : wv f0 j (n + 1) = T) (hup : T < (g + 1) * V) : T / V = g ∧ wv f j (n + 1) = T % V := by
  have hv := h.val
  rw [hT, Nat.zero_mul, Nat.add_zero] at hv
  rw [Nat.add_mul, Nat.one_mul] at hup
  obtain ⟨h1, h2⟩ := divmod_unique (a := T) (b := V) (q := g) (r := wv f j (n + 1)) (by omega) (by omega)
  exact ⟨h1.symm, h2⟩
theorem fin_add {f0 f f2 : Nat → Nat} {T V g j n c : Nat} (h : SubE f0 V g j n f 1) (hT : wv f0 j (n + 1) = T) (hT2 : T < V * BB) (hup : T < (g + 1) * V) (hlo : g * V ≤ T + V) (hV : V < BB ^ n) (ha : AddI f V j n f2 c) :
    1 ≤ g ∧ T / V = g - 1 ∧ wv (fun k => if k = j + n then (f2 (j + n) + c) % BB else f2 k) j (n + 1) = T % V := by
  have hv := h.val
  rw [hT, Nat.one_mul] at hv
  have hfl := wv_lt h.lt j (n + 1)
  have hg : 1 ≤ g := by
    rcases Nat.eq_zero_or_pos g with e | e
    · subst e; omega
    · exact e
  obtain ⟨k, rfl⟩ : ∃ k, g = k + 1 := ⟨g - 1, by omega⟩
  rw [Nat.add_mul, Nat.one_mul] at hv hlo
  rw [Nat.add_mul (k + 1), Nat.one_mul, Nat.add_mul, Nat.one_mul] at hup
  have hav := ha.val
  rw [nv_dg_full hV] at hav
  have hf2 := ha.high (j + n) (Nat.le_refl _)
  have e0 : wv f j (n + 1) = wv f j n + f (j + n) * BB ^ n := rfl
  have e1 : wv (fun k => if k = j + n then (f2 (j + n) + c) % BB else f2 k) j (n + 1) = wv f2 j n + (f2 (j + n) + c) % BB * BB ^ n := by
    unfold wv
    simp only [nv, if_true]
    congr 1
    exact nv_congr fun k hk => by simp only [if_neg (show ¬ j + k = j + n by omega)]
  have hl2 := wv_lt ha.lt j n
  have hkey : wv f2 j n + (f (j + n) + c) * BB ^ n = T - k * V + BB ^ (n + 1) := by
    rw [Nat.add_mul]; omega
  have hlt : T - k * V < BB ^ n := by omega
  have hcc := ha.carry
  have hx := h.lt (j + n)
  have hp : BB ^ (n + 1) = BB * BB ^ n := by rw [Nat.pow_succ, Nat.mul_comm]
  have hfc : f (j + n) + c = BB := by
    have h5 : (f (j + n) + c) * BB ^ n < (BB + 1) * BB ^ n := by rw [Nat.add_mul BB, Nat.one_mul, ← hp]; omega
    have h6 : (BB - 1) * BB ^ n < (f (j + n) + c) * BB ^ n := by
      rw [Nat.sub_mul, Nat.one_mul, ← hp]
      have : BB ^ n ≤ BB ^ (n + 1) := by rw [hp]; exact Nat.le_mul_of_pos_left _ BB_pos
      omega
    have h7 := Nat.lt_of_mul_lt_mul_right h5
    have h8 := Nat.lt_of_mul_lt_mul_right h6
    omega
  rw [hfc, hp] at hkey
  obtain ⟨h1, h2⟩ := divmod_unique (a := T) (b := V) (q := k) (r := wv f2 j n) (by omega) (by omega)
  refine ⟨hg, by rw [← h1]; omega, ?_⟩
  rw [e1, hf2, hfc, Nat.mod_self, Nat.zero_mul, Nat.add_zero, h2]
/-- the array after a step -/
theorem arr_after {U V j n L : Nat} {f : Nat → Nat} (hL : j + n + 1 ≤ L) (hf : ∀ k, f k < BB) (hlow : ∀ k, k < j → f k = dg U k) (hw : wv f j (n + 1) = tN U V j % V) (hhi : ∀ k, j + n + 1 ≤ k → f k = 0) : nv f L = wN U V j := by
  rw [wN_eq, ← hw]
  obtain ⟨r, rfl⟩ : ∃ r, L = j + (n + 1) + r := ⟨L - (j + n + 1), by omega⟩
  rw [nv_add, nv_zero (f := fun i => f (j + (n + 1) + i)) (fun i _ => hhi _ (by omega)), Nat.mul_zero, Nat.add_zero, nv_add]
  congr 1
  rw [nv_congr (g := dg U) (fun i hi => hlow i hi), nv_dg]
/-- what the array holds before a step -/
theorem w_low (U V j i : Nat) (h : i < j) : dg (wN U V (j + 1)) i = dg U i := by
  rw [wN_succ, dg_low _ _ _ _ h]
  unfold dg
  obtain ⟨k, rfl⟩ : ∃ k, j = i + (k + 1) := ⟨j - i - 1, by omega⟩
  have h2 := Nat.mod_add_div U (BB ^ (i + (k + 1)))
  conv => rhs; rw [← h2]
  have := dg_low (U % BB ^ (i + (k + 1))) (U / BB ^ (i + (k + 1))) (i + (k + 1)) i (by omega)
  unfold dg at this
  exact this.symm
theorem w_win (U V j i : Nat) : dg (wN U V (j + 1)) (j + i) = dg (tN U V j) i := by
  rw [wN_succ]; exact dg_high _ _ _ _ (Nat.mod_lt _ (pow_pos' j))
theorem w_wv {U V j n : Nat} (hV0 : 0 < V) (hV : V < BB ^ n) : wv (dg (wN U V (j + 1))) j (n + 1) = tN U V j := by
  unfold wv
  rw [nv_congr (g := dg (tN U V j)) (fun i _ => w_win U V j i), nv_dg_full (T_lt (tN_lt hV0 j) hV)]
theorem w_hi {U V j n k : Nat} (hV0 : 0 < V) (hV : V < BB ^ n) (hk : j + n + 1 ≤ k) : dg (wN U V (j + 1)) k = 0 := by
  obtain ⟨i, rfl⟩ : ∃ i, k = j + i := ⟨k - j, by omega⟩
  rw [w_win]
  exact dg_of_lt (T_lt (tN_lt hV0 j) hV) (by omega)
theorem wN_zero (U V : Nat) : wN U V 0 = U % V := by simp [wN, Nat.mod_one]
theorem wN_start {U V k : Nat} (h : U / BB ^ k < V) : wN U V k = U := by
  unfold wN; rw [Nat.mod_eq_of_lt h]; exact Nat.mod_add_div _ _
end Go.Proofs.YtnfmpddhcjkjbaaGreatDoor
