/- Plain: a nest whose funds are numbered otherwise (turned); no condition. -/
import Derived.Test.YtfnjcjoomaeapaaOrder
namespace Go.Proofs.Ytfnjcjoomaeapaa

def sg (n t i : Nat) : Nat := if i + t < n then i + t else i + t - n
def sgi (n t i : Nat) : Nat := if t ≤ i then i - t else i + n - t
theorem sg_mod {n t i : Nat} (ht : t < n) (hi : i < n) : (i + t) % n = sg n t i := by
  unfold sg
  split
  · exact Nat.mod_eq_of_lt (by assumption)
  · rw [Nat.mod_eq_sub_mod (by omega), Nat.mod_eq_of_lt (by omega)]
theorem sg_lt {n t i : Nat} (ht : t < n) (hi : i < n) : sg n t i < n := by unfold sg; split <;> omega
theorem sgi_lt {n t i : Nat} (ht : t < n) (hi : i < n) : sgi n t i < n := by unfold sgi; split <;> omega
theorem sg_sgi {n t i : Nat} (ht : t < n) (hi : i < n) : sg n t (sgi n t i) = i := by unfold sg sgi; split <;> split <;> omega
theorem sgi_sg {n t i : Nat} (ht : t < n) (hi : i < n) : sgi n t (sg n t i) = i := by unfold sg sgi; split <;> split <;> omega
theorem sg_inj {n t i j : Nat} (ht : t < n) (hi : i < n) (hj : j < n) (h : sg n t i = sg n t j) : i = j := by
  rw [← sgi_sg ht hi, h, sgi_sg ht hj]

/-- a sum of the first k -/
def sm (f : Nat → Int) : Nat → Int
  | 0 => 0
  | k + 1 => sm f k + f k
theorem sm_congr {f g : Nat → Int} : ∀ {k : Nat}, (∀ x, x < k → f x = g x) → sm f k = sm g k
  | 0, _ => rfl
  | k + 1, h => by simp only [sm, sm_congr (k := k) fun x hx => h x (by omega), h k (by omega)]
theorem sm_add (f : Nat → Int) (a : Nat) : ∀ b, sm f (a + b) = sm f a + sm (fun x => f (a + x)) b
  | 0 => by simp [sm]
  | b + 1 => by rw [← Nat.add_assoc]; simp only [sm]; rw [sm_add f a b]; omega
theorem sm_turn (f : Nat → Int) {n t : Nat} (ht : t < n) : sm (fun x => f (sg n t x)) n = sm f n := by
  have e1 : n = (n - t) + t := by omega
  have h1 : sm (fun x => f (sg n t x)) n = sm (fun x => f (t + x)) (n - t) + sm f t := by
    conv => lhs; rw [e1]
    rw [sm_add, ← e1]
    congr 1
    · refine sm_congr fun x hx => ?_
      show f (sg n t x) = f (t + x)
      unfold sg; rw [if_pos (by omega), Nat.add_comm]
    · refine sm_congr fun x hx => ?_
      show f (sg n t (n - t + x)) = f x
      unfold sg; rw [if_neg (by omega)]; congr 1; omega
  have h2 : sm f n = sm f t + sm (fun x => f (t + x)) (n - t) := by
    conv => lhs; rw [show n = t + (n - t) by omega]
    exact sm_add f t (n - t)
  omega

theorem colSum_sm (hs : List (List Int)) (j : Nat) : ∀ k, colSum hs j k = sm (fun x => Hd hs x j) k
  | 0 => rfl
  | k + 1 => by simp only [colSum, sm, colSum_sm hs j k]
def b01 (b : Bool) : Int := if b then 1 else 0
theorem partTo_sm {R : Nat → Nat → Bool} (i : Nat) : ∀ n, ((partTo R i n).length : Int) = sm (fun v => b01 (R i v && R v i)) n
  | 0 => rfl
  | n + 1 => by
    unfold partTo
    simp only [sm]
    rw [← partTo_sm i n]
    split
    · rename_i h; simp [b01, h]
    · rename_i h; have : (R i n && R n i) = false := by simpa using h
      simp [b01, this]
theorem hsum_congr {hs : List (List Int)} {p p' : List Int} {j : Nat} : ∀ {k : Nat}, (∀ x, x < k → gI p x = gI p' x) → hsum hs p j k = hsum hs p' j k
  | 0, _ => rfl
  | k + 1, h => by simp only [hsum, hsum_congr (k := k) fun x hx => h x (by omega), h k (by omega)]
theorem gI_app {xs : List Int} {v : Int} {x : Nat} (h : x < xs.length) : gI (xs ++ [v]) x = gI xs x := by simp [gI, List.getElem?_append_left h]
theorem gI_app' {xs : List Int} {v : Int} : gI (xs ++ [v]) xs.length = v := by simp [gI]
theorem hsum_sm {R : Nat → Nat → Bool} (hs : List (List Int)) (i j : Nat) : ∀ n, hsum hs (partTo R i n) j (partTo R i n).length = sm (fun v => if R i v && R v i then Hd hs v j else 0) n
  | 0 => rfl
  | n + 1 => by
    unfold partTo
    simp only [sm]
    rw [← hsum_sm hs i j n]
    split
    · rename_i h
      rw [List.length_append, List.length_singleton]
      simp only [hsum, if_pos h]
      rw [gI_app', hsum_congr (p' := partTo R i n) fun x hx => gI_app hx]
      simp
    · rename_i h
      simp
theorem gndTo_iff {us : List Int} {hs : List (List Int)} {p : List Int} : ∀ {k : Nat}, gndTo us hs p k = true ↔ ∃ x, x < k ∧ hsum hs p (gI p x).toNat p.length < gI us (gI p x).toNat
  | 0 => by simp [gndTo]
  | k + 1 => by
    simp only [gndTo, Bool.or_eq_true, gndTo_iff (k := k), decide_eq_true_eq]
    constructor
    · rintro (⟨x, h1, h2⟩ | h)
      · exact ⟨x, by omega, h2⟩
      · exact ⟨k, by omega, h⟩
    · rintro ⟨x, h1, h2⟩
      by_cases e : x = k
      · subst e; exact .inr h2
      · exact .inl ⟨x, by omega, h2⟩
theorem partTo_nat {R : Nat → Nat → Bool} {i n x : Nat} (h : x < (partTo R i n).length) : ∃ v : Nat, gI (partTo R i n) x = v ∧ v < n ∧ (R i v && R v i) = true := by
  have hb := partTo_bd i n x h
  refine ⟨(gI (partTo R i n) x).toNat, by omega, by omega, ?_⟩
  refine ((partTo_has i n _).1 ?_).2
  rw [show (((gI (partTo R i n) x).toNat : Nat) : Int) = gI (partTo R i n) x by omega]
  exact gI_mem h
theorem gndB_iff {R : Nat → Nat → Bool} (us : List Int) (hs : List (List Int)) (i n : Nat) :
    gndB us hs (partTo R i n) = true ↔ ∃ v, v < n ∧ (R i v && R v i) = true ∧ sm (fun u => if R i u && R u i then Hd hs u v else 0) n < gI us v := by
  unfold gndB
  rw [gndTo_iff]
  constructor
  · rintro ⟨x, h1, h2⟩
    obtain ⟨v, e, hv, hr⟩ := partTo_nat h1
    rw [e] at h2
    simp only [Int.toNat_natCast] at h2
    rw [hsum_sm] at h2
    exact ⟨v, hv, hr, h2⟩
  · rintro ⟨v, hv, hr, h⟩
    obtain ⟨x, hx, e⟩ := mem_gI ((partTo_has i n v).2 ⟨hv, hr⟩)
    refine ⟨x, hx, ?_⟩
    rw [e]
    simp only [Int.toNat_natCast]
    rw [hsum_sm]; exact h

theorem inj_le : ∀ (a b : Nat) (f : Nat → Nat), (∀ x, x < a → f x < b) → (∀ x y, x < a → y < a → f x = f y → x = y) → a ≤ b
  | 0, _, _, _, _ => Nat.zero_le _
  | a + 1, b, f, h, hi => by
    have hb := h a (by omega)
    have := inj_le a (b - 1) (fun x => if f x = b - 1 then f a else f x) (fun x hx => by
      show (if f x = b - 1 then f a else f x) < b - 1
      have h1 := h x (by omega)
      split
      · rename_i e
        have : f a ≠ b - 1 := fun e2 => by have := hi x a (by omega) (by omega) (e.trans e2.symm); omega
        omega
      · omega) (fun x y hx hy e => by
      change (if f x = b - 1 then f a else f x) = (if f y = b - 1 then f a else f y) at e
      by_cases ex : f x = b - 1 <;> by_cases ey : f y = b - 1
      · exact hi x y (by omega) (by omega) (ex.trans ey.symm)
      · rw [if_pos ex, if_neg ey] at e
        have := hi a y (by omega) (by omega) e; omega
      · rw [if_neg ex, if_pos ey] at e
        have := hi x a (by omega) (by omega) e; omega
      · rw [if_neg ex, if_neg ey] at e; exact hi x y (by omega) (by omega) e)
    omega

/-- the nest with fund i numbered (i + t) % n -/
structure Turned (n t : Nat) (us : List Int) (hs : List (List Int)) (us' : List Int) (hs' : List (List Int)) : Prop where
  lu : us'.length = n
  lh : hs'.length = n
  lr : ∀ i, i < n → (gR hs' i).length = n
  u : ∀ i, i < n → gI us' (sg n t i) = gI us i
  h : ∀ i j, i < n → j < n → Hd hs' (sg n t i) (sg n t j) = Hd hs i j

section
variable {n t : Nat} {us us' : List Int} {hs hs' : List (List Int)}

theorem Turned.shape (T : Turned n t us hs us' hs') (ht : t < n) (hn : us.length = n) (hS : Shape us hs) : Shape us' hs' := by
  obtain ⟨h1, h2, h3⟩ := hS
  rw [hn] at h1 h2 h3
  refine ⟨by rw [T.lu]; omega, by rw [T.lu, T.lh], fun i hi => ?_⟩
  rw [T.lu] at hi ⊢
  have e := sg_sgi ht hi
  have hk := sgi_lt ht hi
  have hb := h3 _ hk
  refine ⟨T.lr i hi, ?_, ?_, fun j hj => ?_⟩
  · rw [← e, T.u _ hk]; exact hb.2.1
  · rw [← e, T.u _ hk]; exact hb.2.2.1
  · rw [← e, ← sg_sgi ht hj, T.h _ _ hk (sgi_lt ht hj)]; exact hb.2.2.2 _ (sgi_lt ht hj)
theorem Turned.held (T : Turned n t us hs us' hs') (ht : t < n) (hn : us.length = n) (hH : Held us hs) : Held us' hs' := by
  intro j hj
  rw [T.lu] at hj ⊢
  have hk := sgi_lt ht hj
  have hc := hH _ (by rw [hn]; exact hk)
  rw [hn, colSum_sm] at hc
  rw [colSum_sm, ← sg_sgi ht hj, T.u _ hk, ← sm_turn _ ht]
  rw [sm_congr (g := fun x => Hd hs x (sgi n t j)) (fun x hx => T.h x _ hx hk)]
  exact hc
theorem Rch.lift {E E' : Nat → Nat → Prop} {s : Nat → Nat} (hE : ∀ a b, E a b → E' (s a) (s b)) {i j : Nat} (h : Rch E i j) : Rch E' (s i) (s j) := by
  obtain ⟨k, hk⟩ := h
  induction k generalizing i with
  | zero => cases hk; exact .refl _ _
  | succ k ih => obtain ⟨m, h1, h2⟩ := hk; exact .head (hE _ _ h1) (ih h2)
theorem Turned.reach (T : Turned n t us hs us' hs') (ht : t < n) {i j : Nat} (hi : i < n) (hj : j < n) : rB n hs' (sg n t i) (sg n t j) = rB n hs i j := by
  rw [Bool.eq_iff_iff, rB_iff, rB_iff]
  constructor
  · intro h
    have := h.lift (E' := Edge n hs) (s := sgi n t) (fun a b ⟨h1, h2, h3⟩ => ⟨sgi_lt ht h1, sgi_lt ht h2, by
      rw [← T.h _ _ (sgi_lt ht h1) (sgi_lt ht h2), sg_sgi ht h1, sg_sgi ht h2]; exact h3⟩)
    rwa [sgi_sg ht hi, sgi_sg ht hj] at this
  · intro h
    exact h.lift (E' := Edge n hs') (s := sg n t) (fun a b ⟨h1, h2, h3⟩ => ⟨sg_lt ht h1, sg_lt ht h2, by rw [T.h _ _ h1 h2]; exact h3⟩)

theorem partsOf_part {q : Nat} (hq : q < (partsOf us hs).length) : ∃ i, i < us.length ∧ gR (partsOf us hs) q = partTo (rB us.length hs) i us.length := by
  have hm : gR (partsOf us hs) q ∈ partsOf us hs := by
    unfold gR; rw [List.getD_eq_getElem?_getD, List.getElem?_eq_getElem hq]; exact List.getElem_mem hq
  obtain ⟨i, h1, _, he⟩ := partsS_mem _ _ _ hm
  exact ⟨i, h1, he⟩
theorem part_self {R : Nat → Nat → Bool} {i n : Nat} (hre : ∀ a, R a a = true) (hi : i < n) : (i : Int) ∈ partTo R i n := (partTo_has i n i).2 ⟨hi, by simp [hre i]⟩

/-- the part that the turned part is -/
theorem Turned.find (T : Turned n t us hs us' hs') (ht : t < n) (hn : us.length = n) (h9 : n ≤ 9) {q : Nat} (hq : q < (partsOf us hs).length) :
    ∃ q', q' < (partsOf us' hs').length ∧ (∀ v, v < n → ((v : Int) ∈ gR (partsOf us hs) q ↔ ((sg n t v : Nat) : Int) ∈ gR (partsOf us' hs') q')) ∧
      (gR (partsOf us' hs') q').length = (gR (partsOf us hs) q).length ∧ gndB us' hs' (gR (partsOf us' hs') q') = gndB us hs (gR (partsOf us hs) q) := by
  obtain ⟨i, hi, he⟩ := partsOf_part hq
  rw [hn] at hi he
  have ok := parts_ok us' hs' (by rw [T.lu]; exact h9)
  obtain ⟨q', hq', hm⟩ := ok.all (sg n t i) (by rw [T.lu]; exact sg_lt ht hi) rfl
  obtain ⟨i', hi', he'⟩ := partsOf_part hq'
  rw [T.lu] at hi' he'
  rw [he'] at hm
  have hr := ((partTo_has i' n _).1 hm).2
  simp only [Bool.and_eq_true] at hr
  have key : ∀ v, v < n → (rB n hs' i' (sg n t v) && rB n hs' (sg n t v) i') = (rB n hs i v && rB n hs v i) := by
    intro v hv
    rw [← T.reach ht hi hv, ← T.reach ht hv hi, Bool.eq_iff_iff]
    simp only [Bool.and_eq_true]
    constructor
    · rintro ⟨h1, h2⟩; exact ⟨rB_trans _ _ _ hr.2 h1, rB_trans _ _ _ h2 hr.1⟩
    · rintro ⟨h1, h2⟩; exact ⟨rB_trans _ _ _ hr.1 h1, rB_trans _ _ _ h2 hr.2⟩
  refine ⟨q', hq', fun v hv => ?_, ?_, ?_⟩
  · rw [he, he', partTo_has, partTo_has, key v hv]
    simp [hv, sg_lt ht hv]
  · rw [he, he']
    have : ((partTo (rB n hs') i' n).length : Int) = (partTo (rB n hs) i n).length := by
      rw [partTo_sm, partTo_sm, ← sm_turn _ ht]
      exact sm_congr fun x hx => by rw [key x hx]
    omega
  · rw [he, he', Bool.eq_iff_iff, gndB_iff, gndB_iff]
    have hsm : ∀ v, v < n → sm (fun u => if rB n hs' i' u && rB n hs' u i' then Hd hs' u (sg n t v) else 0) n = sm (fun u => if rB n hs i u && rB n hs u i then Hd hs u v else 0) n := by
      intro v hv
      rw [← sm_turn _ ht]
      exact sm_congr fun x hx => by rw [key x hx, T.h x v hx hv]
    constructor
    · rintro ⟨v, hv, h1, h2⟩
      refine ⟨sgi n t v, sgi_lt ht hv, ?_, ?_⟩
      · rw [← key _ (sgi_lt ht hv), sg_sgi ht hv]; exact h1
      · rw [← hsm _ (sgi_lt ht hv), ← T.u _ (sgi_lt ht hv), sg_sgi ht hv]; exact h2
    · rintro ⟨v, hv, h1, h2⟩
      exact ⟨sg n t v, sg_lt ht hv, by rw [key v hv]; exact h1, by rw [hsm v hv, T.u v hv]; exact h2⟩

theorem Turned.len (T : Turned n t us hs us' hs') (ht : t < n) (hn : us.length = n) (h9 : n ≤ 9) : (partsOf us' hs').length = (partsOf us hs).length := by
  have ok := parts_ok us hs (by rw [hn]; exact h9)
  have ok' := parts_ok us' hs' (by rw [T.lu]; exact h9)
  have h1 : (partsOf us hs).length ≤ (partsOf us' hs').length := by
    refine inj_le _ _ (fun q => if hq : q < (partsOf us hs).length then (T.find ht hn h9 hq).choose else 0) (fun q hq => ?_) (fun q p hq hp e => ?_)
    · simp only [dif_pos hq]; exact (T.find ht hn h9 hq).choose_spec.1
    · simp only [dif_pos hq, dif_pos hp] at e
      have a := (T.find ht hn h9 hq).choose_spec.2.1
      have b := (T.find ht hn h9 hp).choose_spec.2.1
      rw [e] at a
      obtain ⟨i, hi, he⟩ := partsOf_part hq
      have hm : (i : Int) ∈ gR (partsOf us hs) q := by rw [he]; exact part_self rB_refl hi
      rw [hn] at hi
      exact ok.disj q p i hq hp hm ((b i hi).2 ((a i hi).1 hm))
  have h2 : (partsOf us' hs').length ≤ (partsOf us hs).length := by
    have ex : ∀ q', q' < (partsOf us' hs').length → ∃ q, q < (partsOf us hs).length ∧ ∃ v, v < n ∧ (v : Int) ∈ gR (partsOf us hs) q ∧ ((sg n t v : Nat) : Int) ∈ gR (partsOf us' hs') q' := by
      intro q' hq'
      obtain ⟨i', hi', he'⟩ := partsOf_part hq'
      rw [T.lu] at hi'
      obtain ⟨q, h1, h2⟩ := ok.all (sgi n t i') (by rw [hn]; exact sgi_lt ht hi') rfl
      exact ⟨q, h1, sgi n t i', sgi_lt ht hi', h2, by rw [sg_sgi ht hi', he']; exact part_self rB_refl (by rw [T.lu]; exact hi')⟩
    refine inj_le _ _ (fun q => if hq : q < (partsOf us' hs').length then (ex q hq).choose else 0) (fun q hq => ?_) (fun q p hq hp e => ?_)
    · simp only [dif_pos hq]; exact (ex q hq).choose_spec.1
    · simp only [dif_pos hq, dif_pos hp] at e
      obtain ⟨h1, v, hv, a1, a2⟩ := (ex q hq).choose_spec
      obtain ⟨h3, u, hu, b1, b2⟩ := (ex p hp).choose_spec
      rw [← e] at b1
      obtain ⟨q', hq', c1, _⟩ := T.find ht hn h9 h1
      have d1 := ok'.disj q q' _ hq hq' a2 ((c1 v hv).1 a1)
      have d2 := ok'.disj p q' _ hp hq' b2 ((c1 u hu).1 b1)
      omega
  omega
end

/-- what the statement's inner loops reckon -/
def allTo (ps ps' : List (List Int)) (n t p q : Nat) : Nat → Bool
  | 0 => decide ((gR ps p).length = (gR ps' q).length)
  | x + 1 => allTo ps ps' n t p q x && decide ((gI (gR ps p) x + t) % n ∈ gR ps' q)
def foundTo (ps ps' : List (List Int)) (cs ds : List Bool) (n t p : Nat) : Nat → Bool
  | 0 => false
  | q + 1 => foundTo ps ps' cs ds n t p q || (allTo ps ps' n t p q (gR ps p).length && decide (gB cs p = gB ds q))
theorem allTo_true {ps ps' : List (List Int)} {n t p q : Nat} (hl : (gR ps' q).length = (gR ps p).length) (h : ∀ x, x < (gR ps p).length → (gI (gR ps p) x + t) % n ∈ gR ps' q) : ∀ k, k ≤ (gR ps p).length → allTo ps ps' n t p q k = true
  | 0, _ => by simp [allTo, hl]
  | k + 1, hk => by simp [allTo, allTo_true hl h k (by omega), h k (by omega)]
theorem foundTo_true {ps ps' : List (List Int)} {cs ds : List Bool} {n t p q : Nat} (h1 : allTo ps ps' n t p q (gR ps p).length = true) (h2 : gB cs p = gB ds q) : ∀ k, q < k → foundTo ps ps' cs ds n t p k = true
  | 0, hk => by omega
  | k + 1, hk => by
    by_cases e : q = k
    · subst e; simp [foundTo, h1, h2]
    · simp [foundTo, foundTo_true h1 h2 k (by omega)]
theorem gB_map {ps : List (List Int)} {f : List Int → Bool} {p : Nat} (h : p < ps.length) : gB (ps.map f) p = f (gR ps p) := by simp [gB, gR, h]
theorem Turned.found {n t : Nat} {us us' : List Int} {hs hs' : List (List Int)} (T : Turned n t us hs us' hs') (ht : t < n) (hn : us.length = n) (h9 : n ≤ 9) {p : Nat} (hp : p < (partsOf us hs).length) :
    foundTo (partsOf us hs) (partsOf us' hs') ((partsOf us hs).map (gndB us hs)) ((partsOf us' hs').map (gndB us' hs')) n t p (partsOf us' hs').length = true := by
  obtain ⟨q', hq', h1, h2, h3⟩ := T.find ht hn h9 hp
  refine foundTo_true (q := q') (allTo_true h2 (fun x hx => ?_) _ (Nat.le_refl _)) (by rw [gB_map hp, gB_map hq', h3]) _ hq'
  have hb := (partsOf_in hp).2 x hx
  rw [hn] at hb
  obtain ⟨v, hv⟩ : ∃ v : Nat, gI (gR (partsOf us hs) p) x = v := ⟨(gI (gR (partsOf us hs) p) x).toNat, by omega⟩
  have hm := gI_mem hx
  rw [hv] at hm hb ⊢
  have e : ((v : Int) + t) % n = ((sg n t v : Nat) : Int) := by
    rw [← sg_mod ht (by omega)]; simp
  rw [e]
  exact (h1 v (by omega)).1 hm
end Go.Proofs.Ytfnjcjoomaeapaa
