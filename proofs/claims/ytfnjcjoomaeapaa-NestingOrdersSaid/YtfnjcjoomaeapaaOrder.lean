/- Plain: the order of the parts; no condition. -/
import Derived.Test.YtfnjcjoomaeapaaW9
import Derived.Test.YtfnjcjoomaeapaaNext
namespace Go.Proofs.Ytfnjcjoomaeapaa

theorem gR_zero (p : List Int) (ps : List (List Int)) : gR (p :: ps) 0 = p := rfl
theorem gR_succ (p : List Int) (ps : List (List Int)) (q : Nat) : gR (p :: ps) (q + 1) = gR ps q := by simp [gR]

section
variable {R : Nat → Nat → Bool} {n : Nat}

structure POk (R : Nat → Nat → Bool) (n : Nat) (lst : Nat → Bool) (ps : List (List Int)) : Prop where
  mem : ∀ q v, q < ps.length → ((v : Nat) : Int) ∈ gR ps q → v < n ∧ lst v = false
  disj : ∀ q q' v, q < ps.length → q' < ps.length → ((v : Nat) : Int) ∈ gR ps q → ((v : Nat) : Int) ∈ gR ps q' → q = q'
  both : ∀ q v u, q < ps.length → ((v : Nat) : Int) ∈ gR ps q → ((u : Nat) : Int) ∈ gR ps q → R v u = true
  ord : ∀ q q' v u, q < ps.length → q' < ps.length → ((v : Nat) : Int) ∈ gR ps q → ((u : Nat) : Int) ∈ gR ps q' → R v u = true → q' ≤ q
  all : ∀ v, v < n → lst v = false → ∃ q, q < ps.length ∧ ((v : Nat) : Int) ∈ gR ps q

theorem POk.of (hre : ∀ a, R a a = true) (htr : ∀ a b c, R a b = true → R b c = true → R a c = true) : ∀ (k : Nat) (lst : Nat → Bool), ClosedL R n lst → n ≤ lcount lst n + k → POk R n lst (partsS R n k lst)
  | 0, lst, _, hc => by
    have hf := lcount_full (lst := lst) (m := n) (by have := lcount_le lst n; omega)
    refine ⟨fun q v h => ?_, fun q q' v h => ?_, fun q v u h => ?_, fun q q' v u h => ?_, fun v hv hl => ?_⟩
    · simp [partsS] at h
    · simp [partsS] at h
    · simp [partsS] at h
    · simp [partsS] at h
    · rw [hf v hv] at hl; cases hl
  | k + 1, lst, hcl, hc => by
    unfold partsS
    cases hn : nextS R n lst with
    | none =>
      refine ⟨fun q v h => ?_, fun q q' v h => ?_, fun q v u h => ?_, fun q q' v u h => ?_, fun v hv hl => ?_⟩
      · simp at h
      · simp at h
      · simp at h
      · simp at h
      · obtain ⟨i0, _, h2, _⟩ := progress hre htr ⟨v, hv, hl⟩
        rw [hn] at h2; cases h2
    | some i =>
      obtain ⟨hi, hr⟩ := nextS_spec hn
      have hl : lst i = false := readyTo_lst hr
      have hpos : 0 < (partTo R i n).length := List.length_pos_of_mem ((partTo_has i n i).2 ⟨hi, by simp [hre i]⟩)
      have ih := POk.of hre htr k (lstTo R lst i n) (hcl.add htr i) (by rw [lcount_add hcl hi hl n (Nat.le_refl _)]; omega)
      have hhead : ∀ v, ((v : Nat) : Int) ∈ partTo R i n → v < n ∧ R i v = true ∧ R v i = true ∧ lst v = false ∧ lstTo R lst i n v = true := by
        intro v hv
        obtain ⟨h1, h2⟩ := (partTo_has i n v).1 hv
        simp at h2
        refine ⟨h1, h2.1, h2.2, ?_, by simp [lstTo, h1, h2.1, h2.2]⟩
        cases hlv : lst v with
        | false => rfl
        | true => have := hcl v i h1 hi hlv h2.2 h2.1; rw [this] at hl; cases hl
      have hdown : ∀ v, lstTo R lst i n v = false → lst v = false ∧ (v < n → ¬ (R i v = true ∧ R v i = true)) := by
        intro v hv
        simp only [lstTo, Bool.or_eq_false_iff] at hv
        refine ⟨hv.1, fun h1 ⟨h2, h3⟩ => ?_⟩
        have := hv.2
        simp [h1, h2, h3] at this
      refine ⟨fun q v h hm => ?_, fun q q' v h h' hm hm' => ?_, fun q v u h hm hm' => ?_, fun q q' v u h h' hm hm' hR => ?_, fun v hv hlv => ?_⟩
      · cases q with
        | zero => rw [gR_zero] at hm; have := hhead v hm; exact ⟨this.1, this.2.2.2.1⟩
        | succ q => rw [gR_succ] at hm; have := ih.mem q v (by simpa using h) hm; exact ⟨this.1, (hdown v this.2).1⟩
      · cases q with
        | zero =>
          cases q' with
          | zero => rfl
          | succ q' =>
            rw [gR_zero] at hm; rw [gR_succ] at hm'
            have a := (hhead v hm).2.2.2.2
            have b := (ih.mem q' v (by simpa using h') hm').2
            rw [a] at b; cases b
        | succ q =>
          cases q' with
          | zero =>
            rw [gR_succ] at hm; rw [gR_zero] at hm'
            have a := (hhead v hm').2.2.2.2
            have b := (ih.mem q v (by simpa using h) hm).2
            rw [a] at b; cases b
          | succ q' => rw [gR_succ] at hm hm'; rw [ih.disj q q' v (by simpa using h) (by simpa using h') hm hm']
      · cases q with
        | zero => rw [gR_zero] at hm hm'; exact htr _ _ _ (hhead v hm).2.2.1 (hhead u hm').2.1
        | succ q => rw [gR_succ] at hm hm'; exact ih.both q v u (by simpa using h) hm hm'
      · cases q' with
        | zero => exact Nat.zero_le _
        | succ q' =>
          rw [gR_succ] at hm'
          have b := ih.mem q' u (by simpa using h') hm'
          cases q with
          | zero =>
            rw [gR_zero] at hm
            have a := hhead v hm
            have hiu := htr _ _ _ a.2.1 hR
            have hok := readyTo_ok hr u b.1
            have hd := hdown u b.2
            simp only [stepOk, hiu, hd.1, Bool.not_true, Bool.or_false, Bool.false_or] at hok
            exact absurd ⟨hiu, hok⟩ (hd.2 b.1)
          | succ q =>
            rw [gR_succ] at hm
            have := ih.ord q q' v u (by simpa using h) (by simpa using h') hm hm' hR
            omega
      · cases hlt : lstTo R lst i n v with
        | true =>
          simp only [lstTo, hlv, Bool.false_or] at hlt
          exact ⟨0, by simp, by rw [gR_zero]; exact (partTo_has i n v).2 ⟨hv, by simpa [hv] using hlt⟩⟩
        | false =>
          obtain ⟨q, h1, h2⟩ := ih.all v hv hlt
          exact ⟨q + 1, by simpa using h1, by rw [gR_succ]; exact h2⟩

theorem partTo_mono (i : Nat) : ∀ (j x y : Nat), x < y → y < (partTo R i j).length → gI (partTo R i j) x < gI (partTo R i j) y
  | 0, x, y, _, h => by simp [partTo] at h
  | j + 1, x, y, hxy, h => by
    unfold partTo at h ⊢
    split at h
    · rename_i hc
      rw [if_pos hc]
      by_cases e : y < (partTo R i j).length
      · have := partTo_mono i j x y hxy e
        have e2 : x < (partTo R i j).length := by omega
        simpa [gI, List.getElem?_append_left e, List.getElem?_append_left e2] using this
      · have e3 : y = (partTo R i j).length := by simp at h; omega
        have e2 : x < (partTo R i j).length := by omega
        have := (partTo_bd i j x e2).2
        subst e3
        simpa [gI, List.getElem?_append_left e2] using this
    · rename_i hc
      rw [if_neg hc]
      exact partTo_mono i j x y hxy h
end

theorem lcount_upd {lst : Nat → Bool} {i : Nat} (hl : lst i = false) : ∀ {m : Nat}, lcount (fun v => if v = i then true else lst v) m = lcount lst m + (if i < m then 1 else 0)
  | 0 => rfl
  | m + 1 => by
    rw [lcount_succ, lcount_succ, lcount_upd hl (m := m)]
    by_cases e : m = i
    · subst e; simp [hl]
    · have : (i < m + 1) = (i < m) := by simp; omega
      simp only [if_neg e, this]; omega
theorem lcount_all {lst : Nat → Bool} : ∀ {m : Nat}, (∀ v, v < m → lst v = true) → lcount lst m = m
  | 0, _ => rfl
  | m + 1, h => by rw [lcount_succ, lcount_all fun v hv => h v (by omega), h m (by omega)]; rfl
theorem lcount_congr {a b : Nat → Bool} : ∀ {m : Nat}, (∀ v, v < m → a v = b v) → lcount a m = lcount b m
  | 0, _ => rfl
  | m + 1, h => by rw [lcount_succ, lcount_succ, lcount_congr fun v hv => h v (by omega), h m (by omega)]

theorem gI_mem {xs : List Int} {k : Nat} (h : k < xs.length) : gI xs k ∈ xs := by
  unfold gI; rw [List.getD_eq_getElem?_getD, List.getElem?_eq_getElem h]; exact List.getElem_mem h
theorem mem_gI {xs : List Int} {v : Int} (h : v ∈ xs) : ∃ k, k < xs.length ∧ gI xs k = v := by
  obtain ⟨k, hk, e⟩ := List.getElem_of_mem h
  exact ⟨k, hk, by simp [gI, hk, e]⟩
theorem mem_take_gI {xs : List Int} {v : Int} {k : Nat} (h : v ∈ xs.take k) : ∃ x, x < k ∧ x < xs.length ∧ gI xs x = v := by
  obtain ⟨x, hx, e⟩ := List.getElem_of_mem h
  simp at hx
  exact ⟨x, by omega, by omega, by rw [← e]; simp [gI, show x < xs.length by omega]⟩
theorem take_succ_mem {xs : List Int} {v : Int} {k : Nat} (h : k < xs.length) : v ∈ xs.take (k + 1) ↔ v ∈ xs.take k ∨ v = gI xs k := by
  rw [List.take_succ_eq_append_getElem h, List.mem_append]
  have : gI xs k = xs[k] := by simp [gI, h]
  rw [this]; simp

/-- which part each fund lies in, while the parts are gone through -/
structure WInv (n : Nat) (ps : List (List Int)) (p k : Nat) (W : Nat → Int) (count : Int) : Prop where
  neg : ∀ v, v < n → W v = -1 ∨ (∃ q : Nat, W v = q ∧ q ≤ p ∧ q < ps.length ∧ ((v : Nat) : Int) ∈ gR ps q ∧ (q = p → ((v : Nat) : Int) ∈ (gR ps p).take k))
  pos : ∀ q v : Nat, q < p → ((v : Nat) : Int) ∈ gR ps q → W v = q
  cur : ∀ v : Nat, ((v : Nat) : Int) ∈ (gR ps p).take k → W v = p
  cnt : count = lcount (fun v => decide (0 ≤ W v)) n

theorem WInv.start {n : Nat} {ps : List (List Int)} {W : Nat → Int} (h : ∀ v, v < n → W v = -1) : WInv n ps 0 0 W 0 := by
  refine ⟨fun v hv => .inl (h v hv), fun q v hq => by omega, fun v hv => by simp at hv, ?_⟩
  rw [lcount_congr (b := fun _ => false) (fun v hv => by simp [h v hv]), lcount_false]; rfl
theorem WInv.next {n : Nat} {ps : List (List Int)} {p k : Nat} {W : Nat → Int} {count : Int} (h : WInv n ps p k W count) (hk : (gR ps p).length ≤ k) : WInv n ps (p + 1) 0 W count := by
  have ht : (gR ps p).take k = gR ps p := List.take_of_length_le hk
  refine ⟨fun v hv => ?_, fun q v hq hm => ?_, fun v hv => by simp at hv, h.cnt⟩
  · rcases h.neg v hv with h1 | ⟨q, h1, h2, h3, h4, _⟩
    · exact .inl h1
    · exact .inr ⟨q, h1, by omega, h3, h4, fun e => by omega⟩
  · by_cases e : q = p
    · subst e; exact h.cur v (by rw [ht]; exact hm)
    · exact h.pos q v (by omega) hm
theorem WInv.fresh {R : Nat → Nat → Bool} {n : Nat} {ps : List (List Int)} {p k i : Nat} {W : Nat → Int} {count : Int} (h : WInv n ps p k W count) (hok : POk R n (fun _ => false) ps) (hmono : ∀ q, q < ps.length → ∀ x y, x < y → y < (gR ps q).length → gI (gR ps q) x < gI (gR ps q) y)
    (hp : p < ps.length) (hk : k < (gR ps p).length) (hi : gI (gR ps p) k = i) (hin : i < n) : W i = -1 := by
  rcases h.neg i hin with h1 | ⟨q, h1, h2, h3, h4, h5⟩
  · exact h1
  · have hm : ((i : Nat) : Int) ∈ gR ps p := by rw [← hi]; exact gI_mem hk
    have e := hok.disj q p i h3 hp h4 hm
    obtain ⟨x, hx1, hx2, hx3⟩ := mem_take_gI (h5 e)
    have := hmono p hp x k hx1 hk
    omega
theorem WInv.step {R : Nat → Nat → Bool} {n : Nat} {ps : List (List Int)} {p k i : Nat} {W : Nat → Int} {count : Int} (h : WInv n ps p k W count) (hok : POk R n (fun _ => false) ps) (hmono : ∀ q, q < ps.length → ∀ x y, x < y → y < (gR ps q).length → gI (gR ps q) x < gI (gR ps q) y)
    (hp : p < ps.length) (hk : k < (gR ps p).length) (hi : gI (gR ps p) k = i) (hin : i < n) : WInv n ps p (k + 1) (fun v => if v = i then (p : Int) else W v) (count + 1) := by
  have hf := h.fresh hok hmono hp hk hi hin
  have hm : ((i : Nat) : Int) ∈ gR ps p := by rw [← hi]; exact gI_mem hk
  refine ⟨fun v hv => ?_, fun q v hq hmv => ?_, fun v hv => ?_, ?_⟩
  · by_cases e : v = i
    · subst e; exact .inr ⟨p, by simp, Nat.le_refl _, hp, hm, fun _ => (take_succ_mem hk).2 (.inr hi.symm)⟩
    · rcases h.neg v hv with h1 | ⟨q, h1, h2, h3, h4, h5⟩
      · exact .inl (by simp [e, h1])
      · exact .inr ⟨q, by simp [e, h1], h2, h3, h4, fun e2 => (take_succ_mem hk).2 (.inl (h5 e2))⟩
  · have : v ≠ i := by
      rintro rfl
      have := h.pos q v hq hmv
      omega
    simp only [if_neg this]; exact h.pos q v hq hmv
  · by_cases e : v = i
    · simp [e]
    · simp only [if_neg e]
      rcases (take_succ_mem hk).1 hv with h1 | h1
      · exact h.cur v h1
      · rw [hi] at h1; omega
  · rw [lcount_congr (b := fun v => if v = i then true else decide (0 ≤ W v)) (fun v _ => by by_cases e : v = i <;> simp [e]), lcount_upd (by simp [hf]), if_pos hin, h.cnt]
    simp
theorem WInv.count {R : Nat → Nat → Bool} {n : Nat} {ps : List (List Int)} {W : Nat → Int} {count : Int} (h : WInv n ps ps.length 0 W count) (hok : POk R n (fun _ => false) ps) : count = n := by
  rw [h.cnt, lcount_all]
  intro v hv
  obtain ⟨q, h1, h2⟩ := hok.all v hv rfl
  simp [h.pos q v h1 h2]
theorem WInv.le {R : Nat → Nat → Bool} {n : Nat} {ps : List (List Int)} {W : Nat → Int} {count : Int} (h : WInv n ps ps.length 0 W count) (hok : POk R n (fun _ => false) ps) {i j : Nat} (hi : i < n) (hj : j < n) (hR : R i j = true) : W j ≤ W i := by
  obtain ⟨q, h1, h2⟩ := hok.all i hi rfl
  obtain ⟨q', h1', h2'⟩ := hok.all j hj rfl
  rw [h.pos q i h1 h2, h.pos q' j h1' h2']
  have := hok.ord q q' i j h1 h1' h2 h2' hR
  omega
theorem WInv.eq {R : Nat → Nat → Bool} {n : Nat} {ps : List (List Int)} {W : Nat → Int} {count : Int} (h : WInv n ps ps.length 0 W count) (hok : POk R n (fun _ => false) ps) {i j : Nat} (hi : i < n) (hj : j < n) : (R j i && R i j) = decide (W i = W j) := by
  rw [Bool.eq_iff_iff]
  simp only [Bool.and_eq_true, decide_eq_true_eq]
  constructor
  · rintro ⟨h1, h2⟩
    have a := h.le hok hj hi h1
    have b := h.le hok hi hj h2
    omega
  · intro e
    obtain ⟨q, h1, h2⟩ := hok.all i hi rfl
    obtain ⟨q', h1', h2'⟩ := hok.all j hj rfl
    rw [h.pos q i h1 h2, h.pos q' j h1' h2'] at e
    have e' : q = q' := by omega
    subst e'
    exact ⟨hok.both q j i h1 h2' h2, hok.both q i j h1 h2 h2'⟩

theorem reachTo_has {R : Nat → Nat → Bool} (i : Nat) : ∀ (j v : Nat), ((v : Nat) : Int) ∈ reachTo R i j ↔ (v < j ∧ R i v = true)
  | 0, v => by simp [reachTo]
  | j + 1, v => by
    unfold reachTo
    split
    · rename_i hc
      rw [List.mem_append, reachTo_has i j v]
      by_cases e : v = j
      · subst e; simp [hc]
      · have : ¬ ((v : Int) = (j : Int)) := by omega
        simp [this]; intro _; omega
    · rename_i hc
      rw [reachTo_has i j v]
      by_cases e : v = j
      · subst e; simp [hc]
      · constructor
        · rintro ⟨h1, h2⟩; exact ⟨by omega, h2⟩
        · rintro ⟨h1, h2⟩; exact ⟨by omega, h2⟩
theorem reachTo_nat {R : Nat → Nat → Bool} (i : Nat) : ∀ (j x : Nat), x < (reachTo R i j).length → ∃ v : Nat, v < j ∧ gI (reachTo R i j) x = v
  | 0, x, h => by simp [reachTo] at h
  | j + 1, x, h => by
    unfold reachTo at h ⊢
    split at h
    · rename_i hc
      rw [if_pos hc]
      by_cases e : x < (reachTo R i j).length
      · obtain ⟨v, h1, h2⟩ := reachTo_nat i j x e
        exact ⟨v, by omega, by simpa [gI, List.getElem?_append_left e] using h2⟩
      · have e3 : x = (reachTo R i j).length := by simp at h; omega
        exact ⟨j, by omega, by subst e3; simp [gI]⟩
    · rename_i hc
      rw [if_neg hc]
      obtain ⟨v, h1, h2⟩ := reachTo_nat i j x h
      exact ⟨v, by omega, h2⟩

theorem parts_ok (us : List Int) (hs : List (List Int)) (hn : us.length ≤ 9) : POk (rB us.length hs) us.length (fun _ => false) (partsOf us hs) :=
  POk.of rB_refl rB_trans 9 _ ClosedL.none (by omega)
theorem parts_mono (us : List Int) (hs : List (List Int)) : ∀ q, q < (partsOf us hs).length → ∀ x y, x < y → y < (gR (partsOf us hs) q).length → gI (gR (partsOf us hs) q) x < gI (gR (partsOf us hs) q) y := by
  intro q hq x y hxy hy
  have hm : gR (partsOf us hs) q ∈ partsOf us hs := by
    unfold gR; rw [List.getD_eq_getElem?_getD, List.getElem?_eq_getElem hq]; exact List.getElem_mem hq
  obtain ⟨i, _, _, he⟩ := partsS_mem _ _ _ hm
  rw [he] at hy ⊢
  exact partTo_mono _ _ _ _ hxy hy
end Go.Proofs.Ytfnjcjoomaeapaa
