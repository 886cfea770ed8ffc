/- walks: the reference, the text of a pair; no condition. -/
import Derived.Test.YtnfmpddhcjkjbaaGreatDoorV28
namespace Go.Proofs.YtnfmpddhcjkjbaaGreatDoor
open Go Go.RowKit Go.SX
theorem rdig_last : ∀ (N : Nat), N ≠ 0 → ∃ l b, rdig N = l ++ [b] ∧ b ≠ 48 := by
  intro N
  induction N using Nat.strongRecOn with
  | _ N ih =>
    intro h
    rw [rdig_pos h]
    by_cases h2 : N / 10 = 0
    · rw [h2, rdig_zero]
      refine ⟨[], _, rfl, ?_⟩
      intro e
      have := congrArg UInt8.toNat e
      rw [digit_nat] at this
      have h48 : (48 : UInt8).toNat = 48 := rfl
      omega
    · obtain ⟨l, b, e, hb⟩ := ih (N / 10) (by omega) h2
      exact ⟨_ :: l, b, by rw [e]; rfl, hb⟩
theorem fmtN_head {N : Nat} (h : N ≠ 0) : (fmtN N).getD 0 0 ≠ 48 := by
  obtain ⟨l, b, e, hb⟩ := rdig_last N h
  unfold fmtN
  rw [if_neg h, e]
  simpa using hb
theorem trimR_eq (c : UInt8) (l : List UInt8) : ∃ m, l = trimR c l ++ List.replicate m c := by
  unfold trimR
  refine ⟨(l.reverse.takeWhile (· == c)).length, ?_⟩
  have h : l.reverse = l.reverse.takeWhile (· == c) ++ l.reverse.dropWhile (· == c) := (List.takeWhile_append_dropWhile).symm
  have h2 : l.reverse.takeWhile (· == c) = List.replicate (l.reverse.takeWhile (· == c)).length c := by
    rw [List.eq_replicate_iff]
    refine ⟨rfl, fun b hb => ?_⟩
    have := List.all_takeWhile (p := (· == c)) (l := l.reverse)
    rw [List.all_eq_true] at this
    simpa using this b hb
  have h3 := congrArg List.reverse h
  rw [List.reverse_reverse, List.reverse_append] at h3
  conv => lhs; rw [h3]
  congr 1
  rw [h2, List.reverse_replicate, List.length_replicate]
theorem trimR_done {c : UInt8} {l : List UInt8} (h : trimR c l ≠ []) : ∃ a b, trimR c l = a ++ [b] ∧ b ≠ c := by
  unfold trimR at *
  cases hd : l.reverse.dropWhile (· == c) with
  | nil => rw [hd] at h; exact absurd rfl h
  | cons b r =>
    refine ⟨r.reverse, b, by simp, ?_⟩
    have := List.head_dropWhile_not (p := (· == c)) (l := l.reverse) (by rw [hd]; simp)
    simp only [hd, List.head_cons] at this
    simpa using this
theorem dval_zero : ∀ {l : List UInt8}, (∀ b ∈ l, isD b = true) → dval l = 0 → ∀ b ∈ l, b = 48 := by
  have aux : ∀ (l : List UInt8) (a : Nat), (∀ b ∈ l, isD b = true) → l.foldl (fun a b => a * 10 + (b.toNat - 48)) a = 0 → a = 0 ∧ ∀ b ∈ l, b = 48 := by
    intro l
    induction l with
    | nil => intro a _ h; exact ⟨h, by simp⟩
    | cons b r ih =>
      intro a hd h
      rw [List.foldl_cons] at h
      obtain ⟨h1, h2⟩ := ih _ (fun x hx => hd x (by simp [hx])) h
      have h3 := hd b (by simp)
      unfold isD at h3
      simp only [Bool.and_eq_true, decide_eq_true_eq] at h3
      refine ⟨by omega, fun x hx => ?_⟩
      rcases List.mem_cons.1 hx with rfl | hx
      · apply UInt8.toNat_inj.1
        have h48 : (48 : UInt8).toNat = 48 := rfl
        omega
      · exact h2 x hx
  intro l hd h
  exact (aux l 0 hd h).2
theorem isD_of {b : UInt8} (h : 48 ≤ b.toNat ∧ b.toNat ≤ 57) : isD b = true := by
  unfold isD; rw [decide_eq_true h.1, decide_eq_true h.2]; rfl
theorem padZ_dig (k N : Nat) : ∀ b ∈ padZ k (fmtN N), isD b = true := by
  intro b hb
  unfold padZ at hb
  split at hb
  · rcases List.mem_append.1 hb with h | h
    · rw [List.mem_replicate] at h; rw [h.2]; rfl
    · exact isD_of (fmtN_dig b h)
  · exact isD_of (fmtN_dig b hb)
theorem padZ_zero {k N : Nat} (h : ∀ b ∈ padZ k (fmtN N), b = 48) : N = 0 := by
  refine Decidable.of_not_not fun hN => ?_
  have h1 := fmtN_head hN
  have h2 := fmtN_pos N
  apply h1
  rw [List.getD_eq_getElem?_getD, List.getElem?_eq_getElem h2]
  apply h
  unfold padZ
  have := List.getElem_mem h2
  split
  · exact List.mem_append_right _ this
  · exact this
/-- a decimal that is written without zeros at its end -/
def txt (z : Int) (k : Nat) : List UInt8 :=
  (if z < 0 then [45] else []) ++ ((padZ k (fmtN z.natAbs)).take ((padZ k (fmtN z.natAbs)).length - k) ++ (if trimR 48 ((padZ k (fmtN z.natAbs)).drop ((padZ k (fmtN z.natAbs)).length - k)) = [] then [] else 46 :: trimR 48 ((padZ k (fmtN z.natAbs)).drop ((padZ k (fmtN z.natAbs)).length - k))))
theorem txtZ_eq (z : Int) (k : Nat) : txtZ z k = if 15 < (padZ k (fmtN z.natAbs)).length - k then ([], 32) else (txt z k, 0) := by
  unfold txtZ txt
  dsimp only
  split
  · rfl
  · rw [List.append_assoc]
/-- a decimal so written is read, if it is not too long -/
theorem reaS_txt (z : Int) (k : Nat) : (reaS (txt z k) k true).2 = !decide (15 < (padZ k (fmtN z.natAbs)).length - k) := by
  have hdg := padZ_dig k z.natAbs
  have hz := padZ_zero (k := k) (N := z.natAbs)
  have hpl := padZ_len k (fmtN z.natAbs)
  have hhead : 1 < (padZ k (fmtN z.natAbs)).length - k → (padZ k (fmtN z.natAbs)).getD 0 0 ≠ 48 := by
    intro h
    unfold padZ at h ⊢
    split at h
    · rename_i hc
      simp only [List.length_append, List.length_replicate] at h; omega
    · rename_i hc
      rw [if_neg hc]
      apply fmtN_head
      intro e
      rw [e] at h
      simp [fmtN] at h
      omega
  unfold txt
  generalize padZ k (fmtN z.natAbs) = s at *
  obtain ⟨n, hn⟩ : ∃ n, s.length - k = n := ⟨_, rfl⟩
  rw [hn] at hhead ⊢
  have hn0 : 0 < n := by omega
  have hwl : (s.take n).length = n := by simp; omega
  have hdl : (s.drop n).length = k := by simp; omega
  have hsplit : s = s.take n ++ s.drop n := (List.take_append_drop n s).symm
  have hwd : ∀ b ∈ s.take n, isD b = true := fun b hb => hdg b (List.mem_of_mem_take hb)
  have hdd : ∀ b ∈ s.drop n, isD b = true := fun b hb => hdg b (List.mem_of_mem_drop hb)
  have hw0 : (s.take n).getD 0 0 = s.getD 0 0 := by
    rw [List.getD_eq_getElem?_getD, List.getD_eq_getElem?_getD, List.getElem?_take, if_pos hn0]
  rw [← hw0] at hhead
  rw [hsplit] at hz
  clear hsplit hw0 hdg hpl hn
  generalize s.take n = wh at *
  generalize s.drop n = d at *
  clear s
  obtain ⟨m, hm⟩ := trimR_eq 48 d
  have hdone := trimR_done (c := 48) (l := d)
  generalize trimR 48 d = p at *
  have hpd : ∀ b ∈ p, isD b = true := fun b hb => hdd b (by rw [hm]; exact List.mem_append_left _ hb)
  have hpk : p.length ≤ k := by rw [← hdl, hm]; simp
  have hz2 : (∀ b ∈ wh ++ p, b = 48) → z.natAbs = 0 := fun h => hz fun b hb => by
    rcases List.mem_append.1 hb with hb | hb
    · exact h b (List.mem_append_left _ hb)
    · rw [hm] at hb
      rcases List.mem_append.1 hb with hb | hb
      · exact h b (List.mem_append_right _ hb)
      · rw [List.mem_replicate] at hb; exact hb.2
  -- the part without the sign
  have hcore : ∀ neg : Bool, (neg = true → z < 0) → (reaU neg (wh ++ (if p = [] then [] else 46 :: p)) k).2 = !decide (15 < n) := by
    intro neg hneg
    have hdig : digs (wh ++ (if p = [] then [] else 46 :: p)) = n := by
      rw [digs_app hwd, hwl]
      split
      · rfl
      · rfl
    unfold reaU
    rw [hdig]
    have hgo : (¬ (n = 0 ∨ n > 15 ∨ (n > 1 ∧ (wh ++ (if p = [] then [] else 46 :: p)).getD 0 0 = 48))) ↔ ¬ 15 < n := by
      constructor
      · intro h h2; exact h (.inr (.inl h2))
      · rintro h (h2 | h2 | h2)
        · omega
        · exact h h2
        · refine hhead h2.1 ?_
          have h3 := h2.2
          rw [List.getD_eq_getElem?_getD, List.getElem?_append_left (by omega), ← List.getD_eq_getElem?_getD] at h3
          exact h3
    by_cases h15 : 15 < n
    · rw [if_pos (Decidable.of_not_not fun h => (hgo.1 h) h15), decide_eq_true h15]; rfl
    · rw [if_neg (hgo.2 h15), decide_eq_false h15]
      have e1 : (wh ++ (if p = [] then [] else 46 :: p)).take n = wh := by rw [List.take_append_of_le_length (by omega), ← hwl, List.take_length]
      have e2 : (wh ++ (if p = [] then [] else 46 :: p)).drop n = (if p = [] then [] else 46 :: p) := by rw [← hwl, List.drop_left]
      rw [e1, e2]
      by_cases hp : p = []
      · rw [if_pos hp]
        subst hp
        show (reaN wh 0 neg).2 = true
        unfold reaN
        by_cases hd0 : (neg && decide (dval wh = 0)) = true
        · exfalso
          simp only [Bool.and_eq_true, decide_eq_true_eq] at hd0
          have := hz2 (by simpa using dval_zero hwd hd0.2)
          have := hneg hd0.1
          omega
        · rw [if_neg hd0]
      · rw [if_neg hp]
        have hda := digs_all hpd
        have hpl : p.length ≠ 0 := fun h => hp (List.length_eq_zero_iff.1 h)
        show (reaR neg wh (46 :: p) k).2 = true
        unfold reaR
        simp only [if_true]
        rw [hda, if_neg (by omega)]
        unfold reaN
        by_cases hd0 : (neg && decide (dval (wh ++ p) = 0)) = true
        · exfalso
          simp only [Bool.and_eq_true, decide_eq_true_eq] at hd0
          have := hz2 (dval_zero (fun b hb => by
            rcases List.mem_append.1 hb with hb | hb
            · exact hwd b hb
            · exact hpd b hb) hd0.2)
          have := hneg hd0.1
          omega
        · rw [if_neg hd0]
  by_cases hzn : z < 0
  · rw [if_pos hzn]
    unfold reaS
    have : reaNeg ([45] ++ (wh ++ (if p = [] then [] else 46 :: p))) true = true := by
      unfold reaNeg; simp
    rw [this, if_pos rfl]
    exact hcore true fun _ => hzn
  · rw [if_neg hzn, List.nil_append]
    unfold reaS
    have : reaNeg (wh ++ (if p = [] then [] else 46 :: p)) true = false := by
      unfold reaNeg
      have h1 : (wh ++ (if p = [] then [] else 46 :: p)).getD 0 0 = wh.getD 0 0 := by
        rw [List.getD_eq_getElem?_getD, List.getElem?_append_left (by omega), ← List.getD_eq_getElem?_getD]
      rw [h1]
      have h2 : wh.getD 0 0 ≠ 45 := by
        intro e
        have := hwd (wh.getD 0 0) (by rw [List.getD_eq_getElem?_getD, List.getElem?_eq_getElem (by omega)]; exact List.getElem_mem _)
        rw [e] at this
        exact absurd this (by decide)
      rw [decide_eq_false h2, Bool.and_false, Bool.and_false]
    rw [this, if_neg Bool.false_ne_true]
    exact hcore false fun h => by cases h
theorem wrt_split (z : Int) {k : Nat} (hk : 0 < k) : ∃ pre d : List UInt8, wrt z k = pre ++ (46 :: d) ∧ txt z k = pre ++ (if trimR 48 d = [] then [] else 46 :: trimR 48 d) ∧ (∀ b ∈ d, isD b = true) := by
  unfold wrt txt
  have hdg := padZ_dig k z.natAbs
  generalize padZ k (fmtN z.natAbs) = s at *
  refine ⟨(if z < 0 then [45] else []) ++ s.take (s.length - k), s.drop (s.length - k), ?_, ?_, fun b hb => hdg b (List.mem_of_mem_drop hb)⟩
  · rw [if_pos hk, List.append_assoc]
  · rw [List.append_assoc]
theorem wrt_zero (z : Int) : wrt z 0 = txt z 0 ∧ ∃ l b, wrt z 0 = l ++ [b] ∧ isD b = true := by
  unfold wrt txt
  have hdg := padZ_dig 0 z.natAbs
  have hpl := padZ_len 0 (fmtN z.natAbs)
  generalize padZ 0 (fmtN z.natAbs) = s at *
  have e : trimR 48 (s.drop (s.length - 0)) = [] := by
    rw [Nat.sub_zero, List.drop_length]; rfl
  rw [e, if_neg (Nat.lt_irrefl 0), if_pos (rfl : ([] : List UInt8) = []), List.append_nil, Nat.sub_zero, List.take_length]
  refine ⟨rfl, (if z < 0 then [45] else []) ++ s.take (s.length - 1), s.getD (s.length - 1) 0, ?_, ?_⟩
  · rw [List.append_assoc, ← snoc_of hpl]
  · refine hdg _ ?_
    rw [List.getD_eq_getElem?_getD, List.getElem?_eq_getElem (by omega)]
    exact List.getElem_mem _
theorem wrt_len (z : Int) (hz : z.natAbs < BB ^ 32) {k : Nat} (hk : k ≤ 9) : (wrt z k).length ≤ 2000 := by
  have hl : (fmtN z.natAbs).length ≤ 309 := fmtN_len (by omega) (Nat.lt_of_lt_of_le hz big309)
  have h2 : (padZ k (fmtN z.natAbs)).length ≤ 1000 := by
    unfold padZ; split
    · simp only [List.length_append, List.length_replicate]; omega
    · omega
  unfold wrt
  generalize padZ k (fmtN z.natAbs) = s at *
  obtain ⟨sg, hsg⟩ : ∃ sg : List UInt8, (if z < 0 then [45] else []) = sg := ⟨_, rfl⟩
  have h3 : sg.length ≤ 1 := by rw [← hsg]; split <;> simp
  rw [hsg]
  split
  · simp only [List.length_append, List.length_take, List.length_drop, List.length_cons]; omega
  · simp only [List.length_append]; omega
theorem last_snoc (l : List UInt8) (b : UInt8) : (l ++ [b]).getD ((l ++ [b]).length - 1) 0 = b := by
  rw [List.getD_eq_getElem?_getD, List.length_append, List.length_singleton, Nat.add_sub_cancel, List.getElem?_append_right (Nat.le_refl _)]
  simp
theorem take_snoc (l : List UInt8) (b : UInt8) : (l ++ [b]).take ((l ++ [b]).length - 1) = l := by
  rw [List.length_append, List.length_singleton, Nat.add_sub_cancel, List.take_left]
set_option smartUnfolding false in
set_option maxRecDepth 100000 in
set_option maxHeartbeats 4000000 in
theorem text_r {r : RQ} (hr : r.In) (n : Int) : Pure Tryz.prog 138 [SV.c (.agg r.A), SV.c (.int .i64 n)] (resS (txtQ r n)) := by
  refine sx_pureC [8, 10] tt_ok mixed at138 _ _ rfl rfl fun w => ?_
  have he := exact_r hr n
  rcases Decidable.em (r.ok = true) with hk | hk
  case inr =>
    have hk : r.ok = false := by simpa using hk
    rw [exaQ, hk, Bool.not_false, if_pos rfl] at he
    refine ⟨r.A_size, .inl ⟨_, he, fun _ => ⟨?_, trivial⟩, nofun⟩⟩
    rw [txtQ, hk, Bool.not_false, if_pos rfl]; rfl
  rcases Decidable.em (n < 0 ∨ n > 9) with hn | hn
  · rw [exaQ, hk, Bool.not_true, if_neg Bool.false_ne_true, if_pos hn] at he
    refine ⟨r.A_size, .inl ⟨_, he, fun _ => ⟨?_, trivial⟩, nofun⟩⟩
    rw [txtQ, hk, Bool.not_true, if_neg Bool.false_ne_true, if_pos hn]; rfl
  rw [exaQ, hk, Bool.not_true, if_neg Bool.false_ne_true, if_neg hn] at he
  obtain ⟨k, rfl⟩ : ∃ k : Nat, n = k := ⟨n.toNat, by omega⟩
  have hk9 : k ≤ 9 := by omega
  have hrd := round_r hr k 1
  rw [rndQ, hk, Bool.not_true, if_neg Bool.false_ne_true, if_neg hn, if_neg (by omega)] at hrd
  have hlt := rndZ_lt hk hk9 1
  rw [Int.toNat_natCast] at he hrd
  rw [txtQ, hk, Bool.not_true, if_neg Bool.false_ne_true, if_neg hn, Int.toNat_natCast]
  have hgoal : (if r.p * ((tp k : Nat) : Int) % r.q ≠ 0 then (([], 32) : List UInt8 × Int) else txtZ (r.p * ((tp k : Nat) : Int) / r.q) k) = if decide (r.p * ((tp k : Nat) : Int) % r.q = 0) = true ∧ ¬ 15 < (padZ k (fmtN (rndZ 1 (r.p * ((tp k : Nat) : Int)) r.q).natAbs)).length - k then (txt (rndZ 1 (r.p * ((tp k : Nat) : Int)) r.q) k, 0) else ([], 32) := by
    by_cases h0 : r.p * ((tp k : Nat) : Int) % r.q = 0
    · rw [if_neg (by simpa using h0), txtZ_eq]
      have e : rndZ 1 (r.p * ((tp k : Nat) : Int)) r.q = r.p * ((tp k : Nat) : Int) / r.q := by unfold rndZ; rw [if_pos h0]
      rw [e]
      by_cases h15 : 15 < (padZ k (fmtN (r.p * ((tp k : Nat) : Int) / r.q).natAbs)).length - k
      · rw [if_pos h15, if_neg (fun h => h.2 h15)]
      · rw [if_neg h15, if_pos ⟨decide_eq_true h0, h15⟩]
    · rw [if_pos h0, if_neg (fun h => h0 (of_decide_eq_true h.1))]
  rw [hgoal]
  generalize rndZ 1 (r.p * ((tp k : Nat) : Int)) r.q = v at *
  generalize decide (r.p * ((tp k : Nat) : Int) % r.q = 0) = is at *
  have hwr := written_r (isI_e hlt) hk9
  have hwl := wrt_len v hlt hk9
  have hrd : Pure Tryz.prog 104 [SV.c (.agg r.A), SV.c (.int .i64 (k : Nat)), SV.c (.int .i64 1)] (.tuple #[.agg (eA v), .int .i64 0]) := hrd
  refine ⟨r.A_size, .inl ⟨_, he, nofun, fun _ => .inl ⟨_, hrd, eA_fits _, .inl ⟨_, hwr, ?_⟩⟩⟩⟩
  refine ⟨fun f1 m1 => ∃ (t l : List UInt8) (b : UInt8), t = l ++ [b] ∧ t.length ≤ 2000 ∧ txt v k = (if b = 46 then l else t) ∧ f1 = [(1, SV.c (.int .i64 k)), (6, SV.c (.bool is)), (10, SV.c (.string (S t)))] ∧ m1 = [], ?_, ?_⟩
  · refine ⟨fun q f m => ∃ t : List UInt8, q = t.length ∧ t.length ≤ 2000 ∧ (k = 0 → t = wrt v k) ∧ (0 < k → ∀ pre d, wrt v k = pre ++ (46 :: d) → ∃ d2, t = pre ++ (46 :: d2) ∧ trimR 48 d2 = trimR 48 d) ∧ f = [(1, SV.c (.int .i64 k)), (6, SV.c (.bool is)), (10, SV.c (.string (S t)))] ∧ m = [], (wrt v k).length, ⟨[(1, SV.c (.int .i64 k)), (6, SV.c (.bool is)), (10, SV.c (.string (S (wrt v k))))], [], ⟨wrt v k, rfl, hwl, fun _ => rfl, fun _ pre d e => ⟨d, e, rfl⟩, rfl, rfl⟩, ⟨rfl, rfl, rfl, trivial⟩, trivial, rfl⟩, ?_⟩
    rintro q f m ⟨t, rfl, htl, h0, hp, rfl, rfl⟩
    refine ⟨fun h1 => ?_, fun h1 => ⟨nofun, fun _ => ?_⟩⟩
    · have h1 : 0 < k := by have := of_decide_eq_true h1; omega
      obtain ⟨pre, d, e1, e2, e3⟩ := wrt_split v h1
      obtain ⟨d2, rfl, htr⟩ := hp h1 pre d e1
      have hlen : 0 < (pre ++ (46 :: d2)).length := by simp; omega
      have hn1 : IntKind.i64.wrap (((pre ++ (46 :: d2)).length : Int) - 1) = (((pre ++ (46 :: d2)).length - 1 : Nat) : Int) := by rw [i64_in (by omega)]; omega
      have hx := runs_idx (E := (envP Tryz.prog tt Tryz.f138.ntmps w [8, 10]).toEnv) Tryz.underlying9 (l := pre ++ (46 :: d2)) (k := .i64) ((pre ++ (46 :: d2)).length - 1) hn1 (by omega)
      have c48 := u8_eq ((pre ++ (46 :: d2)).getD ((pre ++ (46 :: d2)).length - 1) 0) 48
      have h48 : (48 : UInt8).toNat = 48 := rfl
      rw [h48] at c48
      refine ⟨_, fun w _ => run_len_S Tryz.underlying9 w, _, hx, fun h2 => ?_, fun h2 => ?_⟩
      · have h2 := of_decide_eq_true (c48.symm.trans h2)
        have hd2 : d2 ≠ [] := by
          intro e
          subst e
          rw [last_snoc] at h2
          exact absurd h2 (by decide)
        obtain ⟨d3, x, rfl⟩ : ∃ d3 x, d2 = d3 ++ [x] := ⟨_, _, snoc_of (List.length_pos_iff.2 hd2)⟩
        have et : pre ++ (46 :: (d3 ++ [x])) = (pre ++ (46 :: d3)) ++ [x] := by simp
        rw [et, last_snoc] at h2
        subst h2
        have hsl := runs_hi (E := (envP Tryz.prog tt Tryz.f138.ntmps w [8, 10]).toEnv) Tryz.underlying9 (l := pre ++ (46 :: (d3 ++ [48]))) (k := .i64) ((pre ++ (46 :: (d3 ++ [48]))).length - 1) hn1 (by omega)
        have etk : (pre ++ (46 :: (d3 ++ [48]))).take ((pre ++ (46 :: (d3 ++ [48]))).length - 1) = pre ++ (46 :: d3) := by rw [et, take_snoc]
        rw [etk] at hsl
        refine ⟨_, fun w _ => run_len_S Tryz.underlying9 w, _, hsl, (pre ++ (46 :: d3)).length, _, _, by rw [et]; simp, ⟨_, rfl, ?_, fun e => absurd e (by omega), fun _ pre' d' e' => ?_, rfl, rfl⟩, ⟨rfl, rfl, rfl, trivial⟩, trivial, rfl⟩
        · rw [et] at htl; simp at htl ⊢; omega
        · obtain ⟨d4, e4, e5⟩ := hp h1 pre' d' e'
          rw [et] at e4
          have e6 : ∃ d5, d4 = d5 ++ [48] ∧ pre ++ (46 :: d3) = pre' ++ (46 :: d5) := by
            rcases List.eq_nil_or_concat d4 with hd4 | ⟨d5, y, hd4⟩
            · subst hd4
              exact absurd (List.append_inj' e4 rfl).2 (by decide)
            · rw [List.concat_eq_append] at hd4
              subst hd4
              rw [show pre' ++ (46 :: (d5 ++ [y])) = (pre' ++ (46 :: d5)) ++ [y] by simp] at e4
              obtain ⟨ea, eb⟩ := List.append_inj' e4 rfl
              simp only [List.cons.injEq, and_true] at eb
              exact ⟨d5, by rw [← eb], ea⟩
          obtain ⟨d5, rfl, e7⟩ := e6
          refine ⟨d5, e7, ?_⟩
          rw [trimR_snoc, if_pos rfl] at e5
          exact e5
      · have h2 := of_decide_eq_false (c48.symm.trans h2)
        by_cases hd2 : d2 = []
        · subst hd2
          refine ⟨_, _, ⟨pre ++ [46], pre, 46, rfl, htl, ?_, rfl, rfl⟩, ⟨rfl, rfl, rfl, trivial⟩, trivial, rfl⟩
          rw [if_pos rfl, e2, ← htr]
          show pre ++ [] = pre
          rw [List.append_nil]
        · obtain ⟨d3, x, rfl⟩ : ∃ d3 x, d2 = d3 ++ [x] := ⟨_, _, snoc_of (List.length_pos_iff.2 hd2)⟩
          have et : pre ++ (46 :: (d3 ++ [x])) = (pre ++ (46 :: d3)) ++ [x] := by simp
          rw [et, last_snoc] at h2
          rw [trimR_snoc, if_neg h2] at htr
          have hxD : isD x = true := by
            obtain ⟨mm, hmm⟩ := trimR_eq 48 d
            refine e3 x ?_
            rw [hmm, ← htr]; simp
          have hx46 : x ≠ 46 := by rintro rfl; exact absurd hxD (by decide)
          refine ⟨_, _, ⟨pre ++ (46 :: (d3 ++ [x])), pre ++ (46 :: d3), x, et, htl, ?_, rfl, rfl⟩, ⟨rfl, rfl, rfl, trivial⟩, trivial, rfl⟩
          rw [if_neg hx46, e2, ← htr, if_neg hd2]
    · have h1 : k = 0 := by have := of_decide_eq_false h1; omega
      subst h1
      obtain ⟨e1, l, b, e2, e3⟩ := wrt_zero v
      have ht := h0 rfl
      have hb46 : b ≠ 46 := by rintro rfl; exact absurd e3 (by decide)
      refine ⟨_, _, ⟨t, l, b, by rw [ht, e2], htl, ?_, rfl, rfl⟩, ⟨rfl, rfl, rfl, trivial⟩, trivial, rfl⟩
      rw [if_neg hb46, ht, e1]
  · rintro f1 m1 ⟨t, l, b, htt, htl, ht, rfl, rfl⟩
    have hlen : t.length = l.length + 1 := by rw [htt]; simp
    have hn1 : IntKind.i64.wrap ((t.length : Int) - 1) = ((t.length - 1 : Nat) : Int) := by rw [i64_in (by omega)]; omega
    have hx := runs_idx (E := (envP Tryz.prog tt Tryz.f138.ntmps w [8, 10]).toEnv) Tryz.underlying9 (l := t) (k := .i64) (t.length - 1) hn1 (by omega)
    have hlast : t.getD (t.length - 1) 0 = b := by rw [htt, last_snoc]
    rw [hlast] at hx
    have c46 := u8_eq b 46
    have h46 : (46 : UInt8).toNat = 46 := rfl
    rw [h46] at c46
    have hsl := runs_hi (E := (envP Tryz.prog tt Tryz.f138.ntmps w [8, 10]).toEnv) Tryz.underlying9 (l := t) (k := .i64) (t.length - 1) hn1 (by omega)
    have htk : t.take (t.length - 1) = l := by rw [htt, take_snoc]
    rw [htk] at hsl
    have htxl : (txt v k).length ≤ 2000 := by rw [ht]; split <;> omega
    refine ⟨fun f1 m1 => f1 = [(1, SV.c (.int .i64 k)), (6, SV.c (.bool is)), (10, SV.c (.string (S (txt v k))))] ∧ m1 = [], ⟨_, fun w _ => run_len_S Tryz.underlying9 w, _, hx, fun h1 => ⟨_, fun w _ => run_len_S Tryz.underlying9 w, _, hsl, _, _, ⟨rfl, rfl⟩, ⟨rfl, rfl, c_str ?_, trivial⟩, trivial, rfl⟩, fun h1 => ⟨_, _, ⟨rfl, rfl⟩, ⟨rfl, rfl, c_str ?_, trivial⟩, trivial, rfl⟩⟩, ?_⟩
    · rw [ht, if_pos (of_decide_eq_true (c46.symm.trans h1))]
    · rw [ht, if_neg (of_decide_eq_false (c46.symm.trans h1))]
    rintro f1 m1 ⟨rfl, rfl⟩
    have hre := read_r (txt v k) (k : Nat) (by omega) true (by omega)
    have hok := reaS_txt v k
    generalize reaS (txt v k) (k : Nat) true = x at *
    obtain ⟨rr, okk⟩ := x
    have hre : Pure Tryz.prog 162 [SV.c (.string (S (txt v k))), SV.c (.int .i64 (k : Nat)), SV.c (.bool true)] (.tuple #[.agg rr.A, .bool okk]) := hre
    have hok : okk = !decide (15 < (padZ k (fmtN v.natAbs)).length - k) := hok
    refine .inl ⟨_, hre, RQ.A_fits _, fun h1 => ⟨fun h2 => ⟨?_, trivial⟩, fun h2 => ⟨?_, trivial⟩⟩, fun h1 => ⟨fun _ => ⟨?_, trivial⟩, nofun⟩⟩
    · have h2 := bnt h2
      rw [hok] at h2
      have h2 := of_decide_eq_true (of_bnf h2)
      rw [if_neg (fun h => h.2 h2)]; rfl
    · have h1 : is = true := of_bnf h1
      have h2 := bnf h2
      rw [hok] at h2
      have h2 := of_decide_eq_false (bnt h2)
      rw [if_pos ⟨h1, h2⟩]; rfl
    · have h1 : is = false := bnt h1
      rw [h1, if_neg (fun h => Bool.false_ne_true h.1)]; rfl
end Go.Proofs.YtnfmpddhcjkjbaaGreatDoor
