/- walks: books of quotes; no condition. -/
import Derived.Test.YtjkgmglmgndaoaaGreatDoorP31
namespace Go.Proofs.YtjkgmglmgndaoaaGreatDoor
open Go Go.RowKit Go.SX
theorem right_facts {a : QC} (h : rightQ a = true) : usable a.src = true ∧ insOk a.ins = true ∧ 0 ≤ a.day ∧ a.day ≤ 73048 := by
  unfold rightQ at h
  simp only [Bool.and_eq_true, decide_eq_true_eq] at h
  exact ⟨h.1, h.2.1, h.2.2.2.1.1, h.2.2.2.1.2⟩
theorem usable_len {l : List UInt8} (h : usable l = true) : 0 < l.length ∧ l.length ≤ 16 := by
  cases l with
  | nil => cases h
  | cons b r =>
    unfold usable at h
    simp only [Bool.and_eq_true, decide_eq_true_eq] at h
    exact ⟨by simp, h.1⟩
theorem ins_len {l : List UInt8} (h : insOk l = true) : l.length ≤ 12 := by
  unfold insOk at h
  simp only [Bool.and_eq_true, decide_eq_true_eq] at h
  exact h.2.2
/-- the key of a quote -/
def keyQ (a : QC) : List UInt8 := a.src ++ (44 :: (a.ins ++ (44 :: dayT a.day.toNat)))
theorem dayT_len (n : Nat) : (dayT n).length = 10 := rfl
theorem S_add3 (a b c : List UInt8) : (((S a ++ S [44]) ++ S b) ++ S [44]) ++ S c = S (a ++ (44 :: (b ++ (44 :: c)))) := by
  rw [S_add, S_add, S_add, S_add]
  congr 1
  simp
set_option smartUnfolding false in
set_option maxRecDepth 100000 in
theorem key_q {a : QC} (h : rightQ a = true) : Pure Tryz.prog 148 [SV.c (.string (S a.src)), SV.c (.string (S a.ins)), SV.c (.int .i64 a.day)] (.string (S (keyQ a))) := by
  refine sx_pure tt_ok mixed at148 _ _ rfl rfl fun w => ?_
  obtain ⟨h1, h2, h3, h4⟩ := right_facts h
  have h5 := usable_len h1
  have h6 := ins_len h2
  have hf := fmtd_z a.day
  rw [fmtR, if_pos ⟨h3, h4⟩] at hf
  have z1 : (S a.src ++ S [44]).size = a.src.length + 1 := by rw [S_add, S_size]; simp
  have z2 : ((S a.src ++ S [44]) ++ S a.ins).size = a.src.length + 1 + a.ins.length := by rw [S_add, S_add, S_size]; simp; omega
  have z3 : (((S a.src ++ S [44]) ++ S a.ins) ++ S [44]).size = a.src.length + 1 + a.ins.length + 1 := by rw [S_add, S_add, S_add, S_size]; simp; omega
  have hk : S (keyQ a) = (((S a.src ++ S [44]) ++ S a.ins) ++ S [44]) ++ S (dayT a.day.toNat) := (S_add3 _ _ _).symm
  rw [hk]
  refine .inl ⟨_, hf, (show (S a.src).size + (S [44]).size ≤ 9223372036854775807 by rw [S_size, S_size]; simp; omega), (show (S a.src ++ S [44]).size + (S a.ins).size ≤ 9223372036854775807 by rw [z1, S_size]; omega), (show ((S a.src ++ S [44]) ++ S a.ins).size + (S [44]).size ≤ 9223372036854775807 by rw [z2, S_size]; simp; omega), (show (((S a.src ++ S [44]) ++ S a.ins) ++ S [44]).size + (S (dayT a.day.toNat)).size ≤ 9223372036854775807 by rw [z3, S_size, dayT_len]; omega), ?_⟩
  exact ⟨rfl, trivial⟩
def mkOfQ (a : QC) : MK := ⟨keyQ a, a.known, a.void⟩
set_option smartUnfolding false in
set_option maxRecDepth 100000 in
theorem marks_q {E : Env} (hE : E.P = Tryz.prog) {v : Value} {xs : List QC} (hv : Lst E v 72 xs.length (cat QC.A xs)) (hn : xs.length ≤ 1000000000000) (hok : ∀ y ∈ xs, rightQ y = true) : OwnC E 109 [SV.c v] [] (OwnL 2000 158 3 xs.length (cat MK.A (xs.map mkOfQ))) := by
  refine sx_ownC [] tt_ok mixed at109 E hE [SV.c v] [] _ rfl rfl fun w X β hT => ?_
  obtain ⟨a, cap, rfl, hc, h4⟩ := (hv.of_old hT).shape
  refine ⟨_, fun w' _ => run_len_sl Tryz.underlying22 w', ?_⟩
  refine ⟨fun q f m => ∃ (i : Nat) (x : Value), q = xs.length - i ∧ i ≤ xs.length ∧ IsL x i ∧ f = [(3, SV.c x), (6, SV.c (.slice a xs.length cap)), (7, SV.c (.int .i64 (xs.length : Nat))), (8, SV.c (.int .i64 (i : Nat)))] ∧ m = [(2000, Blk.own x 158 3 i (cat MK.A ((xs.take i).map mkOfQ)))], xs.length, ⟨_, _, ⟨0, .slice none 0 0, by omega, by omega, .nil, rfl, rfl⟩, ⟨rfl, rfl, rfl, rfl, trivial⟩, ⟨.inr ⟨rfl, rfl, rfl⟩, trivial⟩, rfl⟩, ?_⟩
  rintro q f m ⟨i, x, rfl, hi, hx, rfl, rfl⟩
  refine ⟨fun h => ?_, fun h => ?_⟩
  · have h : i < xs.length := by have := of_decide_eq_true h; omega
    obtain ⟨b, o, rfl, h5⟩ := h4 (by omega)
    obtain ⟨y, hy⟩ : ∃ y, xs[i]? = some y := ⟨_, List.getElem?_eq_getElem h⟩
    have hE' : VOk (envC Tryz.prog tt Tryz.f109.ntmps w X (tiedK [] β)) := tt_ok
    have L1 := lst_elem hE' h5 QC.size hy (ty := 51) (ti := ti51) rfl rfl rfl (p := o + (i : Int).toNat * 72) rfl
    have k1 := key_q (hok y (List.mem_of_getElem? hy))
    refine ⟨by omega, by omega, .inl ⟨_, L1, y.fits, ?_⟩⟩
    refine ⟨_, y.g0, _, y.g1, _, y.g3, .inl ⟨_, k1, _, y.g70, _, y.g71, _, fill_mark (mkOfQ y) rfl, ?_⟩⟩
    refine .inl ⟨by decide, by decide, _, fill_mark1 (mkOfQ y), rfl, by decide, 2000, i, _, .inl rfl, by decide, (mkOfQ y).one, rfl, _, (mkOfQ y).ext3, ?_⟩
    obtain ⟨q, hq, hb⟩ := info_mark
    refine ⟨by omega, by unfold maxLen; omega, ⟨q, hq, by rw [hb]; omega⟩, by change _ = true; kernel_rfl, fun g2 cap2 => ⟨by kernel_rfl, ?_⟩⟩
    exact ⟨xs.length - (i + 1), _, _, by omega, ⟨i + 1, _, rfl, by omega, .some, rfl, rfl⟩, ⟨rfl, rfl, rfl, c_int (i64_succ (by omega)), trivial⟩, ⟨.inl (own_eq (cat_step mkOfQ MK.A hy)), trivial⟩, rfl⟩
  · have h : i = xs.length := by have := of_decide_eq_false h; omega
    subst h
    rw [List.take_length]
    exact ⟨[(2000, Blk.own x 158 3 xs.length (cat MK.A (xs.map mkOfQ)))], [], ⟨hx, rfl⟩, ⟨.inl rfl, trivial⟩, rfl⟩
set_option smartUnfolding false in
set_option maxRecDepth 100000 in
theorem marks_qr {E : Env} (hE : E.P = Tryz.prog) {v : Value} {xs : List QC} (hv : Lst E v 72 xs.length (cat QC.A xs)) (hn : xs.length ≤ 1000000000000) (hok : ∀ y ∈ xs, rightQ y = true) : OwnC E 116 [SV.c v] [] (OwnL 2000 158 3 xs.length (cat MK.A (xs.map mkOfQ))) := by
  refine sx_ownC [] tt_ok mixed at116 E hE [SV.c v] [] _ rfl rfl fun w X β hT => ?_
  obtain ⟨a, cap, rfl, hc, h4⟩ := (hv.of_old hT).shape
  refine ⟨fun q f m => ∃ (i : Nat) (x : Value), q = xs.length - i ∧ i ≤ xs.length ∧ IsL x i ∧ f = [(0, SV.c (.slice a xs.length cap)), (3, SV.c x), (4, SV.c (.int .i64 (i : Nat)))] ∧ m = [(2000, Blk.own x 158 3 i (cat MK.A ((xs.take i).map mkOfQ)))], xs.length, ⟨_, _, ⟨0, .slice none 0 0, by omega, by omega, .nil, rfl, rfl⟩, ⟨rfl, rfl, rfl, trivial⟩, ⟨.inr ⟨rfl, rfl, rfl⟩, trivial⟩, rfl⟩, ?_⟩
  rintro q f m ⟨i, x, rfl, hi, hx, rfl, rfl⟩
  refine ⟨_, fun w' _ => run_len_sl Tryz.underlying22 w', fun h => ?_, fun h => ?_⟩
  · have h : i < xs.length := by have := of_decide_eq_true h; omega
    obtain ⟨b, o, rfl, h5⟩ := h4 (by omega)
    obtain ⟨y, hy⟩ : ∃ y, xs[i]? = some y := ⟨_, List.getElem?_eq_getElem h⟩
    have hE' : VOk (envC Tryz.prog tt Tryz.f116.ntmps w X (tiedK [] β)) := tt_ok
    have L0 := lst_at hE' h5 QC.size hy y.g0 (ty := 9) (ti := ti9) rfl rfl (p := o + (i : Int).toNat * 72 + 0) rfl
    have L1 := lst_at hE' h5 QC.size hy y.g1 (ty := 9) (ti := ti9) rfl rfl (p := o + (i : Int).toNat * 72 + 1) rfl
    have L3 := lst_at hE' h5 QC.size hy y.g3 (ty := 3) (ti := ti3) rfl rfl (p := o + (i : Int).toNat * 72 + 3) rfl
    have L70 := lst_at hE' h5 QC.size hy y.g70 (ty := 3) (ti := ti3) rfl rfl (p := o + (i : Int).toNat * 72 + 70) rfl
    have L71 := lst_at hE' h5 QC.size hy y.g71 (ty := 4) (ti := ti4) rfl rfl (p := o + (i : Int).toNat * 72 + 71) rfl
    have hr := hok y (List.mem_of_getElem? hy)
    obtain ⟨q1, q2, q3, q4⟩ := right_facts hr
    have q5 := usable_len q1
    have q6 := ins_len q2
    have hf := fmtd_r y.day
    rw [fmtR, if_pos ⟨q3, q4⟩] at hf
    have z1 : (S y.src ++ S [44]).size = y.src.length + 1 := by rw [S_add, S_size]; simp
    have z2 : ((S y.src ++ S [44]) ++ S y.ins).size = y.src.length + 1 + y.ins.length := by rw [S_add, S_add, S_size]; simp; omega
    have z3 : (((S y.src ++ S [44]) ++ S y.ins) ++ S [44]).size = y.src.length + 1 + y.ins.length + 1 := by rw [S_add, S_add, S_add, S_size]; simp; omega
    have hk : S (keyQ y) = (((S y.src ++ S [44]) ++ S y.ins) ++ S [44]) ++ S (dayT y.day.toNat) := (S_add3 _ _ _).symm
    have fm : Instr.fill (fun k => [(0, 1), (1, 1), (2, 1)][k]?) ti158.zero [(0, .string ((((S y.src ++ S [44]) ++ S y.ins) ++ S [44]) ++ S (dayT y.day.toNat))), (1, .int .i64 y.known), (2, .bool y.void)] = some (mkOfQ y).A := by rw [← hk]; exact fill_mark (mkOfQ y) rfl
    refine ⟨by omega, by omega, .inl ⟨_, L3, .inl ⟨_, hf, by omega, by omega, .inl ⟨_, L0, (show (S y.src).size + (S [44]).size ≤ 9223372036854775807 by rw [S_size, S_size]; simp; omega), by omega, by omega, .inl ⟨_, L1, (show (S y.src ++ S [44]).size + (S y.ins).size ≤ 9223372036854775807 by rw [z1, S_size]; omega), (show ((S y.src ++ S [44]) ++ S y.ins).size + (S [44]).size ≤ 9223372036854775807 by rw [z2, S_size]; simp; omega), (show (((S y.src ++ S [44]) ++ S y.ins) ++ S [44]).size + (S (dayT y.day.toNat)).size ≤ 9223372036854775807 by rw [z3, S_size, dayT_len]; omega), by omega, by omega, .inl ⟨_, L70, by omega, by omega, .inl ⟨_, L71, _, fm, ?_⟩⟩⟩⟩⟩⟩⟩
    refine .inl ⟨by decide, by decide, _, fill_mark1 (mkOfQ y), rfl, by decide, 2000, i, _, .inl rfl, by decide, (mkOfQ y).one, rfl, _, (mkOfQ y).ext3, ?_⟩
    obtain ⟨q, hq, hb⟩ := info_mark
    refine ⟨by omega, by unfold maxLen; omega, ⟨q, hq, by rw [hb]; omega⟩, by change _ = true; kernel_rfl, fun g2 cap2 => ⟨by kernel_rfl, ?_⟩⟩
    exact ⟨xs.length - (i + 1), _, _, by omega, ⟨i + 1, _, rfl, by omega, .some, rfl, rfl⟩, ⟨rfl, rfl, c_int (i64_succ (by omega)), trivial⟩, ⟨.inl (own_eq (cat_step mkOfQ MK.A hy)), trivial⟩, rfl⟩
  · have h : i = xs.length := by have := of_decide_eq_false h; omega
    subst h
    rw [List.take_length]
    exact ⟨[(2000, Blk.own x 158 3 xs.length (cat MK.A (xs.map mkOfQ)))], [], ⟨hx, rfl⟩, ⟨.inl rfl, trivial⟩, rfl⟩
/-- the code of a list of actions -/
def chkQ (xs : List QC) : Int := if xs.all validQ then chkE (xs.map mkOfQ) else 141
theorem chkQ_bad {xs : List QC} {i : Nat} {y : QC} (hy : xs[i]? = some y) (h : validQ y = false) : chkQ xs = 141 := by
  unfold chkQ
  rw [if_neg]
  intro h2
  rw [List.all_eq_true] at h2
  have := h2 y (List.mem_of_getElem? hy)
  rw [h] at this; cases this
theorem chkQ_good {xs : List QC} (h : ∀ (i : Nat) (y   : QC), xs[i]? = some y → validQ y = true) : chkQ xs = chkE (xs.map mkOfQ) := by
  unfold chkQ
  rw [if_pos]
  rw [List.all_eq_true]
  intro y hy
  obtain ⟨i, hi⟩ := List.getElem?_of_mem hy
  exact h i y hi
theorem valid_right {a : QC} (h : validQ a = true) : rightQ a = true := by
  unfold validQ at h
  rw [Bool.and_eq_true] at h
  exact h.1
theorem chkQ_all {xs : List QC} (h : chkQ xs = 0) : ∀ y ∈ xs, rightQ y = true := by
  intro y hy
  have hv : xs.all validQ = true := by
    cases e : xs.all validQ with
    | true => rfl
    | false => unfold chkQ at h; rw [if_neg (by rw [e]; simp)] at h; cases h
  rw [List.all_eq_true] at hv
  exact valid_right (hv y hy)
set_option smartUnfolding false in
set_option maxRecDepth 100000 in
theorem check_q {E : Env} (hE : E.P = Tryz.prog) {v : Value} {xs : List QC} (hv : Lst E v 72 xs.length (cat QC.A xs)) (hn : xs.length ≤ 1000000000000) (hin : ∀ y ∈ xs, y.In) : OwnC E 68 [SV.c v] [] (fun x U => x = .int .i64 (chkQ xs) ∧ U = []) := by
  refine sx_ownC [] tt_ok mixed at68 E hE [SV.c v] [] _ rfl rfl fun w X β hT => ?_
  have hv' := hv.of_old hT
  have M1 := fun hok => marks_q rfl hv' hn hok
  obtain ⟨a, cap, rfl, hc, h4⟩ := hv'.shape
  refine ⟨_, fun w' _ => run_len_sl Tryz.underlying22 w', ?_⟩
  refine ⟨fun q f m => ∃ (i : Nat), q = xs.length - i ∧ i ≤ xs.length ∧ (∀ (j : Nat) (y   : QC), j < i → xs[j]? = some y → validQ y = true) ∧ f = [(0, SV.c (.slice a xs.length cap)), (5, SV.c (.slice a xs.length cap)), (6, SV.c (.int .i64 (xs.length : Nat))), (7, SV.c (.int .i64 (i : Nat)))] ∧ m = [], xs.length, ⟨_, _, ⟨0, by omega, by omega, fun j y h => by omega, rfl, rfl⟩, ⟨rfl, rfl, rfl, rfl, trivial⟩, trivial, rfl⟩, ?_⟩
  rintro q f m ⟨i, rfl, hi, hok, rfl, rfl⟩
  refine ⟨fun h => ?_, fun h => ?_⟩
  · have h : i < xs.length := by have := of_decide_eq_true h; omega
    obtain ⟨b, o, rfl, h5⟩ := h4 (by omega)
    obtain ⟨y, hy⟩ : ∃ y, xs[i]? = some y := ⟨_, List.getElem?_eq_getElem h⟩
    have hE' : VOk (envC Tryz.prog tt Tryz.f68.ntmps w X (tiedK [] β)) := tt_ok
    have L1 := lst_elem hE' h5 QC.size hy (ty := 51) (ti := ti51) rfl rfl rfl (p := o + (i : Int).toNat * 72) rfl
    have V1 := right_q (hin y (List.mem_of_getElem? hy))
    have K1 : Pure Tryz.prog 107 [SV.c (.int .i64 y.known)] (.bool (knOk y.known)) := known_q y.known
    have F1 := y.fits
    have G1 := y.g70
    generalize hY : y.A = YA at L1 V1 F1 G1
    refine ⟨by omega, by omega, .inl ⟨_, L1, F1, .inl ⟨_, V1, fun c1 => ⟨_, G1, .inl ⟨_, K1, fun c2 => ?_, fun c2 => ?_⟩⟩, fun c1 => ?_⟩⟩⟩
    · have c2 : knOk y.known = false := bnt c2
      have c2 : validQ y = false := by unfold validQ; rw [c2]; simp
      exact ⟨[], [], ⟨by rw [chkQ_bad hy c2]; rfl, rfl⟩, trivial, rfl⟩
    · have c1 : rightQ y = true := of_bnf c1
      have c2 : knOk y.known = true := of_bnf c2
      have c1 : validQ y = true := by unfold validQ; rw [c1, c2]; rfl
      refine ⟨xs.length - (i + 1), _, _, by omega, ⟨i + 1, rfl, by omega, fun j z hj hz => ?_, rfl, rfl⟩, ⟨rfl, rfl, rfl, c_int (i64_succ (by omega)), trivial⟩, trivial, rfl⟩
      rcases Nat.lt_or_ge j i with h9 | h9
      · exact hok j z h9 hz
      · have : j = i := by omega
        subst this
        rw [hy] at hz; cases hz
        exact c1
    · have c1 : rightQ y = false := bnt (by simpa using c1)
      have c2 : validQ y = false := by unfold validQ; rw [c1]; rfl
      exact ⟨fun _ => ⟨[], [], ⟨by rw [chkQ_bad hy c2]; rfl, rfl⟩, trivial, rfl⟩, fun h => absurd h (by decide)⟩
  · have h : i = xs.length := by have := of_decide_eq_false h; omega
    subst h
    have hok2 : ∀ y ∈ xs, rightQ y = true := fun y hy => by
      obtain ⟨j, hj⟩ := List.getElem?_of_mem hy
      exact valid_right (hok j y (List.getElem?_eq_some_iff.1 hj).1 hj)
    refine .inr (.inr (.inr ⟨[], [2000], [_], [], _, M1 hok2, rfl, trivial, rfl, trivial, ?_⟩))
    rintro x U ⟨hx, rfl⟩
    refine ⟨rfl, ?_⟩
    have C1 := check_own (E := (envC Tryz.prog tt Tryz.f68.ntmps w X (tiedK [] β)).toEnv) rfl (x := x) (xs := xs.map mkOfQ) (n := xs.length) (by simp)
    refine .inr (.inr (.inl ⟨[], [_], [_], _, [_], C1, rfl, ⟨.inl rfl, trivial⟩, rfl, rfl, ?_⟩))
    have e1 : chkQ xs = chkE (xs.map mkOfQ) := chkQ_good fun j y hy => hok j y (List.getElem?_eq_some_iff.1 hy).1 hy
    exact ⟨[], [], ⟨by rw [e1]; rfl, rfl⟩, trivial, rfl⟩
set_option smartUnfolding false in
set_option maxRecDepth 100000 in
theorem check_qr {E : Env} (hE : E.P = Tryz.prog) {v : Value} {xs : List QC} (hv : Lst E v 72 xs.length (cat QC.A xs)) (hn : xs.length ≤ 1000000000000) (hin : ∀ y ∈ xs, y.In) : OwnC E 73 [SV.c v] [] (fun x U => x = .int .i64 (chkQ xs) ∧ U = []) := by
  refine sx_ownC [] tt_ok mixed at73 E hE [SV.c v] [] _ rfl rfl fun w X β hT => ?_
  have hv' := hv.of_old hT
  have M1 := fun hok => marks_qr rfl hv' hn hok
  obtain ⟨a, cap, rfl, hc, h4⟩ := hv'.shape
  refine ⟨fun q f m => ∃ (i : Nat), q = xs.length - i ∧ i ≤ xs.length ∧ (∀ (j : Nat) (y   : QC), j < i → xs[j]? = some y → validQ y = true) ∧ f = [(0, SV.c (.slice a xs.length cap)), (3, SV.c (.int .i64 (i : Nat)))] ∧ m = [], xs.length, ⟨_, _, ⟨0, by omega, by omega, fun j y h => by omega, rfl, rfl⟩, ⟨rfl, rfl, trivial⟩, trivial, rfl⟩, ?_⟩
  rintro q f m ⟨i, rfl, hi, hok, rfl, rfl⟩
  refine ⟨_, fun w' _ => run_len_sl Tryz.underlying22 w', fun h => ?_, fun h => ?_⟩
  · have h : i < xs.length := by have := of_decide_eq_true h; omega
    obtain ⟨b, o, rfl, h5⟩ := h4 (by omega)
    obtain ⟨y, hy⟩ : ∃ y, xs[i]? = some y := ⟨_, List.getElem?_eq_getElem h⟩
    have hE' : VOk (envC Tryz.prog tt Tryz.f73.ntmps w X (tiedK [] β)) := tt_ok
    have L1 := lst_elem hE' h5 QC.size hy (ty := 51) (ti := ti51) rfl rfl rfl (p := o + (i : Int).toNat * 72) rfl
    have V1 := valid_q14 (hin y (List.mem_of_getElem? hy))
    generalize hY : y.A = YA at L1 V1
    refine ⟨by omega, by omega, .inl ⟨_, L1, .inl ⟨_, V1, fun c1 => ?_, fun c1 => ?_⟩⟩⟩
    · have c1 : (!validQ y) = true := c1
      have c1 : validQ y = false := by simpa using c1
      exact ⟨[], [], ⟨by rw [chkQ_bad hy c1]; rfl, rfl⟩, trivial, rfl⟩
    · have c1 : (!validQ y) = false := c1
      have c1 : validQ y = true := by simpa using c1
      refine ⟨xs.length - (i + 1), _, _, by omega, ⟨i + 1, rfl, by omega, fun j z hj hz => ?_, rfl, rfl⟩, ⟨rfl, c_int (i64_succ (by omega)), trivial⟩, trivial, rfl⟩
      rcases Nat.lt_or_ge j i with h9 | h9
      · exact hok j z h9 hz
      · have : j = i := by omega
        subst this
        rw [hy] at hz; cases hz
        exact c1
  · have h : i = xs.length := by have := of_decide_eq_false h; omega
    subst h
    have hok2 : ∀ y ∈ xs, rightQ y = true := fun y hy => by
      obtain ⟨j, hj⟩ := List.getElem?_of_mem hy
      exact valid_right (hok j y (List.getElem?_eq_some_iff.1 hj).1 hj)
    refine .inr (.inr (.inr ⟨[], [2000], [_], [], _, M1 hok2, rfl, trivial, rfl, trivial, ?_⟩))
    rintro x U ⟨hx, rfl⟩
    refine ⟨rfl, ?_⟩
    have C1 := check_ownr (E := (envC Tryz.prog tt Tryz.f73.ntmps w X (tiedK [] β)).toEnv) rfl (x := x) (xs := xs.map mkOfQ) (n := xs.length) (by simp)
    refine .inr (.inr (.inl ⟨[], [_], [_], _, [_], C1, rfl, ⟨.inl rfl, trivial⟩, rfl, rfl, ?_⟩))
    have e1 : chkQ xs = chkE (xs.map mkOfQ) := chkQ_good fun j y hy => hok j y (List.getElem?_eq_some_iff.1 hy).1 hy
    exact ⟨[], [], ⟨by rw [e1]; rfl, rfl⟩, trivial, rfl⟩



theorem info_quo : ∃ q, Tryz.prog.info? 51 = some q ∧ q.bytes = 336 := info_of (by kernel_rfl)
/-- the places that count -/
def visNQ (xs : List QC) (k : Int) : List Nat := visI (xs.map mkOfQ) k
/-- the actions that count -/
def visQs (xs : List QC) (k : Int) : List QC := if chkQ xs = 0 then (visNQ xs k).filterMap (fun i => xs[i]?) else []
def VisQQ (xs : List QC) (k : Int) (x : Value) (U : MemL) : Prop := ∃ s n, n = (visQs xs k).length ∧ x = .tuple #[s, .int .i64 (chkQ xs)] ∧ IsL s n ∧ U = [(3000, Blk.own s 51 72 n (cat QC.A (visQs xs k)))]
theorem visNQ_mem {xs : List QC} {k : Int} {i : Nat} (h : i ∈ visNQ xs k) : i < xs.length := by
  unfold visNQ visI at h
  rw [List.mem_filter, List.mem_range, List.length_map] at h
  exact h.1
theorem visNQ_len (xs : List QC) (k : Int) : (visNQ xs k).length ≤ xs.length := by
  unfold visNQ visI
  have := List.length_filter_le (visB (xs.map mkOfQ) k) (List.range (xs.map mkOfQ).length)
  simpa using this
theorem chkQ_zero {xs : List QC} (h : chkQ xs = 0) : chkE (xs.map mkOfQ) = 0 ∧ xs.length ≤ 4096 := by
  unfold chkQ at h
  split at h
  · refine ⟨h, ?_⟩
    unfold chkE at h
    split at h
    · simp at h
    · rename_i h2; simpa using h2
  · simp at h
theorem take_fmQ {xs : List QC} {l : List Nat} {j i : Nat} {y : QC} (h : l[j]? = some i) (hy : xs[i]? = some y) : (l.take (j + 1)).filterMap (fun i => xs[i]?) = (l.take j).filterMap (fun i => xs[i]?) ++ [y] := by
  rw [List.take_add_one, h, List.filterMap_append]
  simp [hy]
theorem fm_lenQ {xs : List QC} : ∀ {l : List Nat}, (∀ i ∈ l, i < xs.length) → (l.filterMap (fun i => xs[i]?)).length = l.length
  | [], _ => rfl
  | i :: r, h => by
    rw [List.filterMap_cons, List.getElem?_eq_getElem (h i (by simp))]
    simp [fm_lenQ (l := r) fun j hj => h j (by simp [hj])]
theorem fill_quo1 (a   : QC) : Instr.fill (fun k => some (k * ti51.size, ti51.size)) (madeCells ti51.zero (1 * ti51.size)) [(0, .agg a.A)] = some a.A := by kernel_rfl
theorem QC.ext72 (a   : QC) : a.A.extract 0 (0 + 1 * 72) = a.A := by
  have : a.A.size = 72 := a.size
  simp [this]
theorem ints_at {l : List Nat} {j i : Nat} (h : l[j]? = some i) : (ints (l.map fun i : Nat => (i : Int)))[j]? = some (.int .i64 ((i : Nat) : Int)) := by
  simp [ints, h]
theorem off1 (j : Nat) : offAt 0 ((j : Nat) : Int) ti3.size = j := by
  show offAt 0 ((j : Nat) : Int) 1 = j
  simp [offAt]
set_option smartUnfolding false in
set_option maxRecDepth 100000 in
theorem vis_q {E : Env} (hE : E.P = Tryz.prog) {v : Value} {k : Int} {xs : List QC} (hv : Lst E v 72 xs.length (cat QC.A xs)) (hn : xs.length ≤ 1000000000000) (hin : ∀ y ∈ xs, y.In) : OwnC E 87 [SV.c v, SV.c (.int .i64 k)] [] (VisQQ xs k) := by
  refine sx_ownC [] tt_ok mixed at87 E hE [SV.c v, SV.c (.int .i64 k)] [] _ rfl rfl fun w X β hT => ?_
  have hv' := hv.of_old hT
  have C1 := check_q rfl hv' hn hin
  have M1 := fun hok => marks_q rfl hv' hn hok
  refine .inr (.inr (.inl ⟨[], [_], [], _, [], C1, rfl, trivial, rfl, rfl, fun h => ?_, fun h => ?_⟩))
  · have h : (chkQ xs != 0) = true := h
    have h : chkQ xs ≠ 0 := by simpa using h
    have e1 : visQs xs k = [] := by rw [visQs, if_neg h]
    exact ⟨[(3000, Blk.own (.slice none 0 0) 51 72 0 #[])], [], ⟨_, 0, by rw [e1]; rfl, rfl, .nil, by rw [e1]; rfl⟩, ⟨.inr ⟨rfl, rfl, rfl⟩, trivial⟩, rfl⟩
  have h : (chkQ xs != 0) = false := h
  have h0 : chkQ xs = 0 := by simpa using h
  obtain ⟨h1, h4k⟩ := chkQ_zero h0
  have e1 : visL (xs.map mkOfQ) k = (visNQ xs k).map (fun i : Nat => (i : Int)) := by rw [visL, if_pos h1]; rfl
  have e2 : visQs xs k = (visNQ xs k).filterMap (fun i => xs[i]?) := by rw [visQs, if_pos h0]
  have hmem : ∀ i ∈ visNQ xs k, i < xs.length := fun i h => visNQ_mem h
  have hlen := visNQ_len xs k
  generalize visNQ xs k = l at e1 e2 hmem hlen
  refine .inr (.inr (.inr ⟨[], [2000], [_], [], _, M1 (chkQ_all h0), rfl, trivial, rfl, trivial, ?_⟩))
  rintro x U ⟨hx, rfl⟩
  refine ⟨rfl, ?_⟩
  have C2 := vis_own (E := (envC Tryz.prog tt Tryz.f87.ntmps w X (tiedK [] β)).toEnv) rfl (x := x) (xs := xs.map mkOfQ) (n := xs.length) (k := k) (by simp) hn
  refine .inr (.inr (.inr ⟨[], [1000], [_, _], [_], _, C2, rfl, ⟨.inl rfl, trivial⟩, rfl, trivial, ?_⟩))
  rintro r U ⟨U0, ⟨s, n, hsn, rfl, hs, rfl⟩, rfl⟩
  rw [e1] at hsn ⊢
  rw [h1]
  refine ⟨rfl, ?_⟩
  obtain ⟨sa, sc, rfl⟩ := hs.len
  refine ⟨_, fun w' _ => run_len_sl Tryz.underlying39 w', ?_⟩
  have hnl : n = l.length := by rw [hsn, List.length_map]
  obtain ⟨a, cap, rfl, hc, h4⟩ := hv'.shape
  refine ⟨fun q f m => ∃ (j : Nat) (y : Value) (N : Nat), q = l.length - j ∧ j ≤ l.length ∧ N = j ∧ IsL y N ∧ f = [(0, SV.c (.slice a xs.length cap)), (8, SV.c (.int .i64 0)), (9, SV.c y), (24, SV.c (.slice sa n sc)), (25, SV.c (.int .i64 (n : Nat))), (26, SV.c (.int .i64 (j : Nat)))] ∧ m = [(3000, Blk.own y 51 72 N (cat QC.A ((l.take j).filterMap (fun i => xs[i]?)))), (1000, Blk.own (.slice sa n sc) 3 1 n (ints (l.map fun i : Nat => (i : Int))))], l.length, ⟨_, _, ⟨0, .slice none 0 0, 0, by omega, by omega, rfl, .nil, rfl, rfl⟩, ⟨rfl, rfl, rfl, rfl, rfl, rfl, trivial⟩, ⟨.inr ⟨rfl, rfl, rfl⟩, .inl rfl, trivial⟩, rfl⟩, ?_⟩
  rintro q f m ⟨j, y, N, rfl, hj, hN, hy, rfl, rfl⟩
  refine ⟨fun h => ?_, fun h => ?_⟩
  · have h : j < n := by have := of_decide_eq_true h; omega
    obtain ⟨i, hi⟩ : ∃ i, l[j]? = some i := ⟨_, List.getElem?_eq_getElem (show j < l.length by omega)⟩
    have hil := hmem i (List.mem_of_getElem? hi)
    obtain ⟨z, hz⟩ : ∃ z, xs[i]? = some z := ⟨_, List.getElem?_eq_getElem hil⟩
    obtain ⟨b, o, rfl, h5⟩ := h4 (by omega)
    have hE' : VOk (envC Tryz.prog tt Tryz.f87.ntmps w X (tiedK [] β)) := tt_ok
    have L1 := lst_elem hE' h5 QC.size hz (ty := 51) (ti := ti51) rfl rfl rfl (p := o + ((i : Nat) : Int).toNat * 72) rfl
    rcases hs with ⟨hs1, hs2⟩ | ⟨g0, c0, hs1⟩
    · omega
    cases hs1
    refine ⟨by omega, by omega, .inr ⟨1000, g0, _, n, _, _, _, _, rfl, rfl, _, (by rw [off1]; exact ints_at hi), ?_⟩⟩
    have F1 := fill_quo1 z
    have F2 := z.fits.one
    have F3 := z.ext72
    have F4 : z.A.size = 1 * 72 := z.size
    have F5 : cat QC.A ((l.take j).filterMap (fun i => xs[i]?)) ++ z.A = cat QC.A ((l.take (j + 1)).filterMap (fun i => xs[i]?)) := by rw [take_fmQ hi hz, cat_append, cat_one]
    generalize hY : z.A = ZA at L1 F1 F2 F3 F4 F5
    refine ⟨by omega, by omega, .inl ⟨_, L1, .inl ⟨by decide, by decide, _, F1, F4, by decide, 3000, N, _, .inl rfl, by decide, F2, F4, _, F3, ?_⟩⟩⟩
    obtain ⟨q, hq, hb⟩ := info_quo
    refine ⟨by omega, by unfold maxLen; omega, ⟨q, hq, by rw [hb]; omega⟩, trivial, fun g2 cap2 => ?_⟩
    exact ⟨l.length - (j + 1), _, _, by omega, ⟨j + 1, _, N + 1, rfl, by omega, by omega, .some, rfl, rfl⟩, ⟨rfl, rfl, rfl, rfl, rfl, c_int (i64_succ (by omega)), trivial⟩, ⟨.inl (own_eq F5), .inl rfl, trivial⟩, rfl⟩
  · have h : j = l.length := by have := of_decide_eq_false h; omega
    subst h
    rw [List.take_length]
    have e3 := fm_lenQ hmem
    exact ⟨[(3000, Blk.own y 51 72 N (cat QC.A (l.filterMap (fun i => xs[i]?))))], [], ⟨y, N, by rw [e2, e3]; exact hN, by rw [h0]; rfl, hy, by rw [e2]⟩, ⟨.inl rfl, trivial⟩, rfl⟩



set_option smartUnfolding false in
set_option maxRecDepth 100000 in
theorem vis_qr {E : Env} (hE : E.P = Tryz.prog) {v : Value} {k : Int} {xs : List QC} (hv : Lst E v 72 xs.length (cat QC.A xs)) (hn : xs.length ≤ 1000000000000) (hin : ∀ y ∈ xs, y.In) : OwnC E 159 [SV.c v, SV.c (.int .i64 k)] [] (VisQQ xs k) := by
  refine sx_ownC [] tt_ok mixed at159 E hE [SV.c v, SV.c (.int .i64 k)] [] _ rfl rfl fun w X β hT => ?_
  have hv' := hv.of_old hT
  have C1 := check_qr rfl hv' hn hin
  have M1 := fun hok => marks_qr rfl hv' hn hok
  refine .inr (.inr (.inl ⟨[], [_], [], _, [], C1, rfl, trivial, rfl, rfl, fun h => ?_, fun h => ?_⟩))
  · have h : (chkQ xs != 0) = true := h
    have h : chkQ xs ≠ 0 := by simpa using h
    have e1 : visQs xs k = [] := by rw [visQs, if_neg h]
    exact ⟨[(3000, Blk.own (.slice none 0 0) 51 72 0 #[])], [], ⟨_, 0, by rw [e1]; rfl, rfl, .nil, by rw [e1]; rfl⟩, ⟨.inr ⟨rfl, rfl, rfl⟩, trivial⟩, rfl⟩
  have h : (chkQ xs != 0) = false := h
  have h0 : chkQ xs = 0 := by simpa using h
  obtain ⟨h1, h4k⟩ := chkQ_zero h0
  have e1 : visL (xs.map mkOfQ) k = (visNQ xs k).map (fun i : Nat => (i : Int)) := by rw [visL, if_pos h1]; rfl
  have e2 : visQs xs k = (visNQ xs k).filterMap (fun i => xs[i]?) := by rw [visQs, if_pos h0]
  have hmem : ∀ i ∈ visNQ xs k, i < xs.length := fun i h => visNQ_mem h
  have hlen := visNQ_len xs k
  generalize visNQ xs k = l at e1 e2 hmem hlen
  refine .inr (.inr (.inr ⟨[], [2000], [_], [], _, M1 (chkQ_all h0), rfl, trivial, rfl, trivial, ?_⟩))
  rintro x U ⟨hx, rfl⟩
  refine ⟨rfl, ?_⟩
  have C2 := vis_ownr (E := (envC Tryz.prog tt Tryz.f159.ntmps w X (tiedK [] β)).toEnv) rfl (x := x) (xs := xs.map mkOfQ) (n := xs.length) (k := k) (by simp) hn
  refine .inr (.inr (.inr ⟨[], [1000], [_, _], [_], _, C2, rfl, ⟨.inl rfl, trivial⟩, rfl, trivial, ?_⟩))
  rintro r U ⟨U0, ⟨s, n, hsn, rfl, hs, rfl⟩, rfl⟩
  rw [e1] at hsn ⊢
  rw [h1]
  refine ⟨rfl, ?_⟩
  obtain ⟨sa, sc, rfl⟩ := hs.len
  have hnl : n = l.length := by rw [hsn, List.length_map]
  obtain ⟨a, cap, rfl, hc, h4⟩ := hv'.shape
  refine ⟨fun q f m => ∃ (j : Nat) (y : Value) (N : Nat), q = l.length - j ∧ j ≤ l.length ∧ N = j ∧ IsL y N ∧ f = [(0, SV.c (.slice a xs.length cap)), (7, SV.c (.slice sa n sc)), (9, SV.c y), (10, SV.c (.int .i64 (j : Nat)))] ∧ m = [(3000, Blk.own y 51 72 N (cat QC.A ((l.take j).filterMap (fun i => xs[i]?)))), (1000, Blk.own (.slice sa n sc) 3 1 n (ints (l.map fun i : Nat => (i : Int))))], l.length, ⟨_, _, ⟨0, .slice none 0 0, 0, by omega, by omega, rfl, .nil, rfl, rfl⟩, ⟨rfl, rfl, rfl, rfl, trivial⟩, ⟨.inr ⟨rfl, rfl, rfl⟩, .inl rfl, trivial⟩, rfl⟩, ?_⟩
  rintro q f m ⟨j, y, N, rfl, hj, hN, hy, rfl, rfl⟩
  refine ⟨_, fun w' _ => run_len_sl Tryz.underlying39 w', fun h => ?_, fun h => ?_⟩
  · have h : j < n := by have := of_decide_eq_true h; omega
    obtain ⟨i, hi⟩ : ∃ i, l[j]? = some i := ⟨_, List.getElem?_eq_getElem (show j < l.length by omega)⟩
    have hil := hmem i (List.mem_of_getElem? hi)
    obtain ⟨z, hz⟩ : ∃ z, xs[i]? = some z := ⟨_, List.getElem?_eq_getElem hil⟩
    obtain ⟨b, o, rfl, h5⟩ := h4 (by omega)
    have hE' : VOk (envC Tryz.prog tt Tryz.f159.ntmps w X (tiedK [] β)) := tt_ok
    have L1 := lst_elem hE' h5 QC.size hz (ty := 51) (ti := ti51) rfl rfl rfl (p := o + ((i : Nat) : Int).toNat * 72) rfl
    rcases hs with ⟨hs1, hs2⟩ | ⟨g0, c0, hs1⟩
    · omega
    cases hs1
    refine ⟨by omega, by omega, .inr ⟨1000, g0, _, n, _, _, _, _, rfl, rfl, _, (by rw [off1]; exact ints_at hi), ?_⟩⟩
    have F1 := fill_quo1 z
    have F2 := z.fits.one
    have F3 := z.ext72
    have F4 : z.A.size = 1 * 72 := z.size
    have F5 : cat QC.A ((l.take j).filterMap (fun i => xs[i]?)) ++ z.A = cat QC.A ((l.take (j + 1)).filterMap (fun i => xs[i]?)) := by rw [take_fmQ hi hz, cat_append, cat_one]
    generalize hY : z.A = ZA at L1 F1 F2 F3 F4 F5
    refine ⟨by omega, by omega, .inl ⟨_, L1, .inl ⟨by decide, by decide, _, F1, F4, by decide, 3000, N, _, .inl rfl, by decide, F2, F4, _, F3, ?_⟩⟩⟩
    obtain ⟨q, hq, hb⟩ := info_quo
    refine ⟨by omega, by unfold maxLen; omega, ⟨q, hq, by rw [hb]; omega⟩, trivial, fun g2 cap2 => ?_⟩
    exact ⟨l.length - (j + 1), _, _, by omega, ⟨j + 1, _, N + 1, rfl, by omega, by omega, .some, rfl, rfl⟩, ⟨rfl, rfl, rfl, c_int (i64_succ (by omega)), trivial⟩, ⟨.inl (own_eq F5), .inl rfl, trivial⟩, rfl⟩
  · have h : j = l.length := by have := of_decide_eq_false h; omega
    subst h
    rw [List.take_length]
    have e3 := fm_lenQ hmem
    exact ⟨[(3000, Blk.own y 51 72 N (cat QC.A (l.filterMap (fun i => xs[i]?))))], [], ⟨y, N, by rw [e2, e3]; exact hN, by rw [h0]; rfl, hy, by rw [e2]⟩, ⟨.inl rfl, trivial⟩, rfl⟩
end Go.Proofs.YtjkgmglmgndaoaaGreatDoor
