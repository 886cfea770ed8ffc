/- what came in: quotes and policies. made quotes. made books and policies. made books and policies. the law SelectorPlays, walk. plain laws of chosen candidates. the drawn candidates. drawn candidates: valid, and all of them counted. the law SelectorSpoilt, walk. the law SelectorMajority, walk. ref14.At. the law SelectorSingle: plain laws and walk. the law SelectorLater: plain laws. the lower middle of a list: plain law. the law SelectorMiddle: plain laws; no condition. -/
import Derived.Test.YtinojijgeabfnaaGreatDoorP32
import Derived.Test.YtinojijgeabfnaaGreatDoorP24
import Derived.Test.YtinojijgeabfnaaGreatDoorP14
import Derived.Test.YtinojijgeabfnaaGreatDoorP26
import Derived.Test.YtinojijgeabfnaaGreatDoorP9
namespace Go.Proofs.YtinojijgeabfnaaGreatDoor
open Go Go.RowKit Go.SX
open ChangeShapes WideShapes
instance : Inhabited QC := ⟨noQ⟩
end Go.Proofs.YtinojijgeabfnaaGreatDoor
namespace Go.Proofs.YtinojijgeabfnaaGreatDoor
open Go Go.RowKit Go.SX
def papers : List (List UInt8) := [[65, 67, 77, 69], [66, 79, 78, 68], [71, 79, 76, 68], [88, 49], [69, 85, 82, 85, 83, 68], [85, 83, 68, 71, 66, 80]]
theorem QC.set2 (a : QC) (l : List UInt8) : a.A.setIfInBounds (0 + 2) (.string (S l)) = ({ a with cur := l } : QC).A := by kernel_rfl
/-- a quote that is made -/
def isQuote (day known : Int) (q : QC) : Prop := q.src ∈ src4 ∧ q.ins ∈ papers ∧ q.cur ∈ ([[85, 83, 68], [69, 85, 82], [71, 66, 80]] : List (List UInt8)) ∧ (0 ≤ q.day ∧ (q.day ≤ day ∨ q.day = 0)) ∧ q.known = known ∧ ((q.void = false ∧ isPrice q.price) ∨ (q.void = true ∧ q.price = zeroQ))
end Go.Proofs.YtinojijgeabfnaaGreatDoor
namespace Go.Proofs.YtinojijgeabfnaaGreatDoor
open Go Go.RowKit Go.SX
def madeQ (day : Int) (a : QC) : Prop := ∃ dd kn : Int, isQuote dd kn a ∧ 0 ≤ dd ∧ dd ≤ 73048 ∧ dd ≤ day + 1
/-- a made book -/
structure IsBook (day last : Int) (xs : List QC) : Prop where
  each : ∀ a ∈ xs, madeQ day a
  up : xs.Pairwise (fun a b => a.known < b.known)
  bd : ∀ a ∈ xs, 1 ≤ a.known ∧ a.known ≤ last
theorem IsBook.snoc {day last kn dd : Int} {xs : List QC} {y : QC} (h : IsBook day last xs) (hl : 0 ≤ last) (hk : last < kn) (hy : isQuote dd kn y) (h1 : 0 ≤ dd) (h2 : dd ≤ 73048) (h3 : dd ≤ day + 1) : IsBook day kn (xs ++ [y]) := by
  have hyk : y.known = kn := hy.2.2.2.2.1
  refine ⟨fun a ha => ?_, ?_, fun a ha => ?_⟩
  · rcases List.mem_append.1 ha with h4 | h4
    · exact h.each a h4
    · have : a = y := by simpa using h4
      rw [this]; exact ⟨dd, kn, hy, h1, h2, h3⟩
  · rw [List.pairwise_append]
    refine ⟨h.up, by simp, fun a ha b hb => ?_⟩
    have : b = y := by simpa using hb
    rw [this, hyk]
    have := (h.bd a ha).2
    omega
  · rcases List.mem_append.1 ha with h4 | h4
    · have := h.bd a h4
      omega
    · have : a = y := by simpa using h4
      rw [this, hyk]; omega
theorem madeQ_in {day : Int} {a : QC} (h : madeQ day a) : a.In := by
  obtain ⟨dd, kn, ⟨h1, h2, h3, h4, h5, h6⟩, d1, d2, d3⟩ := h
  refine ⟨?_, ?_, ?_, ?_, by omega⟩
  · rcases h6 with ⟨-, h6⟩ | ⟨-, h6⟩
    · exact h6.in_
    · rw [h6]; exact zeroQ_in
  · simp [src4] at h1; rcases h1 with h | h | h | h <;> rw [h] <;> decide
  · simp [papers] at h2; rcases h2 with h | h | h | h | h | h <;> rw [h] <;> decide
  · simp at h3; rcases h3 with h | h | h <;> rw [h] <;> decide
end Go.Proofs.YtinojijgeabfnaaGreatDoor
namespace Go.Proofs.YtinojijgeabfnaaGreatDoor
open Go Go.RowKit Go.SX
theorem fill_pol0 (r : RQ) (n : Int) {pl : List (Nat × Nat)} (hpl : pl = [(0, 1), (1, 66), (67, 1)]) : Instr.fill (fun k => pl[k]?) ti31.zero [(1, .agg r.A), (2, .int .i64 n)] = some (PL.A ⟨[], r, n⟩ (.slice none 0 0)) := by
  subst hpl
  kernel_rfl
theorem PL.set0 (p : PL) (v u : Value) : (p.A v).setIfInBounds (0 + 0) u = p.A u := by kernel_rfl
theorem polZ : PL.A ⟨[], RQ.of 0 0, 0⟩ (.slice none 0 0) = ti31.zero := by kernel_rfl
end Go.Proofs.YtinojijgeabfnaaGreatDoor
namespace Go.Proofs.YtinojijgeabfnaaGreatDoor
open Go Go.RowKit Go.SX
end Go.Proofs.YtinojijgeabfnaaGreatDoor
namespace Go.Proofs.YtinojijgeabfnaaGreatDoor
open Go Go.RowKit Go.SX
theorem chkF_ok {last : Int} : ∀ {l : List MK}, (∀ m ∈ l, 1 ≤ m.key.length ∧ m.key.length ≤ 64 ∧ last < m.known ∧ m.known ≤ 2147483647) → l.Pairwise (fun a b => a.known < b.known) → chkF last l = true
  | [], _, _ => rfl
  | m :: r, h, hp => by
    obtain ⟨h1, h2, h3, h4⟩ := h m (by simp)
    rw [List.pairwise_cons] at hp
    unfold chkF mkGood
    rw [decide_eq_true h1, decide_eq_true h2, decide_eq_true h3, decide_eq_true h4]
    simp only [Bool.true_and]
    exact chkF_ok (fun m' hm' => ⟨(h m' (by simp [hm'])).1, (h m' (by simp [hm'])).2.1, hp.1 m' hm', (h m' (by simp [hm'])).2.2.2⟩) hp.2
/-- a book whose quotes are valid and in order is one that is valid -/
theorem chk_book {xs : List QC} (hv : ∀ q ∈ xs, validQ q = true) (hl : xs.length ≤ 4096) (hp : xs.Pairwise (fun a b => a.known < b.known)) : chkQ xs = 0 := by
  unfold chkQ
  rw [if_pos (by rw [List.all_eq_true]; exact hv)]
  unfold chkE
  rw [if_neg (by rw [List.length_map]; omega), if_pos]
  refine chkF_ok (fun m hm => ?_) ?_
  · obtain ⟨q, hq, rfl⟩ := List.mem_map.1 hm
    have hvq := hv q hq
    unfold validQ at hvq
    rw [Bool.and_eq_true] at hvq
    obtain ⟨h1, h2, h3, h4⟩ := right_facts hvq.1
    have h5 := usable_len h1
    have h6 := ins_len h2
    have h7 := hvq.2
    unfold knOk at h7
    simp only [Bool.and_eq_true, decide_eq_true_eq] at h7
    have hk : (mkOfQ q).key.length = q.src.length + (q.ins.length + 12) := by
      show (keyQ q).length = _
      unfold keyQ
      simp only [List.length_append, List.length_cons, dayT_len]
    refine ⟨by omega, by omega, ?_, ?_⟩
    · show 0 < q.known; omega
    · exact h7.2
  · rw [List.pairwise_map]
    exact hp
/-- if no two have one key, all that are known and not void count -/
theorem vis_all {xs : List QC} {k : Int} (h0 : chkQ xs = 0) (hv : ∀ q ∈ xs, q.void = false ∧ q.known ≤ k) (hk : ∀ (i j : Nat) (a b : QC), xs[i]? = some a → xs[j]? = some b → keyQ a = keyQ b → i = j) : visQs xs k = xs := by
  unfold visQs
  rw [if_pos h0]
  have hf : visNQ xs k = List.range xs.length := by
    unfold visNQ visI
    rw [List.length_map, List.filter_eq_self]
    intro i hi
    obtain ⟨q, hq⟩ : ∃ q, xs[i]? = some q := ⟨_, List.getElem?_eq_getElem (List.mem_range.1 hi)⟩
    unfold visB
    rw [List.getElem?_map, hq]
    have hm := hv q (List.mem_of_getElem? hq)
    simp only [Option.map_some, mkOfQ, hm.1, Bool.not_false, Bool.true_and, hm.2, decide_true]
    rw [beq_iff_eq]
    unfold lastI
    rcases lastGo_spec k (keyQ q) (xs.map mkOfQ) 0 (-1) with ⟨h1, -⟩ | ⟨j, m, h1, h2, h3, h4, -⟩
    · exact absurd rfl (h1 i (mkOfQ q) (by rw [List.getElem?_map, hq]; rfl) hm.2)
    · rw [h4]
      rw [List.getElem?_map] at h1
      cases hj : xs[j]? with
      | none => rw [hj] at h1; cases h1
      | some b =>
        rw [hj] at h1
        cases h1
        have : j = i := hk j i b q hj hq h3
        subst this; simp
  rw [hf]
  apply List.ext_getElem?
  intro i
  have : ∀ (n : Nat), n ≤ xs.length → (List.range n).filterMap (fun i => xs[i]?) = xs.take n := by
    intro n
    induction n with
    | zero => intro _; rfl
    | succ n ih =>
      intro hn
      rw [List.range_succ, List.filterMap_append, ih (by omega), List.take_add_one]
      rw [List.getElem?_eq_getElem (show n < xs.length by omega)]
      simp [List.getElem?_eq_getElem (show n < xs.length by omega)]
  rw [this _ (Nat.le_refl _), List.take_length]
theorem cand_skip {src ins : List UInt8} {day stale : Int} : ∀ {l : List QC} {b : Option QC}, (∀ q ∈ l, q.src ≠ src) → l.foldl (candStep src ins day stale) b = b
  | [], _, _ => rfl
  | q :: r, b, h => by
    rw [List.foldl_cons, cand_skip (fun z hz => h z (by simp [hz]))]
    unfold candStep
    rw [if_neg]
    rw [decide_eq_false (h q (by simp))]; simp
theorem cand_one {src ins : List UInt8} {day stale : Int} {l : List QC} {i : Nat} {q : QC} (hq : l[i]? = some q) (h1 : q.src = src) (h2 : q.ins = ins) (h3 : q.day ≤ day) (h4 : day - stale ≤ q.day) (ho : ∀ (j : Nat) (z : QC), j ≠ i → l[j]? = some z → z.src ≠ src) : candOf ins day stale l src = some q := by
  have hi := (List.getElem?_eq_some_iff.1 hq).1
  have hl : l = l.take i ++ q :: l.drop (i + 1) := by
    rw [← drop_at hq, List.take_append_drop]
  unfold candOf
  rw [hl, List.foldl_append, List.foldl_cons]
  have e1 : (l.take i).foldl (candStep src ins day stale) none = none := cand_skip fun z hz => by
    obtain ⟨j, hj⟩ := List.getElem?_of_mem hz
    have hji : j < i := by
      have := (List.getElem?_eq_some_iff.1 hj).1
      simp at this; omega
    rw [List.getElem?_take_of_lt hji] at hj
    exact ho j z (by omega) hj
  rw [e1]
  have e2 : candStep src ins day stale none q = some q := by
    unfold candStep newer
    rw [if_pos]
    simp [h1, h2, h3, h4]
  rw [e2]
  exact cand_skip fun z hz => by
    obtain ⟨j, hj⟩ := List.getElem?_of_mem hz
    rw [List.getElem?_drop] at hj
    exact ho (i + 1 + j) z (by omega) hj
theorem fm_zip {α β : Type} {f : α → Option β} : ∀ {ss : List α} {l : List β}, ss.length = l.length → (∀ (i : Nat) (s : α), ss[i]? = some s → f s = l[i]?) → ss.filterMap f = l
  | [], [], _, _ => rfl
  | s :: ss, x :: l, hl, h => by
    have h0 := h 0 s rfl
    have h0 : f s = some x := h0
    rw [List.filterMap_cons, h0]
    simp only
    rw [fm_zip (ss := ss) (l := l) (by simpa using hl) (fun i s' hs => by have := h (i + 1) s' (by simpa using hs); simpa using this)]
end Go.Proofs.YtinojijgeabfnaaGreatDoor
namespace Go.Proofs.YtinojijgeabfnaaGreatDoor
open Go Go.RowKit Go.SX
theorem fill_q4 (s : List UInt8) (day known : Int) (r : RQ) {pl : List (Nat × Nat)} (hpl : pl = [(0, 1), (1, 1), (2, 1), (3, 1), (4, 66), (70, 1), (71, 1)]) : Instr.fill (fun k => pl[k]?) ti40.zero [(0, .string (S s)), (1, .string (S [65, 67, 77, 69])), (2, .string (S [85, 83, 68])), (3, .int .i64 day), (4, .agg r.A), (5, .int .i64 known)] = some (QC.A ⟨s, [65, 67, 77, 69], [85, 83, 68], day, r, known, false⟩) := by
  subst hpl
  kernel_rfl
set_option smartUnfolding false in
set_option maxRecDepth 100000 in
theorem pickratio3_m {a b c : RQ} : GenL 26 29 (rats [a, b, c]) 198 3 1 (RA (· ∈ [a, b, c])) := by
  intro zs k hk
  obtain ⟨r, k', h4, h5, ⟨i, rfl, h6, h7⟩, hO⟩ := next_g (n := 3) (by decide) zs k hk
  have hi : i.toNat < [a, b, c].length := by show i.toNat < 3; omega
  refine ⟨_, k', h4, h5, ⟨[a, b, c][i.toNat], rfl, List.getElem_mem hi⟩, fun E v d e hde hE hv => ?_⟩
  refine sx_ownT2 [] tt_ok mixed at26 E hE d e hde (48, 2, tb v k, tb v k') (29, 198, rats [a, b, c], rats [a, b, c]) [SV.ptr 1000 0, SV.sl 1001 0 3 3] _ rfl rfl fun w b b' hT => ?_
  have := hO _ v 1000 rfl (hv.of_old hE.symm hT)
  have hoff : 0 + i.toNat * 66 + 66 ≤ 198 := by omega
  exact ⟨nofun, fun _ => .inr ⟨_, _, _, this, ⟨rfl, trivial⟩, rfl, h6, by show i < 3; omega, hoff, _, rats_get hi, RQ.A_fits _, rfl, rfl, rfl, trivial⟩⟩
def cmpQ (i : Nat) (s : List UInt8) (d a : Int) : QC := ⟨s, [65, 67, 77, 69], [85, 83, 68], 9497 - d, (mkQ a 1).1, ((i + 1 : Nat) : Int), false⟩
def isCmp (i : Nat) (q : QC) : Prop := ∃ s d a, src4[i]? = some s ∧ 0 ≤ d ∧ d ≤ 3 ∧ 90 ≤ a ∧ a ≤ 109 ∧ q = cmpQ i s d a
def tol3 : List RQ := [(mkQ 0 1).1, (mkQ 1 100).1, (mkQ 5 100).1]
def cmpP (n : Nat) (tol : RQ) : PL := ⟨src4.take n, tol, 3⟩
/-- what the drawn candidates are -/
def CmpQ (k : Nat) (v : Value) (x : Value) (U : MemL) : Prop := ∃ (l : List QC) (tol : RQ) (y z : Value) (n k' : Nat), k ≤ k' ∧ k' ≤ k + 20 ∧ 1 ≤ n ∧ n ≤ 4 ∧ l.length = n ∧ (∀ i q, l[i]? = some q → isCmp i q) ∧ tol ∈ tol3 ∧ IsL y n ∧ IsL z n ∧ x = .tuple #[y, .agg ((cmpP n tol).A z)] ∧ U = [(1000, Blk.row 48 2 (tb v k')), (3000, Blk.own y 40 72 n (cat QC.A l)), (9101, Blk.own z 9 1 n (cat strA (cmpP n tol).srcs))]
set_option smartUnfolding false in
set_option maxRecDepth 100000 in
theorem comparable_z {E : Env} (hE : E.P = Tryz.prog) {v : Value} {zs : List Int} (hv : Tp E v zs) {k : Nat} (hk : k + 20 ≤ 4000000000000000000) : OwnC E 29 [SV.ptr 1000 0] [(1000, Blk.row 48 2 (tb v k))] (CmpQ k v) := by
  refine sx_ownC [] tt_ok mixed at29 E hE [SV.ptr 1000 0] [(1000, Blk.row 48 2 (tb v k))] _ rfl rfl fun w X β hT => ?_
  have hv' : Tp (envC Tryz.prog tt Tryz.f29.ntmps w X (tiedK [(1000, Blk.row 48 2 (tb v k))] β)).toEnv v zs := hv.of_old hE.symm hT
  have M1 := made_of (n := 0) (d := 1) (by decide) (by decide) (by decide) (by decide)
  have M2 := made_of (n := 1) (d := 100) (by decide) (by decide) (by decide) (by decide)
  have M3 := made_of (n := 5) (d := 100) (by decide) (by decide) (by decide) (by decide)
  obtain ⟨r2, k2, a2, b2, ⟨tol, rfl, c2⟩, O2⟩ := pickratio3_m (a := (mkQ 0 1).1) (b := (mkQ 1 100).1) (c := (mkQ 5 100).1) zs k (by omega)
  have R4 := fill_rats3 (mkQ 0 1).1 (mkQ 1 100).1 (mkQ 5 100).1
  have R5 : (rats [(mkQ 0 1).1, (mkQ 1 100).1, (mkQ 5 100).1]).size = 198 := by simp [rats, RQ.A_size]
  have P0 := fill_pol0 tol 3 (pl := [(0, 1), (1, 66), (67, 1)]) rfl
  have PF := (⟨[], tol, 3⟩ : PL).fits (v := .slice none 0 0) rfl
  generalize rats [(mkQ 0 1).1, (mkQ 1 100).1, (mkQ 5 100).1] = RS3 at *
  have c2 : tol ∈ tol3 := c2
  generalize (mkQ 0 1).1.A = RA1 at M1 R4
  generalize (mkQ 1 100).1.A = RA2 at M2 R4
  generalize (mkQ 5 100).1.A = RA3 at M3 R4
  refine .inl ⟨_, M1, .inl ⟨_, M2, .inl ⟨_, M3, ?_⟩⟩⟩
  refine .inl ⟨by decide, by decide, RS3, R4, R5, .inr (.inl ⟨_, _, _, O2 _ v 1000 12 (by decide) rfl hv', ⟨rfl, rfl, trivial⟩, rfl, _, P0, PF, ?_⟩)⟩
  clear R4 R5 P0 O2
  refine ⟨fun q f m => ∃ (i k5 : Nat) (l : List QC) (y z : Value), q = 4 - i ∧ i ≤ 4 ∧ k ≤ k5 ∧ k5 ≤ k + 1 + 4 * i ∧ IsL y i ∧ IsL z i ∧ l.length = i ∧ (∀ i q, l[i]? = some q → isCmp i q) ∧ f = [(0, SV.ptr 1000 0), (3, SV.ptr 3 0), (4, SV.c y), (5, SV.ptr 5 0), (6, SV.c (.int .i64 (i : Nat)))] ∧ m = [(3000, Blk.own y 40 72 i (cat QC.A l)), (9101, Blk.own z 9 1 i (cat strA (src4.take i))), (1000, Blk.row 48 2 (tb v k5)), (5, Blk.row 31 68 (PL.A ⟨[], tol, 3⟩ z)), (3, Blk.row 31 68 (PL.A ⟨[], RQ.of 0 0, 0⟩ (.slice none 0 0)))], 4, ⟨_, _, ⟨0, _, [], .slice none 0 0, .slice none 0 0, rfl, by omega, ?_, ?_, .nil, .nil, rfl, fun i q h => by simp at h, rfl, rfl⟩, ⟨rfl, rfl, rfl, rfl, rfl, trivial⟩, ⟨.inr ⟨rfl, rfl, rfl⟩, .inr ⟨rfl, rfl, rfl⟩, rfl, rfl, congrArg (fun A => some (Blk.row 31 68 A)) polZ.symm, trivial⟩, rfl⟩, ?_⟩
  · omega
  · omega
  rintro q f m ⟨i, k5, l, y, z, rfl, hi, hk1, hk2, hy, hz, hl, hls, rfl, rfl⟩
  obtain ⟨r6, k6, a6, b6, ⟨i6, rfl, c6⟩, O6⟩ := next_g (n := 4) (by decide) zs k5 (by omega)
  have e6 : IntKind.i64.wrap (1 + i6) = 1 + i6 := i64_in (by omega)
  have G0 := PL.g0 ⟨[], tol, 3⟩ z
  have S0 := fun u => PL.set0 ⟨[], tol, 3⟩ z u
  have PF2 : Fits (PL.A ⟨[], tol, 3⟩ z) 68 := by obtain ⟨ya, yc, rfl⟩ := hz.len; exact PL.fits _ rfl
  generalize hPA : PL.A ⟨[], tol, 3⟩ z = PA at *
  refine .inr (.inl ⟨_, _, _, O6 _ v 1000 rfl hv', ⟨rfl, trivial⟩, rfl, fun h => ?_, fun h => ?_⟩)
  · have h : (i : Int) < IntKind.i64.wrap (1 + i6) := of_decide_eq_true h
    rw [e6] at h
    have hi3 : i ≤ 3 := by omega
    obtain ⟨sr, hs⟩ : ∃ s, src4[i]? = some s := ⟨_, List.getElem?_eq_getElem (show i < 4 by omega)⟩
    refine .inr (.inl ⟨_, _, _, sources_o _ rfl 7777, trivial, rfl, ?_⟩)
    have g1 : (cat strA src4)[i]? = some (.string (S sr)) := by
      have := cat_get strA_size src4 i sr 0 hs (by decide)
      simpa [strA] using this
    have g2 : cat strA (src4.take i) ++ strA sr = cat strA (src4.take (i + 1)) := by rw [List.take_add_one, hs, cat_append]; simp [cat_one]
    generalize hX : cat strA src4 = XA at *
    refine ⟨by omega, by omega, _, (by rw [off_one 0 i]; simpa using g1), ?_⟩
    refine ⟨_, G0, .inl ⟨by decide, by decide, _, fill_str1 sr, rfl, by decide, 9101, i, _, .inl rfl, by decide, strA_one sr, rfl, _, strA_ext sr, ?_⟩⟩
    obtain ⟨q, hq, hb⟩ := info_str
    refine ⟨by omega, by unfold maxLen; omega, ⟨q, hq, by rw [hb]; omega⟩, trivial, fun g3 cap3 => ?_⟩
    refine ⟨by decide, rfl, _, S0 _, ?_⟩
    obtain ⟨r7, k7, a7, b7, ⟨i7, rfl, c7⟩, O7⟩ := next_g (n := 4) (by decide) zs k6 (by omega)
    obtain ⟨r8, k8, a8, b8, ⟨i8, rfl, c8⟩, O8⟩ := next_g (n := 20) (by decide) zs k7 (by omega)
    have e7 : IntKind.i64.wrap (9497 - i7) = 9497 - i7 := i64_in (by omega)
    have e8 : IntKind.i64.wrap (90 + i8) = 90 + i8 := i64_in (by omega)
    obtain ⟨r9, k9, a9, b9, ⟨i9, rfl, c9⟩, O9⟩ := pick_g (xs := [100, 100, 101, 99, 90 + i8]) (by simp) (by simp) zs k8 (by omega)
    have h9 : 90 ≤ i9 ∧ i9 ≤ 109 := by simp at c9; omega
    have O1 := made_of (n := i9) (d := 1) (by omega) (by omega) (by decide) (by decide)
    have eK : IntKind.i64.wrap ((i : Int) + 1) = ((i + 1 : Nat) : Int) := i64_succ (by omega)
    refine .inr (.inl ⟨_, _, _, O7 _ v 1000 rfl hv', ⟨rfl, trivial⟩, rfl, ?_⟩)
    refine .inr (.inl ⟨_, _, _, O8 _ v 1000 rfl hv', ⟨rfl, trivial⟩, rfl, ?_⟩)
    rw [← e8] at O9
    refine .inl ⟨by decide, by decide, ints [100, 100, 101, 99, IntKind.i64.wrap (90 + i8)], by kernel_rfl, rfl, .inr (.inl ⟨_, _, _, O9 _ v 1000 41 (by decide) rfl hv', ⟨rfl, rfl, trivial⟩, rfl, ?_⟩)⟩
    have hy2 : isCmp i (cmpQ i sr i7 i9) := ⟨sr, i7, i9, hs, by omega, by omega, by omega, by omega, rfl⟩
    have FQ := fill_q4 sr (9497 - i7) ((i + 1 : Nat) : Int) (mkQ i9 1).1 (pl := [(0, 1), (1, 1), (2, 1), (3, 1), (4, 66), (70, 1), (71, 1)]) rfl
    rw [← e7, ← eK] at FQ
    rw [show (⟨sr, [65, 67, 77, 69], [85, 83, 68], IntKind.i64.wrap (9497 - i7), (mkQ i9 1).1, IntKind.i64.wrap ((i : Int) + 1), false⟩ : QC) = cmpQ i sr i7 i9 by rw [e7, eK]; rfl] at FQ
    generalize cmpQ i sr i7 i9 = qq at *
    have F1 := fill_quo1 qq
    have F2 := qq.fits.one
    have F3 := qq.ext72
    have F4 : qq.A.size = 1 * 72 := qq.size
    have F5 : cat QC.A l ++ qq.A = cat QC.A (l ++ [qq]) := cat_snoc l qq
    have F6 := qq.fits
    generalize hY : qq.A = YA at *
    generalize (mkQ i9 1).1.A = RA9 at *
    refine .inl ⟨_, O1, ?_⟩
    refine ⟨YA, FQ, ?_⟩
    refine .inl ⟨by decide, by decide, _, F1, F4, by decide, 3000, i, _, .inl rfl, by decide, F2, F4, _, F3, ?_⟩
    obtain ⟨q2, hq2, hb2⟩ := info_quo
    refine ⟨by omega, by unfold maxLen; omega, ⟨q2, hq2, by rw [hb2]; omega⟩, trivial, fun g4 cap4 => ?_⟩
    refine ⟨4 - (i + 1), _, _, by omega, ⟨i + 1, k9, l ++ [qq], _, _, rfl, by omega, by omega, by omega, .some, .some, by simp [hl], ?_, rfl, rfl⟩, ⟨rfl, rfl, rfl, rfl, c_int (i64_succ (by omega)), trivial⟩, ⟨.inl (own_eq F5), .inl (own_eq g2), rfl, rfl, rfl, trivial⟩, rfl⟩
    intro j q hj
    rcases Nat.lt_or_ge j l.length with h1 | h1
    · rw [List.getElem?_append_left h1] at hj; exact hls j q hj
    · rw [List.getElem?_append_right h1] at hj
      have h2 : j = i := by
        have := (List.getElem?_eq_some_iff.1 hj).1
        simp at this; omega
      subst h2
      rw [hl, Nat.sub_self] at hj
      cases hj
      exact hy2
  · have h : ¬ (i : Int) < IntKind.i64.wrap (1 + i6) := of_decide_eq_false h
    rw [e6] at h
    refine ⟨PF2, by kernel_rfl, [(1000, Blk.row 48 2 (tb v k6)), (3000, Blk.own y 40 72 i (cat QC.A l)), (9101, Blk.own z 9 1 i (cat strA (src4.take i)))], [], ⟨l, tol, y, z, i, k6, by omega, by omega, by omega, by omega, hl, hls, c2, hy, hz, by rw [← hPA]; rfl, rfl⟩, ⟨rfl, .inl rfl, .inl rfl, trivial⟩, rfl⟩
end Go.Proofs.YtinojijgeabfnaaGreatDoor
namespace Go.Proofs.YtinojijgeabfnaaGreatDoor
open Go Go.RowKit Go.SX
/-- a made quote is valid -/
theorem quote_valid {dd kn : Int} {q : QC} (h : isQuote dd kn q) (hd : q.day ≤ 73048) (h1 : 1 ≤ kn) (h2 : kn ≤ 2147483647) : validQ q = true := by
  obtain ⟨a1, a2, a3, a4, a5, a6⟩ := h
  unfold validQ rightQ knOk
  have u1 : usable q.src = true := by
    simp [src4] at a1; rcases a1 with h | h | h | h <;> rw [h] <;> decide
  have u2 : insOk q.ins = true := by
    simp [papers] at a2; rcases a2 with h | h | h | h | h | h <;> rw [h] <;> decide
  have u3 : curOk q.cur = true := by
    simp at a3; rcases a3 with h | h | h <;> rw [h] <;> decide
  rw [u1, u2, u3, a5, decide_eq_true a4.1, decide_eq_true hd, decide_eq_true h1, decide_eq_true h2]
  rcases a6 with ⟨v, p⟩ | ⟨v, p⟩
  · obtain ⟨n, d, e, g1, g2, g3, g4, g5, g6, g7, g8⟩ := price_of p
    rw [v]
    have : priOk q.price = true := by
      unfold priOk sgn
      rw [g6, if_neg (by omega), if_neg (by omega)]; rfl
    simp [this]
  · rw [v, p]; rfl
/-- a drawn candidate -/
structure isCm (i : Nat) (q : QC) : Prop where
  src : src4[i]? = some q.src
  ins : q.ins = acme
  cur : q.cur = [85, 83, 68]
  d1 : 9494 ≤ q.day
  d2 : q.day ≤ 9497
  kn : q.known = ((i + 1 : Nat) : Int)
  vo : q.void = false
  pr : ∃ a : Int, q.price = (mkQ a 1).1 ∧ 77 ≤ a ∧ a ≤ 109
theorem isCmp.cm {i : Nat} {q : QC} (h : isCmp i q) : isCm i q := by
  obtain ⟨s, d, a, h1, h2, h3, h4, h5, rfl⟩ := h
  exact ⟨h1, rfl, rfl, by show 9494 ≤ 9497 - d; omega, by show 9497 - d ≤ 9497; omega, rfl, rfl, a, rfl, by omega, h5⟩
theorem isCm.lt {i : Nat} {q : QC} (h : isCm i q) : i < 4 := (List.getElem?_eq_some_iff.1 h.src).1
theorem isCm.quote {i : Nat} {q : QC} (h : isCm i q) : isQuote q.day q.known q := by
  obtain ⟨a, h1, h2, h3⟩ := h.pr
  refine ⟨List.mem_of_getElem? h.src, by rw [h.ins]; simp [papers, acme], by rw [h.cur]; simp, ⟨by have := h.d1; omega, .inl (Int.le_refl _)⟩, rfl, .inl ⟨h.vo, ?_⟩⟩
  exact ⟨a, 1, h1, by omega, by omega, by simp⟩
theorem isCm.valid {i : Nat} {q : QC} (h : isCm i q) : validQ q = true := quote_valid h.quote (by have := h.d2; omega) (by rw [h.kn]; omega) (by rw [h.kn]; have := h.lt; omega)
theorem isCm.inn {i : Nat} {q : QC} (h : isCm i q) : q.In := madeQ_in (day := q.day) ⟨q.day, q.known, h.quote, by have := h.d1; omega, by have := h.d2; omega, by omega⟩
theorem isCm.key {i : Nat} {q : QC} (h : isCm i q) : (keyQ q)[0]? = some (UInt8.ofNat (97 + i)) := by
  have hs := h.src
  have hi := h.lt
  unfold keyQ
  rcases (by omega : i = 0 ∨ i = 1 ∨ i = 2 ∨ i = 3) with rfl | rfl | rfl | rfl <;> (cases hs' : q.src with | nil => rw [hs'] at hs; cases hs | cons b r => rw [hs'] at hs; cases hs; rfl)
theorem cm_keys {l : List QC} (hl : ∀ i q, l[i]? = some q → isCm i q) (i j : Nat) (a b : QC) (ha : l[i]? = some a) (hb : l[j]? = some b) (h : keyQ a = keyQ b) : i = j := by
  have h1 := (hl i a ha).key
  have h2 := (hl j b hb).key
  rw [h, h2] at h1
  have i4 := (hl i a ha).lt
  have j4 := (hl j b hb).lt
  rcases (by omega : i = 0 ∨ i = 1 ∨ i = 2 ∨ i = 3) with rfl | rfl | rfl | rfl <;> rcases (by omega : j = 0 ∨ j = 1 ∨ j = 2 ∨ j = 3) with rfl | rfl | rfl | rfl <;> first | rfl | (exact absurd h1 (by decide))
theorem cm_chk {l : List QC} (hl : ∀ i q, l[i]? = some q → isCm i q) (hn : l.length ≤ 4) : chkQ l = 0 := by
  refine chk_book (fun q hq => ?_) (by omega) ?_
  · obtain ⟨i, hi⟩ := List.getElem?_of_mem hq
    exact (hl i q hi).valid
  · rw [List.pairwise_iff_getElem]
    intro i j hi hj hij
    rw [(hl i _ (List.getElem?_eq_getElem hi)).kn, (hl j _ (List.getElem?_eq_getElem hj)).kn]
    omega
theorem cm_pol {n : Nat} {tol : RQ} (h1 : 1 ≤ n) (h4 : n ≤ 4) (ht : tol ∈ tol3) : polOk (cmpP n tol) = true := by
  simp only [tol3, List.mem_cons, List.not_mem_nil, or_false] at ht
  rcases (by omega : n = 1 ∨ n = 2 ∨ n = 3 ∨ n = 4) with rfl | rfl | rfl | rfl <;> rcases ht with rfl | rfl | rfl <;> kernel_rfl
theorem cm_cands {l : List QC} (hl : ∀ i q, l[i]? = some q → isCm i q) {n : Nat} (hn : l.length = n) (h1 : 1 ≤ n) (h4 : n ≤ 4) {tol : RQ} (ht : tol ∈ tol3) : cands l 99 (cmpP n tol) acme 9497 = l ∧ selE l 99 (cmpP n tol) acme 9497 = 0 := by
  have hc := cm_chk hl (by omega)
  have c0 : candC l 99 (cmpP n tol) 9497 = 0 := by
    unfold candC
    rw [if_neg (by rw [hc]; simp), if_pos (cm_pol h1 h4 ht), if_neg (by omega)]
  have hv : visQs l 99 = l := vis_all hc (fun q hq => by
    obtain ⟨i, hi⟩ := List.getElem?_of_mem hq
    have h := hl i q hi
    have h4 := h.lt
    exact ⟨h.vo, by rw [h.kn]; omega⟩) (cm_keys hl)
  have e : cands l 99 (cmpP n tol) acme 9497 = l := by
    unfold cands
    rw [if_pos c0, hv]
    unfold candL
    refine fm_zip (by show (src4.take n).length = _; rw [List.length_take]; show min n 4 = _; omega) fun i s hs => ?_
    have hs : (src4.take n)[i]? = some s := hs
    have hi : i < n := by
      have := (List.getElem?_eq_some_iff.1 hs).1
      simp at this; omega
    obtain ⟨q, hq⟩ : ∃ q, l[i]? = some q := ⟨_, List.getElem?_eq_getElem (by omega)⟩
    have h := hl i q hq
    rw [List.getElem?_take_of_lt hi, h.src] at hs
    cases hs
    rw [hq]
    refine cand_one hq rfl h.ins h.d2 (by show (9497 : Int) - 3 ≤ _; have := h.d1; omega) fun j z hj hz he => ?_
    have hz2 := (hl j z hz).src
    rw [he] at hz2
    have hi4 := h.lt
    have hj4 := (hl j z hz).lt
    have hs2 := h.src
    rw [← hs2] at hz2
    rcases (by omega : i = 0 ∨ i = 1 ∨ i = 2 ∨ i = 3) with rfl | rfl | rfl | rfl <;> rcases (by omega : j = 0 ∨ j = 1 ∨ j = 2 ∨ j = 3) with rfl | rfl | rfl | rfl <;> first | exact hj rfl | (exact absurd hz2 (by decide))
  refine ⟨e, ?_⟩
  unfold selE
  rw [if_neg (by rw [c0]; simp), e, if_neg]
  intro h; rw [h] at hn; simp at hn; omega
end Go.Proofs.YtinojijgeabfnaaGreatDoor
namespace Go.Proofs.YtinojijgeabfnaaGreatDoor
open Go Go.RowKit Go.SX
end Go.Proofs.YtinojijgeabfnaaGreatDoor
namespace Go.Proofs.YtinojijgeabfnaaGreatDoor
open Go Go.RowKit Go.SX
theorem cm_cmpbl {l : List QC} (hl : ∀ i q, l[i]? = some q → isCm i q) : cmpbl l = l := by
  unfold cmpbl curH
  rw [List.filter_eq_self]
  intro q hq
  obtain ⟨i, hi⟩ := List.getElem?_of_mem hq
  rw [(hl i q hi).cur]
  cases l with
  | nil => simp at hi
  | cons z r => rw [show (z :: r).headD noQ = z from rfl, (hl 0 z rfl).cur]; simp
theorem cm_cur {l : List QC} (hl : ∀ i q, l[i]? = some q → isCm i q) {q : QC} (hq : q ∈ l) : q.cur = curH l := by
  have := hq
  rw [← cm_cmpbl hl] at this
  unfold cmpbl at this
  rw [List.mem_filter] at this
  simpa using this.2
theorem cmpP_in {n : Nat} {tol : RQ} (h : tol.In) : (cmpP n tol).In := ⟨h, fun y hy => by
  have : y ∈ src4 := List.mem_of_mem_take hy
  simp [src4] at this; rcases this with h | h | h | h <;> rw [h] <;> decide, by show (-9223372036854775808 : Int) ≤ 3 ∧ (3 : Int) ≤ 9223372036854775807; decide⟩
theorem tol3_in {tol : RQ} (h : tol ∈ tol3) : tol.In := by
  simp only [tol3, List.mem_cons, List.not_mem_nil, or_false] at h
  rcases h with rfl | rfl | rfl <;> exact mkQ_in _ _
end Go.Proofs.YtinojijgeabfnaaGreatDoor
namespace Go.Proofs.YtinojijgeabfnaaGreatDoor
open Go Go.RowKit Go.SX
end Go.Proofs.YtinojijgeabfnaaGreatDoor
namespace Go.Proofs.YtinojijgeabfnaaGreatDoor
open Go Go.RowKit Go.SX
set_option exponentiation.threshold 2000 in
/-- a price is near itself -/
theorem near_self {y t : RQ} (hy : payOk y = true) (ht : pctB t = true) (hb : betQ t 0 1 = true) : nearQ y y t = true := by
  obtain ⟨y1, y2⟩ := pay_bd hy
  obtain ⟨t0, t1, t2⟩ := tol_bd ht hb
  obtain ⟨p1, p2, -, -⟩ := pay_ok hy
  have tp0 := (pctB_ok ht).2
  obtain ⟨u, e1, e2, e5, e3, e4⟩ := sumQ_val true p1 p1 y2 y1 y2 y1 (by decide) (by decide)
  obtain ⟨v, f1, f2, f5, f3, f4⟩ := mulQ_val t0 p1 t2 t1 y2 y1 (by decide) (by decide)
  obtain ⟨-, -, g3, -, -⟩ := RQ.ok_bits e2
  obtain ⟨-, -, v3, -, -⟩ := RQ.ok_bits f2
  obtain ⟨-, -, y3, -, -⟩ := RQ.ok_bits p1
  obtain ⟨-, -, t3, -, -⟩ := RQ.ok_bits t0
  have u0 : u.p = 0 := by
    have h : u.p * (y.q * y.q) = 0 := by
      rw [e5]
      show (y.p * y.q + -(y.p * y.q)) * u.q = 0
      rw [Int.add_right_neg, Int.zero_mul]
    rcases Int.mul_eq_zero.1 h with h | h
    · exact h
    · have := Int.mul_pos y3 y3; omega
  have v0 : 0 ≤ v.p := by
    have h : 0 ≤ v.p * (t.q * y.q) := by rw [f5]; exact Int.mul_nonneg (Int.mul_nonneg tp0 p2) (by omega)
    rcases Int.lt_or_le v.p 0 with h9 | h9
    · have := Int.mul_neg_of_neg_of_pos h9 (Int.mul_pos t3 y3); omega
    · exact h9
  have ha : (absQ u).1 = .of (u.p.natAbs : Int) u.q := by unfold absQ; rw [if_pos e2]
  unfold nearQ
  rw [e1, f1]
  dsimp only
  rw [ha, RQ.of_p, RQ.of_q, u0, cmpI_le]
  apply decide_eq_true
  have := Int.mul_nonneg v0 (show 0 ≤ u.q by omega)
  simpa using this
end Go.Proofs.YtinojijgeabfnaaGreatDoor
namespace Go.Proofs.YtinojijgeabfnaaGreatDoor
open Go Go.RowKit Go.SX
end Go.Proofs.YtinojijgeabfnaaGreatDoor
namespace Go.Proofs.YtinojijgeabfnaaGreatDoor
open Go Go.RowKit Go.SX
theorem mk1 {a : Int} (h1 : 77 ≤ a) (h2 : a ≤ 109) : (mkQ a 1).1 = .of a 1 := by
  obtain ⟨r, e1, e2, e3, e4, e5⟩ := mkQ_val (x := a) (y := 1) (by omega) (by omega) (by omega)
  obtain ⟨-, -, q3, -, q5⟩ := RQ.ok_bits e2
  have hq : r.q = 1 := by omega
  rw [hq] at e3
  rw [e1]
  show r = .of a 1
  rw [q5, hq, show r.p = a by omega]
section
variable {α : Type}
theorem insR_perm (lt : α → α → Bool) (x : α) : ∀ (r : List α), (insR lt x r).Perm (x :: r)
  | [] => List.Perm.refl _
  | y :: r => by
    rw [insR]
    split
    · exact ((insR_perm lt x r).cons y).trans (List.Perm.swap x y r)
    · exact List.Perm.refl _
theorem foldl_perm (lt : α → α → Bool) : ∀ (l a : List α), (l.foldl (fun a x => insR lt x a) a).Perm (l ++ a)
  | [], a => List.Perm.refl _
  | x :: l, a => by
    rw [List.foldl_cons]
    refine (foldl_perm lt l _).trans ?_
    refine ((insR_perm lt x a).append_left l).trans ?_
    exact List.perm_middle
theorem sortR_perm (lt : α → α → Bool) (l : List α) : (sortR lt l).Perm l := by
  have := foldl_perm lt l []
  rw [List.append_nil] at this
  exact this
end
def ltI (a b : Int) : Bool := decide (a < b)
theorem insI_down (x : Int) : ∀ {r : List Int}, r.Pairwise (fun a b => b ≤ a) → (insR ltI x r).Pairwise (fun a b => b ≤ a)
  | [], _ => by simp [insR]
  | y :: r, h => by
    rw [List.pairwise_cons] at h
    rw [insR]
    split
    · rename_i hl
      have hl : x < y := of_decide_eq_true hl
      rw [List.pairwise_cons]
      refine ⟨fun z hz => ?_, insI_down x h.2⟩
      rcases (insR_mem ltI x r z).1 hz with e | e
      · omega
      · exact h.1 z e
    · rename_i hl
      have hl : ¬ x < y := fun e => hl (decide_eq_true e)
      rw [List.pairwise_cons]
      refine ⟨fun z hz => ?_, List.pairwise_cons.2 h⟩
      rcases List.mem_cons.1 hz with e | e
      · omega
      · have := h.1 z e; omega
theorem sortI_down (l : List Int) : (sortR ltI l).Pairwise (fun a b => b ≤ a) := by
  have : ∀ (l a : List Int), a.Pairwise (fun a b => b ≤ a) → (l.foldl (fun a x => insR ltI x a) a).Pairwise (fun a b => b ≤ a) := by
    intro l
    induction l with
    | nil => intro a h; exact h
    | cons x l ih => intro a h; exact ih _ (insI_down x h)
  exact this l [] List.Pairwise.nil
/-- the lower middle, and how many lie on either side -/
theorem mid_law {l : List Int} {m : Int} (h : midR (sortR ltI l) = some m) : (∀ y, l.countP (fun x => decide (x < y)) ≤ (l.length - 1) / 2 → l.countP (fun x => decide (y < x)) ≤ l.length / 2 → y = m) ∧ l.countP (fun x => decide (x < m)) ≤ (l.length - 1) / 2 ∧ l.countP (fun x => decide (m < x)) ≤ l.length / 2 ∧ m ∈ l := by
  unfold midR at h
  have hlen := sortR_len ltI l
  rw [hlen] at h
  have hp : (sortR ltI l).reverse.Perm l := (List.reverse_perm _).trans (sortR_perm ltI l)
  have hs : (sortR ltI l).reverse.Pairwise (fun a b => a ≤ b) := by
    rw [List.pairwise_reverse]; exact sortI_down l
  generalize (sortR ltI l).reverse = A at *
  have hn := hp.length_eq
  obtain ⟨hj, hm⟩ := List.getElem?_eq_some_iff.1 h
  generalize hjj : (l.length - 1) / 2 = j at *
  have e : ∀ i, A = A.take i ++ A.drop i := fun i => (List.take_append_drop i A).symm
  rw [List.pairwise_iff_getElem] at hs
  have lo : ∀ x ∈ A.take (j + 1), x ≤ m := fun x hx => by
    obtain ⟨i, hi⟩ := List.getElem?_of_mem hx
    have hij : i < j + 1 := by
      have := (List.getElem?_eq_some_iff.1 hi).1
      simp at this; omega
    rw [List.getElem?_take_of_lt hij] at hi
    obtain ⟨h1, h2⟩ := List.getElem?_eq_some_iff.1 hi
    rcases Nat.lt_or_ge i j with h3 | h3
    · rw [← h2, ← hm]; exact hs i j h1 hj h3
    · have : i = j := by omega
      subst this
      rw [← h2, ← hm]; exact Int.le_refl _
  have hi : ∀ x ∈ A.drop j, m ≤ x := fun x hx => by
    obtain ⟨i, hi⟩ := List.getElem?_of_mem hx
    rw [List.getElem?_drop] at hi
    obtain ⟨h1, h2⟩ := List.getElem?_eq_some_iff.1 hi
    rcases Nat.eq_zero_or_pos i with h3 | h3
    · subst h3
      rw [← h2, ← hm]; exact Int.le_refl _
    · rw [← h2, ← hm]; exact hs j (j + i) hj h1 (by omega)
  have c : ∀ p : Int → Bool, l.countP p = A.countP p := fun p => (hp.countP_eq p).symm
  have split : ∀ (p : Int → Bool) i, A.countP p = (A.take i).countP p + (A.drop i).countP p := fun p i => by
    conv => lhs; rw [e i]
    rw [List.countP_append]
  refine ⟨fun y hy1 hy2 => ?_, ?_, ?_, ?_⟩
  · rw [c] at hy1 hy2
    rcases Int.lt_trichotomy y m with h5 | h5 | h5
    · have h6 : (A.drop j).countP (fun x => decide (y < x)) = (A.drop j).length := List.countP_eq_length.2 fun x hx => decide_eq_true (by have := hi x hx; omega)
      have h7 := split (fun x => decide (y < x)) j
      rw [h6, List.length_drop] at h7
      omega
    · exact h5
    · have h6 : (A.take (j + 1)).countP (fun x => decide (x < y)) = (A.take (j + 1)).length := List.countP_eq_length.2 fun x hx => decide_eq_true (by have := lo x hx; omega)
      have h7 := split (fun x => decide (x < y)) (j + 1)
      rw [h6, List.length_take] at h7
      omega
  · rw [c, split _ j]
    have h6 : (A.drop j).countP (fun x => decide (x < m)) = 0 := by
      rw [List.countP_eq_zero]
      intro x hx
      have := hi x hx
      simp; omega
    have := List.countP_le_length (p := fun x => decide (x < m)) (l := A.take j)
    rw [List.length_take] at this
    omega
  · rw [c, split _ (j + 1)]
    have h6 : (A.take (j + 1)).countP (fun x => decide (m < x)) = 0 := by
      rw [List.countP_eq_zero]
      intro x hx
      have := lo x hx
      simp; omega
    have := List.countP_le_length (p := fun x => decide (m < x)) (l := A.drop (j + 1))
    rw [List.length_drop] at this
    omega
  · exact hp.subset (List.mem_of_getElem? h)
end Go.Proofs.YtinojijgeabfnaaGreatDoor
namespace Go.Proofs.YtinojijgeabfnaaGreatDoor
open Go Go.RowKit Go.SX
theorem isCm.price {i : Nat} {q : QC} (h : isCm i q) : q.price = .of q.price.p 1 ∧ 77 ≤ q.price.p ∧ q.price.p ≤ 109 := by
  obtain ⟨a, e, h1, h2⟩ := h.pr
  rw [mk1 h1 h2] at e
  have : q.price.p = a := by rw [e, RQ.of_p]
  rw [this]
  exact ⟨e, h1, h2⟩
theorem ltP_int (a b : Int) : ltP (.of a 1) (.of b 1) = ltI a b := by
  unfold ltP ltI
  rw [RQ.of_p, RQ.of_q, RQ.of_p, RQ.of_q, Int.mul_one, Int.mul_one]
  unfold cmpI
  by_cases h : a < b
  · rw [if_pos h]; simp [h]
  · rw [if_neg h]; simp [h]; split <;> omega
theorem midR_map {α β : Type} (g : α → β) (l : List α) : midR (l.map g) = (midR l).map g := by
  unfold midR
  rw [← List.map_reverse, List.getElem?_map, List.length_map]
def belowQ (l : List QC) (y : Int) : Nat := l.countP (fun q => decide (q.price.p < y))
def aboveQ (l : List QC) (y : Int) : Nat := l.countP (fun q => decide (y < q.price.p))
theorem mid_main {l : List QC} (hl : ∀ i q, l[i]? = some q → isCm i q) (h1 : 1 ≤ l.length) : ∃ m : Int, yardQ l = .of m 1 ∧ 77 ≤ m ∧ m ≤ 109 ∧ (∀ y, belowQ l y ≤ (l.length - 1) / 2 → aboveQ l y ≤ l.length / 2 → y = m) ∧ belowQ l m ≤ (l.length - 1) / 2 ∧ aboveQ l m ≤ l.length / 2 ∧ ∃ (i : Nat) (q : QC), l[i]? = some q ∧ q.price.p = m := by
  have e1 : l.map QC.price = (l.map fun q : QC => q.price.p).map (fun a => RQ.of a 1) := by
    rw [List.map_map]
    apply List.map_congr_left
    intro q hq
    obtain ⟨i, hi⟩ := List.getElem?_of_mem hq
    exact (hl i q hi).price.1
  have hlen : (l.map fun q : QC => q.price.p).length = l.length := by rw [List.length_map]
  obtain ⟨m, hm⟩ : ∃ m, midR (sortR ltI (l.map fun q : QC => q.price.p)) = some m := by
    unfold midR
    exact ⟨_, List.getElem?_eq_getElem (by rw [List.length_reverse, sortR_len, hlen]; omega)⟩
  have ey : yardQ l = .of m 1 := by
    unfold yardQ
    rw [cm_cmpbl hl, e1, ← sortR_map (lt := ltI) (lt' := ltP) (fun a => RQ.of a 1) ltP_int, midR_map, hm]; rfl
  obtain ⟨a1, a2, a3, a4⟩ := mid_law hm
  rw [hlen] at a1 a2 a3
  obtain ⟨q, hq, hqm⟩ := List.mem_map.1 a4
  obtain ⟨i, hi⟩ := List.getElem?_of_mem hq
  have hp := (hl i q hi).price
  have cb : ∀ y, (l.map fun q : QC => q.price.p).countP (fun x => decide (x < y)) = belowQ l y := fun y => by rw [List.countP_map]; rfl
  have ca : ∀ y, (l.map fun q : QC => q.price.p).countP (fun x => decide (y < x)) = aboveQ l y := fun y => by rw [List.countP_map]; rfl
  refine ⟨m, ey, by omega, by omega, fun y b1 b2 => a1 y (by rw [cb]; exact b1) (by rw [ca]; exact b2), by rw [← cb]; exact a2, by rw [← ca]; exact a3, i, q, hi, hqm⟩
theorem tol3_ok {tol : RQ} (h : tol ∈ tol3) : pctB tol = true ∧ betQ tol 0 1 = true := by
  simp only [tol3, List.mem_cons, List.not_mem_nil, or_false] at h
  rcases h with rfl | rfl | rfl <;> exact ⟨by kernel_rfl, by kernel_rfl⟩
def nearB (l : List QC) (tol : RQ) (q : QC) : Bool := nearQ q.price (yardQ l) tol
theorem cm_good {l : List QC} (hl : ∀ i q, l[i]? = some q → isCm i q) (tol : RQ) {q : QC} (hq : q ∈ l) : isGood (curH l) (yardQ l) tol q = nearB l tol q := by
  unfold isGood nearB
  rw [decide_eq_true (cm_cur hl hq), Bool.true_and]
theorem cm_src {l : List QC} (hl : ∀ i q, l[i]? = some q → isCm i q) {i j : Nat} {a b : QC} (ha : l[i]? = some a) (hb : l[j]? = some b) (h : a.src = b.src) : i = j := by
  have h1 := (hl i a ha).src
  have h2 := (hl j b hb).src
  have i4 := (hl i a ha).lt
  have j4 := (hl j b hb).lt
  rw [h, ← h2] at h1
  rcases (by omega : i = 0 ∨ i = 1 ∨ i = 2 ∨ i = 3) with rfl | rfl | rfl | rfl <;> rcases (by omega : j = 0 ∨ j = 1 ∨ j = 2 ∨ j = 3) with rfl | rfl | rfl | rfl <;> first | rfl | (exact absurd h1 (by decide))
theorem cm_has {l : List QC} (hl : ∀ i q, l[i]? = some q → isCm i q) (tol : RQ) {k : Nat} {q : QC} (hq : l[k]? = some q) : decide (q.src ∈ selBad l tol) = !nearB l tol q := by
  have hql := List.mem_of_getElem? hq
  cases e : nearB l tol q with
  | false =>
    apply decide_eq_true
    unfold selBad
    exact List.mem_map.2 ⟨q, List.mem_filter.2 ⟨hql, by rw [cm_good hl tol hql, e]; rfl⟩, rfl⟩
  | true =>
    apply decide_eq_false
    intro h
    unfold selBad at h
    obtain ⟨z, hz, hs⟩ := List.mem_map.1 h
    obtain ⟨hz1, hz2⟩ := List.mem_filter.1 hz
    obtain ⟨j, hj⟩ := List.getElem?_of_mem hz1
    have := cm_src hl hj hq hs
    subst this
    rw [hj] at hq
    cases hq
    rw [cm_good hl tol hql, e] at hz2
    simp at hz2
theorem cm_first {l : List QC} (hl : ∀ i q, l[i]? = some q → isCm i q) (tol : RQ) {k : Nat} {q : QC} (hq : l[k]? = some q) (hn : nearB l tol q = true) (h0 : (l.take k).any (nearB l tol) = false) : selCh l tol = chOf (some q) := by
  unfold selCh
  congr 1
  have hql := List.mem_of_getElem? hq
  have hd : l = l.take k ++ q :: l.drop (k + 1) := by rw [← drop_at hq, List.take_append_drop]
  have e : ∀ z ∈ l, isGood (curH l) (yardQ l) tol z = nearB l tol z := fun z hz => cm_good hl tol hz
  generalize curH l = C at *
  have h1 : (l.take k).find? (isGood C (yardQ l) tol) = none := by
    rw [List.find?_eq_none]
    intro z hz
    rw [e z (List.mem_of_mem_take hz)]
    rw [List.any_eq_false] at h0
    exact h0 z hz
  have h2 := e q hql
  rw [hn] at h2
  generalize yardQ l = Y at *
  rw [hd, List.find?_append, h1, List.find?_cons, h2]; rfl
theorem cm_any {l : List QC} (hl : ∀ i q, l[i]? = some q → isCm i q) (h1 : 1 ≤ l.length) {tol : RQ} (ht : tol ∈ tol3) : l.any (nearB l tol) = true := by
  obtain ⟨m, e, -, -, -, -, -, i, q, hq, hm⟩ := mid_main hl h1
  rw [List.any_eq_true]
  refine ⟨q, List.mem_of_getElem? hq, ?_⟩
  unfold nearB
  have hp := (hl i q hq).price
  rw [e, ← hm, ← hp.1]
  have hv := valid_right (hl i q hq).valid
  exact near_self (right_price hv (hl i q hq).vo).1 (tol3_ok ht).1 (tol3_ok ht).2
theorem cat_price {L : List QC} {i : Nat} {q : QC} (h : L[i]? = some q) : (cat QC.A L).extract (i * 72 + 4) (i * 72 + 4 + 66) = q.price.A := by
  have h1 := cat_extract QC.size h
  rw [← q.gpri, ← h1, Array.extract_extract]
  congr 1
  omega
theorem cmpI_neg (a b : Int) : decide (cmpI a b < 0) = decide (a < b) := by
  unfold cmpI
  by_cases h : a < b
  · simp [h]
  · rw [if_neg h]; simp [h]; split <;> omega
theorem cmpI_pos (a b : Int) : decide (cmpI a b > 0) = decide (b < a) := by
  unfold cmpI
  by_cases h : a < b
  · rw [if_pos h]; simp; omega
  · rw [if_neg h]
    by_cases h2 : b < a
    · simp [h2]
    · simp [h2]
theorem cm_cmp {i j : Nat} {q y : QC} (hq : isCm i q) (hy : isCm j y) : Pure Tryz.prog 30 [SV.c (.agg q.price.A), SV.c (.agg y.price.A)] (.int .i64 (cmpI q.price.p y.price.p)) := by
  obtain ⟨a1, a2, a3⟩ := hq.price
  obtain ⟨b1, b2, b3⟩ := hy.price
  have aq : q.price.q = 1 := by rw [a1, RQ.of_q]
  have bq : y.price.q = 1 := by rw [b1, RQ.of_q]
  have hb : (1000 : Nat) < BB ^ 32 := Nat.lt_of_lt_of_le (by decide : 1000 < 18446744073709551616) two64
  have := compareR_r hq.inn.price hy.inn.price (by rw [bq, Int.mul_one]; omega) (by rw [aq, Int.mul_one]; omega)
  rw [aq, bq, Int.mul_one, Int.mul_one] at this
  exact this
theorem below_step {l : List QC} {k : Nat} {q : QC} (hq : l[k]? = some q) (y : Int) : belowQ (l.take (k + 1)) y = belowQ (l.take k) y + (if decide (q.price.p < y) then 1 else 0) := by
  unfold belowQ
  rw [List.take_add_one, hq, List.countP_append]
  simp [List.countP_cons]
theorem above_step {l : List QC} {k : Nat} {q : QC} (hq : l[k]? = some q) (y : Int) : aboveQ (l.take (k + 1)) y = aboveQ (l.take k) y + (if decide (y < q.price.p) then 1 else 0) := by
  unfold aboveQ
  rw [List.take_add_one, hq, List.countP_append]
  simp [List.countP_cons]
theorem neqs_ratio {E : Env} (hE : E.P = Tryz.prog) {r : RQ} (hr : r.In) {u v : Operand} : Runs E (do eqGuard .neq 29 u v (.agg r.A) (.agg r.A); binOp .neq 29 (.agg r.A) (.agg r.A)) (.bool false) := by
  have := neq_ratio hE hr hr (u := u) (v := v)
  rwa [RQ.beq_self] at this
theorem any_step {l : List QC} {p : QC → Bool} {k : Nat} {q : QC} (h : l[k]? = some q) : (l.take (k + 1)).any p = ((l.take k).any p || p q) := by
  rw [List.take_add_one, h, List.any_append]; simp
end Go.Proofs.YtinojijgeabfnaaGreatDoor
