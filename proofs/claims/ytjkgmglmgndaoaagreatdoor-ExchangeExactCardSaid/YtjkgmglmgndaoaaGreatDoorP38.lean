/- what came in: quotes and policies. made quotes. made books and policies. policies that are made are valid: plain laws. made books and policies. the law SelectorPlays, walk. plain laws of chosen candidates. the drawn candidates. drawn candidates: valid, and all of them counted. the law SelectorSpoilt, walk. the law SelectorMajority, walk. ref14.At. the law SelectorSingle: plain laws and walk. the law SelectorLater: plain laws. plain laws of books of rates. the chapter's examples of rates. the law ExchangeExact; no condition. -/
import Derived.Test.YtjkgmglmgndaoaaGreatDoorP36
import Derived.Test.YtjkgmglmgndaoaaGreatDoorP26
import Derived.Test.YtjkgmglmgndaoaaGreatDoorP15
import Derived.Test.YtjkgmglmgndaoaaGreatDoorP28
import Derived.Test.YtjkgmglmgndaoaaGreatDoorP10
import Derived.Test.YtjkgmglmgndaoaaGreatDoorP37
namespace Go.Proofs.YtjkgmglmgndaoaaGreatDoor
open Go Go.RowKit Go.SX
open ChangeShapes WideShapes
instance : Inhabited QC := ⟨noQ⟩
set_option maxRecDepth 100000 in
/-- a quote that came in -/
theorem rd_quote {H : Type} {enc : TypeId × Value → H} {w : World} {base : Nat} {sp : Nat → Bool} {held : Bool} {fuel : Nat} {cs : List Value} {x : DataW H × List MemPlace} (h : DataW.trod enc Tryz.prog w base sp held fuel 51 cs = some x) : ∃ a : QC, a.In ∧ cs = a.A.toList := by
  obtain ⟨xs, n, -, -, hl, hn, hf⟩ := DataW.trod_struct Tryz.underlying51 h
  have hn : xs.length = 7 := hn
  match xs, hn with
  | [y0, y1, y2, y3, y4, y5, y6], _ =>
  have ci : Tryz.prog.cellsOf 3 = 1 := by kernel_rfl
  have cs' : Tryz.prog.cellsOf 9 = 1 := by kernel_rfl
  have cb : Tryz.prog.cellsOf 4 = 1 := by kernel_rfl
  have cr : Tryz.prog.cellsOf 29 = 66 := by kernel_rfl
  have ca : Tryz.prog.cellsOf 51 = 72 := by kernel_rfl
  have f0 : DataW.trod enc Tryz.prog w base sp held n 9 ((cs.drop 0).take (Tryz.prog.cellsOf 9)) = some y0 := hf 0 _ rfl
  have f1 : DataW.trod enc Tryz.prog w base sp held n 9 ((cs.drop 1).take (Tryz.prog.cellsOf 9)) = some y1 := hf 1 _ rfl
  have f2 : DataW.trod enc Tryz.prog w base sp held n 9 ((cs.drop 2).take (Tryz.prog.cellsOf 9)) = some y2 := hf 2 _ rfl
  have f3 : DataW.trod enc Tryz.prog w base sp held n 3 ((cs.drop 3).take (Tryz.prog.cellsOf 3)) = some y3 := hf 3 _ rfl
  have f4 : DataW.trod enc Tryz.prog w base sp held n 29 ((cs.drop 4).take (Tryz.prog.cellsOf 29)) = some y4 := hf 4 _ rfl
  have f5 : DataW.trod enc Tryz.prog w base sp held n 3 ((cs.drop 70).take (Tryz.prog.cellsOf 3)) = some y5 := hf 5 _ rfl
  have f6 : DataW.trod enc Tryz.prog w base sp held n 4 ((cs.drop 71).take (Tryz.prog.cellsOf 4)) = some y6 := hf 6 _ rfl
  rw [ci] at f3 f5
  rw [cs'] at f0 f1 f2
  rw [cb] at f6
  rw [cr] at f4
  obtain ⟨src, e0, k0⟩ := rd_str f0
  obtain ⟨ins, e1, k1⟩ := rd_str f1
  obtain ⟨cur, e2, k2⟩ := rd_str f2
  obtain ⟨day, e3, k3⟩ := rd_i64 f3
  obtain ⟨price, k4, e4⟩ := rd_ratio f4
  obtain ⟨known, e5, -⟩ := rd_i64 f5
  obtain ⟨void, e6, -⟩ := DataW.trod_bool Tryz.underlying4 f6
  refine ⟨⟨src, ins, cur, day, price, known, void⟩, ⟨k4, k0, k1, k2, k3⟩, ?_⟩
  have s0 := split_at e0
  rw [List.drop_zero] at s0
  rw [s0, split_at e1, split_at e2, split_at e3, split_at e4, split_at e5, split_at e6, List.drop_eq_nil_of_le (by omega), List.append_nil, QC.A, Array.toList_append, Array.toList_append]
  rfl
/-- a list of quotes that came in -/
theorem rd_quotes {H : Type} {enc : TypeId × Value → H} {W : World} {fuel : Nat} {c : Value} {y : DataW H × List MemPlace} (h : DataW.trod enc Tryz.prog W 0 (fun _ => true) true fuel 22 [c] = some y) :
    ∃ xs : List QC, (∀ a ∈ xs, a.In) ∧ Lst { P := Tryz.prog, n := 0, w0 := W, X := [], pk := [] } c 72 xs.length (cat QC.A xs) ∧ (xs = [] ∨ ∃ el sp, y.1 = .slice el sp ∧ el.length = xs.length) :=
  lst_read (E := { P := Tryz.prog, n := 0, w0 := W, X := [], pk := [] }) (In := QC.In) rfl Tryz.underlying22 (by kernel_rfl) (by decide) QC.size QC.all1 (fun fuel cs x h => rd_quote h) h
/-- a list of texts that came in -/
theorem rd_texts {H : Type} {enc : TypeId × Value → H} {W : World} {fuel : Nat} {c : Value} {y : DataW H × List MemPlace} (h : DataW.trod enc Tryz.prog W 0 (fun _ => true) true fuel 23 [c] = some y) :
    ∃ xs : List (List UInt8), (∀ a ∈ xs, a.length ≤ 9223372036854775807) ∧ Lst { P := Tryz.prog, n := 0, w0 := W, X := [], pk := [] } c 1 xs.length (cat strA xs) ∧ (xs = [] ∨ ∃ el sp, y.1 = .slice el sp ∧ el.length = xs.length) :=
  lst_read (E := { P := Tryz.prog, n := 0, w0 := W, X := [], pk := [] }) (In := fun a : List UInt8 => a.length ≤ 9223372036854775807) rfl Tryz.underlying23 (by kernel_rfl) (by decide) strA_size strA_one (fun fuel cs x h => by
    obtain ⟨l, e1, e2⟩ := rd_str h
    exact ⟨l, e2, e1⟩) h
set_option maxRecDepth 100000 in
/-- a policy that came in -/
theorem rd_policy {H : Type} {enc : TypeId × Value → H} {W : World} {fuel : Nat} {cs : List Value} {x : DataW H × List MemPlace} (h : DataW.trod enc Tryz.prog W 0 (fun _ => true) true fuel 31 cs = some x) :
    ∃ (p : PL) (v : Value), p.In ∧ cs = (p.A v).toList ∧ Lst { P := Tryz.prog, n := 0, w0 := W, X := [], pk := [] } v 1 p.srcs.length (cat strA p.srcs) ∧ (p.srcs = [] ∨ ∃ el sp r1 r2, x.1 = .agg [.slice el sp, r1, r2] ∧ el.length = p.srcs.length) := by
  obtain ⟨xs, n, -, rfl, hl, hn, hf⟩ := DataW.trod_struct Tryz.underlying31 h
  have hn : xs.length = 3 := hn
  match xs, hn with
  | [y0, y1, y2], _ =>
  have ci : Tryz.prog.cellsOf 3 = 1 := by kernel_rfl
  have cs' : Tryz.prog.cellsOf 23 = 1 := by kernel_rfl
  have cr : Tryz.prog.cellsOf 29 = 66 := by kernel_rfl
  have ca : Tryz.prog.cellsOf 31 = 68 := by kernel_rfl
  have f0 : DataW.trod enc Tryz.prog W 0 (fun _ => true) true n 23 ((cs.drop 0).take (Tryz.prog.cellsOf 23)) = some y0 := hf 0 _ rfl
  have f1 : DataW.trod enc Tryz.prog W 0 (fun _ => true) true n 29 ((cs.drop 1).take (Tryz.prog.cellsOf 29)) = some y1 := hf 1 _ rfl
  have f2 : DataW.trod enc Tryz.prog W 0 (fun _ => true) true n 3 ((cs.drop 67).take (Tryz.prog.cellsOf 3)) = some y2 := hf 2 _ rfl
  rw [ci] at f2
  rw [cs'] at f0
  rw [cr] at f1
  obtain ⟨c, e0⟩ : ∃ c, (cs.drop 0).take 1 = [c] := by
    rw [ca] at hl
    match cs, hl with
    | c :: r, _ => exact ⟨c, rfl⟩
  rw [e0] at f0
  obtain ⟨srcs, hi, hL, hb⟩ := rd_texts f0
  obtain ⟨tol, k1, e1⟩ := rd_ratio f1
  obtain ⟨stale, e2, k2⟩ := rd_i64 f2
  refine ⟨⟨srcs, tol, stale⟩, c, ⟨k1, hi, k2⟩, ?_, hL, ?_⟩
  · have s0 := split_at e0
    rw [List.drop_zero] at s0
    rw [s0, split_at e1, split_at e2, List.drop_eq_nil_of_le (by omega), List.append_nil, PL.A, Array.toList_append, Array.toList_append]
  · rcases hb with hb | ⟨el, spr, he, hl2⟩
    · exact .inl hb
    · exact .inr ⟨el, spr, y1.1, y2.1, by simp [he], hl2⟩
theorem pol_len {H : Type} {P : Program} {el sp : List (DataW H)} {r1 r2 : DataW H} {ts : List TypeId} {ds : List (DataW H)} {j : Nat} (hu : P.underlying 31 = some (.struct #[⟨"Sources", 23, 0, false, "", "", 0⟩, ⟨"Tolerance", 29, 1, false, "", "", 24⟩, ⟨"Stale", 3, 67, false, "", "", 288⟩])) (hu2 : P.underlying 23 = some (.slice 9)) (hb : P.bytesOf 9 = 16) (h : (DataW.weightsEach P ts ds).all (· ≤ reachBytes) = true) (ht : ts[j]? = some 31) (hd : ds[j]? = some (.agg [.slice el sp, r1, r2])) : el.length ≤ 1000000000000000 := by
  have := List.all_eq_true.1 h _ (DataW.weights_mem_each ht hd ((el.length + sp.length) * P.bytesOf 9) (by simp [DataW.weights, hu, hu2, DataW.weightsEach]))
  rw [hb] at this
  have h2 : (el.length + sp.length) * 16 ≤ reachBytes := by simpa using this
  have h3 := reachBytes_lt
  omega
/-- a contract at a world: nothing of the call's own is handed in -/
theorem ownC_at {f : FuncId} {vs : List Value} {Q : Value → MemL → Prop} (w : World) (h : OwnC (E := { P := Tryz.prog, n := 0, w0 := w, X := [], pk := [] }) f (vs.map SV.c) [] Q) : Calls Tryz.prog f vs.toArray w fun e w' => ∃ x U, e = .returned x ∧ Q x U ∧ Below w.heap.size w w' := by
  have hx' : rels (fun _ => none) (vs.map SV.c) vs := by
    clear h
    induction vs with
    | nil => trivial
    | cons s vs ih => exact ⟨rfl, ih⟩
  refine (h.2 (fun _ => none) w vs ⟨rfl, rfl, rfl, Nat.le_refl _, fun _ _ _ => rfl, fun d B hd => by simp [getM] at hd, fun _ _ => rfl, fun d B hd => by simp [getM] at hd, fun d B b hd => by simp [getM] at hd, fun d e k hd => (by cases hd), fun d k B hp => by simp [Env.np] at hp⟩ hx').mono ?_
  rintro e w' ⟨x, U, h1, h2, h3, -⟩
  exact ⟨x, U, h1, h2, h3.os, h3.tape, h3.output, h3.size, fun k hk => h3.old k hk (by simp [Env.np])⟩
set_option maxRecDepth 100000 in
theorem rd_policyV {H : Type} {enc : TypeId × Value → H} {W : World} {r : Reach} {b0 : Nat} {v : Value} {d : DataW H} {ps : List MemPlace} (hv : Value.okWide Tryz.prog W r b0 31 v) (h : DataW.Trod enc Tryz.prog W 0 (fun _ => true) true 31 v d ps) :
    ∃ (p : PL) (vp : Value), p.In ∧ v = .agg (p.A vp) ∧ Lst { P := Tryz.prog, n := 0, w0 := W, X := [], pk := [] } vp 1 p.srcs.length (cat strA p.srcs) ∧ (p.srcs = [] ∨ ∃ el sp r1 r2, d = .agg [.slice el sp, r1, r2] ∧ el.length = p.srcs.length) := by
  obtain ⟨cs, rfl, hsz⟩ := okWide_struct Tryz.underlying31 hv
  obtain ⟨fuel, hf⟩ := h
  obtain ⟨pl, vp, h1, h2, h3, h4⟩ := rd_policy hf
  exact ⟨pl, vp, h1, congrArg Value.agg (Array.ext' h2), h3, h4⟩
end Go.Proofs.YtjkgmglmgndaoaaGreatDoor
namespace Go.Proofs.YtjkgmglmgndaoaaGreatDoor
open Go Go.RowKit Go.SX
def papers : List (List UInt8) := [[65, 67, 77, 69], [66, 79, 78, 68], [71, 79, 76, 68], [88, 49], [69, 85, 82, 85, 83, 68], [85, 83, 68, 71, 66, 80]]
def usdgbp : List UInt8 := [85, 83, 68, 71, 66, 80]
def eurusd : List UInt8 := [69, 85, 82, 85, 83, 68]
def cUSD : List UInt8 := [85, 83, 68]
def cGBP : List UInt8 := [71, 66, 80]
theorem QC.set2 (a : QC) (l : List UInt8) : a.A.setIfInBounds (0 + 2) (.string (S l)) = ({ a with cur := l } : QC).A := by kernel_rfl
theorem fill_q (src ins : List UInt8) (day known : Int) (r : RQ) {pl : List (Nat × Nat)} (hpl : pl = [(0, 1), (1, 1), (2, 1), (3, 1), (4, 66), (70, 1), (71, 1)]) : Instr.fill (fun k => pl[k]?) ti51.zero [(0, .string (S src)), (1, .string (S ins)), (2, .string (S [85, 83, 68])), (3, .int .i64 day), (4, .agg r.A), (5, .int .i64 known)] = some (QC.A ⟨src, ins, [85, 83, 68], day, r, known, false⟩) := by
  subst hpl
  kernel_rfl
/-- a quote that is made -/
def isQuote (day known : Int) (q : QC) : Prop := q.src ∈ src4 ∧ q.ins ∈ papers ∧ q.cur ∈ ([[85, 83, 68], [69, 85, 82], [71, 66, 80]] : List (List UInt8)) ∧ (0 ≤ q.day ∧ (q.day ≤ day ∨ q.day = 0)) ∧ q.known = known ∧ ((q.void = false ∧ isPrice q.price) ∨ (q.void = true ∧ q.price = zeroQ))
end Go.Proofs.YtjkgmglmgndaoaaGreatDoor
namespace Go.Proofs.YtjkgmglmgndaoaaGreatDoor
open Go Go.RowKit Go.SX
def madeQ (day : Int) (a : QC) : Prop := ∃ dd kn : Int, isQuote dd kn a ∧ 0 ≤ dd ∧ dd ≤ 73048 ∧ dd ≤ day + 1
/-- a made book -/
structure IsBook (day last : Int) (xs : List QC) : Prop where
  each : ∀ a ∈ xs, madeQ day a
  up : xs.Pairwise (fun a b => a.known < b.known)
  bd : ∀ a ∈ xs, 1 ≤ a.known ∧ a.known ≤ last
theorem IsBook.snoc {day last kn dd : Int} {xs : List QC} {y : QC} (h : IsBook day last xs) (hl : 0 ≤ last) (hk : last < kn) (hy : isQuote dd kn y) (h1 : 0 ≤ dd) (h2 : dd ≤ 73048) (h3 : dd ≤ day + 1) : IsBook day kn (xs ++ [y]) := by
  have hyk : y.known = kn := hy.2.2.2.2.1
  refine ⟨fun a ha => ?_, ?_, fun a ha => ?_⟩
  · rcases List.mem_append.1 ha with h4 | h4
    · exact h.each a h4
    · have : a = y := by simpa using h4
      rw [this]; exact ⟨dd, kn, hy, h1, h2, h3⟩
  · rw [List.pairwise_append]
    refine ⟨h.up, by simp, fun a ha b hb => ?_⟩
    have : b = y := by simpa using hb
    rw [this, hyk]
    have := (h.bd a ha).2
    omega
  · rcases List.mem_append.1 ha with h4 | h4
    · have := h.bd a h4
      omega
    · have : a = y := by simpa using h4
      rw [this, hyk]; omega
theorem madeQ_in {day : Int} {a : QC} (h : madeQ day a) : a.In := by
  obtain ⟨dd, kn, ⟨h1, h2, h3, h4, h5, h6⟩, d1, d2, d3⟩ := h
  refine ⟨?_, ?_, ?_, ?_, by omega⟩
  · rcases h6 with ⟨-, h6⟩ | ⟨-, h6⟩
    · exact h6.in_
    · rw [h6]; exact zeroQ_in
  · simp [src4] at h1; rcases h1 with h | h | h | h <;> rw [h] <;> decide
  · simp [papers] at h2; rcases h2 with h | h | h | h | h | h <;> rw [h] <;> decide
  · simp at h3; rcases h3 with h | h | h <;> rw [h] <;> decide
end Go.Proofs.YtjkgmglmgndaoaaGreatDoor
namespace Go.Proofs.YtjkgmglmgndaoaaGreatDoor
open Go Go.RowKit Go.SX
end Go.Proofs.YtjkgmglmgndaoaaGreatDoor
namespace Go.Proofs.YtjkgmglmgndaoaaGreatDoor
open Go Go.RowKit Go.SX
theorem PL.set0 (p : PL) (v u : Value) : (p.A v).setIfInBounds (0 + 0) u = p.A u := by kernel_rfl
end Go.Proofs.YtjkgmglmgndaoaaGreatDoor
namespace Go.Proofs.YtjkgmglmgndaoaaGreatDoor
open Go Go.RowKit Go.SX
end Go.Proofs.YtjkgmglmgndaoaaGreatDoor
namespace Go.Proofs.YtjkgmglmgndaoaaGreatDoor
open Go Go.RowKit Go.SX
end Go.Proofs.YtjkgmglmgndaoaaGreatDoor
namespace Go.Proofs.YtjkgmglmgndaoaaGreatDoor
open Go Go.RowKit Go.SX
end Go.Proofs.YtjkgmglmgndaoaaGreatDoor
namespace Go.Proofs.YtjkgmglmgndaoaaGreatDoor
open Go Go.RowKit Go.SX
/-- a drawn candidate -/
structure isCm (i : Nat) (q : QC) : Prop where
  src : src4[i]? = some q.src
  ins : q.ins = acme
  cur : q.cur = [85, 83, 68]
  d1 : 9494 ≤ q.day
  d2 : q.day ≤ 9497
  kn : q.known = ((i + 1 : Nat) : Int)
  vo : q.void = false
  pr : ∃ a : Int, q.price = (mkQ a 1).1 ∧ 77 ≤ a ∧ a ≤ 109
theorem isCm.lt {i : Nat} {q : QC} (h : isCm i q) : i < 4 := (List.getElem?_eq_some_iff.1 h.src).1
theorem isCm.quote {i : Nat} {q : QC} (h : isCm i q) : isQuote q.day q.known q := by
  obtain ⟨a, h1, h2, h3⟩ := h.pr
  refine ⟨List.mem_of_getElem? h.src, by rw [h.ins]; simp [papers, acme], by rw [h.cur]; simp, ⟨by have := h.d1; omega, .inl (Int.le_refl _)⟩, rfl, .inl ⟨h.vo, ?_⟩⟩
  exact ⟨a, 1, h1, by omega, by omega, by simp⟩
theorem isCm.inn {i : Nat} {q : QC} (h : isCm i q) : q.In := madeQ_in (day := q.day) ⟨q.day, q.known, h.quote, by have := h.d1; omega, by have := h.d2; omega, by omega⟩
theorem isCm.key {i : Nat} {q : QC} (h : isCm i q) : (keyQ q)[0]? = some (UInt8.ofNat (97 + i)) := by
  have hs := h.src
  have hi := h.lt
  unfold keyQ
  rcases (by omega : i = 0 ∨ i = 1 ∨ i = 2 ∨ i = 3) with rfl | rfl | rfl | rfl <;> (cases hs' : q.src with | nil => rw [hs'] at hs; cases hs | cons b r => rw [hs'] at hs; cases hs; rfl)
end Go.Proofs.YtjkgmglmgndaoaaGreatDoor
namespace Go.Proofs.YtjkgmglmgndaoaaGreatDoor
open Go Go.RowKit Go.SX
end Go.Proofs.YtjkgmglmgndaoaaGreatDoor
namespace Go.Proofs.YtjkgmglmgndaoaaGreatDoor
open Go Go.RowKit Go.SX
end Go.Proofs.YtjkgmglmgndaoaaGreatDoor
namespace Go.Proofs.YtjkgmglmgndaoaaGreatDoor
open Go Go.RowKit Go.SX
end Go.Proofs.YtjkgmglmgndaoaaGreatDoor
namespace Go.Proofs.YtjkgmglmgndaoaaGreatDoor
open Go Go.RowKit Go.SX
end Go.Proofs.YtjkgmglmgndaoaaGreatDoor
namespace Go.Proofs.YtjkgmglmgndaoaaGreatDoor
open Go Go.RowKit Go.SX
end Go.Proofs.YtjkgmglmgndaoaaGreatDoor
namespace Go.Proofs.YtjkgmglmgndaoaaGreatDoor
open Go Go.RowKit Go.SX
def cEUR : List UInt8 := [69, 85, 82]
def cJPY : List UInt8 := [74, 80, 89]
/-- the pairs that are drawn -/
def pairIns : List (List UInt8) := [eurusd, [85, 83, 68, 69, 85, 82], usdgbp, [71, 66, 80, 85, 83, 68], [69, 85, 82, 71, 66, 80], [69, 85, 82, 74, 80, 89]]
def pairCur : List (List UInt8) := [cUSD, cEUR, cGBP, cJPY]
/-- a rate of exchange that is drawn -/
structure isPair (kn : Int) (q : QC) : Prop where
  src : q.src ∈ src4
  ins : q.ins ∈ pairIns
  cur : q.cur ∈ pairCur
  day : 0 ≤ q.day ∧ q.day ≤ 9497
  known : q.known = kn
  price : (q.void = false ∧ isPrice q.price) ∨ (q.void = true ∧ q.price = zeroQ)
theorem isPair.inn {kn : Int} {q : QC} (h : isPair kn q) : q.In := by
  refine ⟨?_, ?_, ?_, ?_, ⟨by have := h.day; omega, by have := h.day; omega⟩⟩
  · rcases h.price with ⟨-, p⟩ | ⟨-, p⟩
    · exact p.in_
    · rw [p]; exact zeroQ_in
  · have := h.src; simp [src4] at this; rcases this with h | h | h | h <;> rw [h] <;> decide
  · have := h.ins; simp [pairIns] at this; rcases this with h | h | h | h | h | h <;> rw [h] <;> decide
  · have := h.cur; simp [pairCur] at this; rcases this with h | h | h | h <;> rw [h] <;> decide
/-- a book of rates that is drawn -/
structure IsPB (last : Int) (xs : List QC) : Prop where
  each : ∀ a ∈ xs, isPair a.known a
  up : xs.Pairwise (fun a b => a.known < b.known)
  bd : ∀ a ∈ xs, 1 ≤ a.known ∧ a.known ≤ last
theorem IsPB.snoc {last kn : Int} {xs : List QC} {y : QC} (h : IsPB last xs) (hl : 0 ≤ last) (hk : last < kn) (hy : isPair kn y) : IsPB kn (xs ++ [y]) := by
  have hyk := hy.known
  refine ⟨fun a ha => ?_, ?_, fun a ha => ?_⟩
  · rcases List.mem_append.1 ha with h4 | h4
    · exact h.each a h4
    · rw [List.mem_singleton.1 h4, hyk]; exact hy
  · rw [List.pairwise_append]
    refine ⟨h.up, by simp, fun a ha b hb => ?_⟩
    rw [List.mem_singleton.1 hb, hyk]
    have := (h.bd a ha).2
    omega
  · rcases List.mem_append.1 ha with h4 | h4
    · have := h.bd a h4
      omega
    · rw [List.mem_singleton.1 h4, hyk]; omega
end Go.Proofs.YtjkgmglmgndaoaaGreatDoor
namespace Go.Proofs.YtjkgmglmgndaoaaGreatDoor
open Go Go.RowKit Go.SX
/-- two lists of the call's own, handed to a callee that only reads them, with a fixed outcome -/
theorem read2F {E : Env} (hE : E.P = Tryz.prog) {f : FuncId} {sv : List SV} {x y : Value} {xs : List QC} {p : PL} {nx ny : Nat} (hx : nx = xs.length) (hy : ny = p.srcs.length) (hn : nx ≤ 1000000000000) (hm : ny ≤ 1000000000000) (hin : ∀ y ∈ xs, y.In) (hpin : p.In) (hent : Go.SX.Enters Tryz.prog f) {R : Value}
    (h : ∀ E0 : Env, E0.P = Tryz.prog → MkR E0 x y xs p → OwnC E0 f sv [] (fun r U => r = R ∧ U = [])) : OwnC E f sv [(9200, Blk.own x 51 72 nx (cat QC.A xs)), (9101, Blk.own y 9 1 ny (cat strA p.srcs))] (fun r U => r = R ∧ U = [(9200, Blk.own x 51 72 nx (cat QC.A xs)), (9101, Blk.own y 9 1 ny (cat strA p.srcs))]) := by
  refine (read2 (Q := fun r U => r = R ∧ U = []) hx hy (by rw [hE]; exact hent) (fun r U hU => by rw [hU.2]; exact ⟨rfl, rfl⟩) fun E0 h0 _ hl1 hl2 => h E0 (h0.trans hE) ⟨hl1, by omega, hin, hl2, by omega, hpin⟩).mono ?_
  rintro r U ⟨U0, ⟨h1, rfl⟩, rfl⟩
  exact ⟨h1, rfl⟩
theorem Leg_o {E : Env} (hE : E.P = Tryz.prog) {x y : Value} {xs : List QC} {p : PL} {nx ny : Nat} (hx : nx = xs.length) (hy : ny = p.srcs.length) (hn : nx ≤ 1000000000000) (hm : ny ≤ 1000000000000) (hin : ∀ y ∈ xs, y.In) (hpin : p.In) (k day : Int) (a b : List UInt8) : OwnC E 11 [SV.c x, SV.c (.agg (p.A y)), SV.c (.int .i64 k), SV.c (.string (S a)), SV.c (.string (S b)), SV.c (.int .i64 day)] [(9200, Blk.own x 51 72 nx (cat QC.A xs)), (9101, Blk.own y 9 1 ny (cat strA p.srcs))] (fun r U => r = legR xs k p day a b ∧ U = [(9200, Blk.own x 51 72 nx (cat QC.A xs)), (9101, Blk.own y 9 1 ny (cat strA p.srcs))]) :=
  read2F hE hx hy hn hm hin hpin at11.enters fun _E0 h0 hr => Leg_e h0 hr k day
theorem Rate_o {E : Env} (hE : E.P = Tryz.prog) {x y : Value} {xs : List QC} {p : PL} {nx ny : Nat} (hx : nx = xs.length) (hy : ny = p.srcs.length) (hn : nx ≤ 1000000000000) (hm : ny ≤ 1000000000000) (hin : ∀ y ∈ xs, y.In) (hpin : p.In) (k day : Int) (u a b : List UInt8) : OwnC E 13 [SV.c x, SV.c (.agg (p.A y)), SV.c (.int .i64 k), SV.c (.string (S u)), SV.c (.string (S a)), SV.c (.string (S b)), SV.c (.int .i64 day)] [(9200, Blk.own x 51 72 nx (cat QC.A xs)), (9101, Blk.own y 9 1 ny (cat strA p.srcs))] (fun r U => r = resQ (rateQ xs k p day u a b) ∧ U = [(9200, Blk.own x 51 72 nx (cat QC.A xs)), (9101, Blk.own y 9 1 ny (cat strA p.srcs))]) :=
  read2F hE hx hy hn hm hin hpin at13.enters fun _E0 h0 hr => Rate_e h0 hr k day
def kL : List QC := [⟨[97], eurusd, cUSD, 9, (mkQ 5 4).1, 1, false⟩, ⟨[97], [71, 66, 80, 85, 83, 68], cUSD, 9, (mkQ 3 2).1, 2, false⟩]
def kP : PL := ⟨[[97]], (mkQ 0 1).1, 0⟩
theorem kv1 : legR kL 9 kP 9 cUSD cEUR = .tuple #[.agg (mkQ 4 5).1.A, .bool true, .int .i64 0] := by kernel_rfl
theorem kv2 : rateQ kL 9 kP 9 cUSD cEUR cGBP = ((mkQ 5 6).1, 0) := by kernel_rfl
theorem kv3 : convQ 103 (mkQ 1 2).1 6 = (52, 0) := by kernel_rfl
theorem kL_in : ∀ y ∈ kL, y.In := by
  intro y hy
  simp only [kL, List.mem_cons, List.not_mem_nil, or_false] at hy
  rcases hy with rfl | rfl
  · exact ⟨mkQ_in _ _, by show (1 : Nat) ≤ _; decide, by show (6 : Nat) ≤ _; decide, by show (3 : Nat) ≤ _; decide, by show (-9223372036854775808 : Int) ≤ 9 ∧ (9 : Int) ≤ 9223372036854775807; decide⟩
  · exact ⟨mkQ_in _ _, by show (1 : Nat) ≤ _; decide, by show (6 : Nat) ≤ _; decide, by show (3 : Nat) ≤ _; decide, by show (-9223372036854775808 : Int) ≤ 9 ∧ (9 : Int) ≤ 9223372036854775807; decide⟩
theorem kP_in : kP.In := ⟨mkQ_in _ _, by decide, by decide⟩
theorem fill_quo2 (a b : QC) : Instr.fill (fun k => some (k * ti51.size, ti51.size)) (madeCells ti51.zero (2 * ti51.size)) [(0, .agg a.A), (1, .agg b.A)] = some (cat QC.A [a, b]) := by kernel_rfl
theorem fill_srcA : Instr.fill (fun k => some (k * ti9.size, ti9.size)) (madeCells ti9.zero (1 * ti9.size)) [(0, .string (S [97]))] = some (cat strA kP.srcs) := by kernel_rfl
theorem fill_pol2 (a : Option Addr) (m c : Nat) (r : RQ) (l : List (List UInt8)) {pl : List (Nat × Nat)} (hpl : pl = [(0, 1), (1, 66), (67, 1)]) : Instr.fill (fun k => pl[k]?) ti31.zero [(0, .slice a m c), (1, .agg r.A)] = some (PL.A ⟨l, r, 0⟩ (.slice a m c)) := by
  subst hpl
  kernel_rfl
theorem eqs_rq {E : Env} (hE : E.P = Tryz.prog) {r : RQ} (hr : r.In) {u v : Operand} : Runs E (do eqGuard .eql 29 u v (.agg r.A) (.agg r.A); binOp .eql 29 (.agg r.A) (.agg r.A)) (.bool true) := eqs_ratio hE hr
set_option smartUnfolding false in
set_option maxRecDepth 100000 in
set_option maxHeartbeats 1000000 in
theorem known_x0 {E : Env} (hE : E.P = Tryz.prog) : OwnC E 15 [] [] (fun x U => x = .bool true ∧ U = []) := by
  refine sx_ownC [] tt_ok mixed at15 E hE [] [] _ rfl rfl fun w X β hT => ?_
  have O1 := made_of (n := 5) (d := 4) (by decide) (by decide) (by decide) (by decide)
  have O2 := made_of (n := 3) (d := 2) (by decide) (by decide) (by decide) (by decide)
  have O3 := made_of (n := 0) (d := 1) (by decide) (by decide) (by decide) (by decide)
  have O4 := made_of (n := 1) (d := 2) (by decide) (by decide) (by decide) (by decide)
  have O5 := made_of (n := 4) (d := 5) (by decide) (by decide) (by decide) (by decide)
  have O6 := made_of (n := 5) (d := 6) (by decide) (by decide) (by decide) (by decide)
  have Q1 := fill_q [97] eurusd 9 1 (mkQ 5 4).1 (pl := [(0, 1), (1, 1), (2, 1), (3, 1), (4, 66), (70, 1), (71, 1)]) rfl
  have Q2 := fill_q [97] [71, 66, 80, 85, 83, 68] 9 2 (mkQ 3 2).1 (pl := [(0, 1), (1, 1), (2, 1), (3, 1), (4, 66), (70, 1), (71, 1)]) rfl
  have QL := fill_quo2 ⟨[97], eurusd, cUSD, 9, (mkQ 5 4).1, 1, false⟩ ⟨[97], [71, 66, 80, 85, 83, 68], cUSD, 9, (mkQ 3 2).1, 2, false⟩
  have QS : (cat QC.A kL).size = 2 * 72 := by rw [Go.SX.cat_size QC.size]; rfl
  have L1 := fun (g g2 : Nat) (E0 : Env) (h0 : E0.P = Tryz.prog) => Leg_o (E := E0) h0 (x := .slice (some ⟨g, 0, none⟩) 2 2) (y := .slice (some ⟨g2, 0, none⟩) 1 1) (xs := kL) (p := kP) (nx := 2) (ny := 1) rfl rfl (by decide) (by decide) kL_in kP_in 9 9 cUSD cEUR
  have L2 := fun (g g2 : Nat) (E0 : Env) (h0 : E0.P = Tryz.prog) => Rate_o (E := E0) h0 (x := .slice (some ⟨g, 0, none⟩) 2 2) (y := .slice (some ⟨g2, 0, none⟩) 1 1) (xs := kL) (p := kP) (nx := 2) (ny := 1) rfl rfl (by decide) (by decide) kL_in kP_in 9 9 cUSD cEUR cGBP
  rw [kv1] at L1
  rw [kv2] at L2
  have C1 := Convert_e (r := (mkQ 1 2).1) (mkQ_in _ _) (a := 103) (by decide) 6
  rw [kv3] at C1
  have P1 := fun (g : Nat) => fill_pol2 (some ⟨g, 0, none⟩) 1 1 (mkQ 0 1).1 kP.srcs (pl := [(0, 1), (1, 66), (67, 1)]) rfl
  rw [show (⟨kP.srcs, (mkQ 0 1).1, 0⟩ : PL) = kP from rfl] at P1
  have PF := fun (g : Nat) => kP.fits (v := .slice (some ⟨g, 0, none⟩) 1 1) rfl
  have e45 := fun (u v : Operand) => eqs_rq (E := (envC Tryz.prog tt Tryz.f15.ntmps w X (tiedK [] β)).toEnv) rfl (mkQ_in 4 5) (u := u) (v := v)
  have e56 := fun (u v : Operand) => eqs_rq (E := (envC Tryz.prog tt Tryz.f15.ntmps w X (tiedK [] β)).toEnv) rfl (mkQ_in 5 6) (u := u) (v := v)
  have F45 := (mkQ 4 5).1.A_fits
  have F56 := (mkQ 5 6).1.A_fits
  refine .inl ⟨_, O1, _, Q1, .inl ⟨_, O2, _, Q2, .inr ⟨by decide, by decide, by decide, cat QC.A kL, QL, QS, trivial, fun g => ?_⟩⟩⟩
  refine .inr ⟨by decide, by decide, by decide, _, fill_srcA, rfl, trivial, fun g2 => .inl ⟨_, O3, _, P1 g2, PF g2, ?_⟩⟩
  have L1 := L1 g g2
  have L2 := L2 g g2
  generalize kP.A (.slice (some ⟨g2, 0, none⟩) 1 1) = PA at *
  generalize cat QC.A kL = QA at *
  generalize cat strA kP.srcs = SA at *
  generalize (mkQ 4 5).1.A = A45 at *
  refine .inr (.inr (.inl ⟨[(9200, 14), (9101, 15)], [_, _, _, _, _, _], [_, _], _, [_, _], L1 _ rfl, rfl, ⟨.inl rfl, .inl rfl, trivial⟩, rfl, rfl, F45, ?_⟩))
  refine .inr (.inr (.inl ⟨[(9200, 14), (9101, 15)], [_, _, _, _, _, _, _], [_, _], _, [_, _], L2 _ rfl, rfl, ⟨.inl rfl, .inl rfl, trivial⟩, rfl, rfl, F56, ?_⟩))
  refine .inl ⟨_, O4, .inl ⟨_, C1, ?_⟩⟩
  refine ⟨fun _ => ⟨fun _ => .inl ⟨_, O5, _, e45 _ _, ?_⟩, fun h => absurd h (by decide)⟩, fun h => absurd h (by decide)⟩
  refine ⟨fun _ => ⟨fun _ => .inl ⟨_, O6, _, e56 _ _, ?_⟩, fun h => absurd h (by decide)⟩, fun h => absurd h (by decide)⟩
  refine ⟨fun _ => ⟨fun _ => ?_, fun h => absurd h (by decide)⟩, fun h => absurd h (by decide)⟩
  exact ⟨by kernel_rfl, [], [], ⟨rfl, rfl⟩, trivial, rfl⟩
theorem known_x : Pure Tryz.prog 15 [] (.bool true) := pure_of (vs := []) at15.enters fun _w => known_x0 rfl
end Go.Proofs.YtjkgmglmgndaoaaGreatDoor
namespace Go.Proofs.YtjkgmglmgndaoaaGreatDoor
open Go Go.RowKit Go.SX
theorem beq_self' (n : Int) : (n == n) = true := by simp
theorem bb_self (b : Bool) : (b == b) = true := by cases b <;> rfl
set_option smartUnfolding false in
set_option maxRecDepth 100000 in
theorem exact_x {E : Env} (hE : E.P = Tryz.prog) {v vp : Value} {xs : List QC} {p : PL} (h : MkR E v vp xs p) (k day : Int) {u a b : List UInt8} : OwnC E 3 [SV.c v, SV.c (.agg (p.A vp)), SV.c (.int .i64 k), SV.c (.string (S u)), SV.c (.string (S a)), SV.c (.string (S b)), SV.c (.int .i64 day)] [] (fun x U => x = .bool true ∧ U = []) := by
  refine sx_ownC [] tt_ok mixed at3 E hE [SV.c v, SV.c (.agg (p.A vp)), SV.c (.int .i64 k), SV.c (.string (S u)), SV.c (.string (S a)), SV.c (.string (S b)), SV.c (.int .i64 day)] [] _ rfl rfl fun w X β hT => ?_
  have hr := h.of_old hT
  obtain ⟨ap, capp, rfl, hcp, -⟩ := id hr.s.shape
  have F1 := p.size (.slice ap p.srcs.length capp)
  have L1 := Leg_e rfl hr k day (a := a) (b := b)
  have L2 := Leg_r rfl hr k day (a := a) (b := b)
  have R1 := Rate_e rfl hr k day (u := u) (a := a) (b := b)
  have R2 := Rate_r rfl hr k day (u := u) (a := a) (b := b)
  generalize p.A (.slice ap p.srcs.length capp) = PA at *
  have hl : ∃ (r : RQ) (t : Bool) (e : Int), legR xs k p day a b = .tuple #[.agg r.A, .bool t, .int .i64 e] ∧ r.In := by
    refine ⟨_, _, _, rfl, ?_⟩
    split
    · rename_i hm
      obtain ⟨-, -, -, -, hall⟩ := mktC_ok hm
      cases e : legQ xs k p day a b with
      | none => exact zeroQ_in
      | some r => exact (legQ_ok (hall a (by simp)) (hall b (by simp)) e).in_
    · exact zeroQ_in
  obtain ⟨r, t, e, hl, hrin⟩ := hl
  rw [hl] at L1 L2
  have hq : (rateQ xs k p day u a b).1.In := by
    unfold rateQ
    split
    · exact zeroQ_in
    · rename_i hm
      obtain ⟨-, -, -, -, hall⟩ := mktC_ok (Decidable.not_not.1 hm)
      split
      · exact one_in
      · cases e : legO xs k p day a b with
        | some r => exact (legO_leg (cur_ne (hall a (by simp))) (cur_ne (hall b (by simp))) e).in_
        | none =>
          simp only []
          split
          · exact zeroQ_in
          · cases legO xs k p day a u <;> cases legO xs k p day u b <;> first | exact zeroQ_in | exact mulQ_in _ _
  generalize rateQ xs k p day u a b = RQ2 at *
  obtain ⟨q, f⟩ := RQ2
  have N1 := fun (u v : Operand) => eqs_rq (E := (envC Tryz.prog tt Tryz.f3.ntmps w X (tiedK [] β)).toEnv) rfl hrin (u := u) (v := v)
  have N2 := fun (u v : Operand) => eqs_rq (E := (envC Tryz.prog tt Tryz.f3.ntmps w X (tiedK [] β)).toEnv) rfl hq (u := u) (v := v)
  have RF := r.A_fits
  have QF := q.A_fits
  generalize r.A = RA1 at *
  refine ⟨F1, .inr (.inr (.inl ⟨[], [_, _, _, _, _, _], [], _, [], L1, rfl, trivial, rfl, rfl, RF, ?_⟩))⟩
  refine .inr (.inr (.inl ⟨[], [_, _, _, _, _, _], [], _, [], L2, rfl, trivial, rfl, rfl, RF, ?_⟩))
  refine .inr (.inr (.inl ⟨[], [_, _, _, _, _, _, _], [], _, [], R1, rfl, trivial, rfl, rfl, QF, ?_⟩))
  refine .inr (.inr (.inl ⟨[], [_, _, _, _, _, _, _], [], _, [], R2, rfl, trivial, rfl, rfl, QF, ?_⟩))
  refine .inl ⟨_, known_x, ?_⟩
  refine ⟨fun _ => ⟨_, N1 _ _, ?_⟩, fun h => absurd h (by decide)⟩
  refine ⟨fun _ => ⟨fun _ => ?_, fun h => absurd ((bb_self t).symm.trans h) (by decide)⟩, fun h => absurd h (by decide)⟩
  refine ⟨fun _ => ⟨_, N2 _ _, ?_⟩, fun h => absurd ((beq_self' e).symm.trans h) (by decide)⟩
  refine ⟨fun _ => ?_, fun h => absurd h (by decide)⟩
  refine ⟨[], [], ⟨?_, rfl⟩, trivial, rfl⟩
  show mkRes [.bool (f == f)] = _
  rw [beq_self']; rfl
end Go.Proofs.YtjkgmglmgndaoaaGreatDoor
