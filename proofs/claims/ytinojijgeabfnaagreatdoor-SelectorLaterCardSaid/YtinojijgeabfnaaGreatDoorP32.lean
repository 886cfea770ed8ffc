/- the choice of the document. sameness of choices. a made book of the chapter's example. the chapter's example. SelectorExact, walk; no condition. -/
import Derived.Test.YtinojijgeabfnaaGreatDoorP31
import Derived.Test.YtinojijgeabfnaaGreatDoorP23
import Derived.Test.YtinojijgeabfnaaGreatDoorP19
import Derived.Test.YtinojijgeabfnaaGreatDoorP9
import Derived.Test.YtinojijgeabfnaaGreatDoorP7
namespace Go.Proofs.YtinojijgeabfnaaGreatDoor
open Go Go.RowKit Go.SX
end Go.Proofs.YtinojijgeabfnaaGreatDoor
namespace Go.Proofs.YtinojijgeabfnaaGreatDoor
open Go Go.RowKit Go.SX
def QC.beq (a b : QC) : Bool := decide (a.src = b.src) && (decide (a.ins = b.ins) && (decide (a.cur = b.cur) && ((a.day == b.day) && (a.price.beq b.price && ((a.known == b.known) && ((a.void == b.void) && true))))))
theorem QC.beq_self (a : QC) : a.beq a = true := by simp [QC.beq, RQ.beq_self]
set_option smartUnfolding false in
set_option maxRecDepth 100000 in
theorem texts_s {E : Env} (hE : E.P = Tryz.prog) {v v' : Value} {xs : List (List UInt8)} (hv : Lst E v 1 xs.length (cat strA xs)) (hv' : Lst E v' 1 xs.length (cat strA xs)) (hn : xs.length ≤ 1000000000000) : OwnC E 50 [SV.c v, SV.c v'] [] (fun x U => x = .bool true ∧ U = []) := by
  refine sx_ownC [] tt_ok mixed at50 E hE [SV.c v, SV.c v'] [] _ rfl rfl fun w X β hT => ?_
  obtain ⟨a, cap, rfl, hc, h4⟩ := (hv.of_old hT).shape
  obtain ⟨a', cap', rfl, hc', h4'⟩ := (hv'.of_old hT).shape
  refine ⟨_, fun w' _ => run_len_sl Tryz.underlying23 w', _, fun w' _ => run_len_sl Tryz.underlying23 w', fun h => ?_, fun _ => ?_⟩
  · have h : (((xs.length : Nat) : Int) != ((xs.length : Nat) : Int)) = true := h
    simp at h
  refine ⟨fun q f m => ∃ (i : Nat), q = xs.length - i ∧ i ≤ xs.length ∧ f = [(0, SV.c (.slice a xs.length cap)), (1, SV.c (.slice a' xs.length cap')), (5, SV.c (.int .i64 (i : Nat)))] ∧ m = [], xs.length, ⟨_, _, ⟨0, by omega, by omega, rfl, rfl⟩, ⟨rfl, rfl, rfl, trivial⟩, trivial, rfl⟩, ?_⟩
  rintro q f m ⟨i, rfl, hi, rfl, rfl⟩
  refine ⟨_, fun w' _ => run_len_sl Tryz.underlying23 w', fun h => ?_, fun h => ?_⟩
  · have h : i < xs.length := by have := of_decide_eq_true h; omega
    obtain ⟨b, o, rfl, h5⟩ := h4 (by omega)
    obtain ⟨b', o', rfl, h5'⟩ := h4' (by omega)
    obtain ⟨y, hy⟩ : ∃ y, xs[i]? = some y := ⟨_, List.getElem?_eq_getElem h⟩
    have hE' : VOk (envC Tryz.prog tt Tryz.f50.ntmps w X (tiedK [] β)) := tt_ok
    have L1 := lst_at hE' h5 strA_size hy (j := 0) (v := .string (S y)) rfl (ty := 9) (ti := ti9) rfl rfl (p := offAt o ((i : Nat) : Int) ti9.size) (off_one o i)
    have L2 := lst_at hE' h5' strA_size hy (j := 0) (v := .string (S y)) rfl (ty := 9) (ti := ti9) rfl rfl (p := offAt o' ((i : Nat) : Int) ti9.size) (off_one o' i)
    have e1 : (!((S y).toList == (S y).toList)) = false := by simp
    refine ⟨by omega, by omega, .inl ⟨_, L1, by omega, by omega, .inl ⟨_, L2, by kernel_rfl, fun h => absurd (e1.symm.trans h) (by decide), fun _ => ?_⟩⟩⟩
    exact ⟨xs.length - (i + 1), _, _, by omega, ⟨i + 1, rfl, by omega, rfl, rfl⟩, ⟨rfl, rfl, c_int (i64_succ (by omega)), trivial⟩, trivial, rfl⟩
  · have h : i = xs.length := by have := of_decide_eq_false h; omega
    subst h
    exact ⟨[], [], ⟨rfl, rfl⟩, trivial, rfl⟩
theorem CH.g1 (h : CH) (v : Value) : (h.A v)[1]? = some (.string (S h.cur)) := by kernel_rfl
theorem CH.g2 (h : CH) (v : Value) : (h.A v)[2]? = some (.int .i64 h.day) := by kernel_rfl
theorem CH.g3 (h : CH) (v : Value) : (h.A v).extract 3 (3 + 66) = h.price.A := by
  have h2 : h.price.A.size = 66 := RQ.A_size _
  rw [CH.A, Array.extract_append]
  have e : (#[.string (S h.src), .string (S h.cur), .int .i64 h.day] : Array Value).size = 3 := rfl
  rw [e, Array.extract_append, h2]
  have e2 : h.price.A.extract (3 - 3) (3 + 66 - 3) = h.price.A := by
    rw [show (3 + 66 - 3 : Nat) = h.price.A.size by omega, Nat.sub_self, Array.extract_size]
  rw [e2]
  apply Array.ext'
  simp
set_option smartUnfolding false in
set_option maxRecDepth 100000 in
theorem same_c {E : Env} (hE : E.P = Tryz.prog) {v v' : Value} {h : CH} (hh : h.price.In) {xs : List (List UInt8)} (hv : Lst E v 1 xs.length (cat strA xs)) (hv' : Lst E v' 1 xs.length (cat strA xs)) (hn : xs.length ≤ 1000000000000) : OwnC E 17 [SV.c (.agg (h.A v)), SV.c (.agg (h.A v'))] [] (fun x U => x = .bool true ∧ U = []) := by
  refine sx_ownC [] tt_ok mixed at17 E hE [SV.c (.agg (h.A v)), SV.c (.agg (h.A v'))] [] _ rfl rfl fun w X β hT => ?_
  have T1 := texts_s rfl (hv.of_old hT) (hv'.of_old hT) hn
  obtain ⟨a, cap, rfl, hc, h4⟩ := (hv.of_old hT).shape
  obtain ⟨a', cap', rfl, hc', h4'⟩ := (hv'.of_old hT).shape
  have F1 := h.size (.slice a xs.length cap)
  have F2 := h.size (.slice a' xs.length cap')
  have A0 := h.g0 (.slice a xs.length cap)
  have B0 := h.g0 (.slice a' xs.length cap')
  have A1 := h.g1 (.slice a xs.length cap)
  have B1 := h.g1 (.slice a' xs.length cap')
  have A2 := h.g2 (.slice a xs.length cap)
  have B2 := h.g2 (.slice a' xs.length cap')
  have A3 := h.g3 (.slice a xs.length cap)
  have B3 := h.g3 (.slice a' xs.length cap')
  have A4 := h.g4 (.slice a xs.length cap)
  have B4 := h.g4 (.slice a' xs.length cap')
  have N1 := fun u v => eqs_ratio (E := (envC Tryz.prog tt Tryz.f17.ntmps w X (tiedK [] β)).toEnv) rfl hh (u := u) (v := v)
  generalize h.A (.slice a xs.length cap) = HA at *
  generalize h.A (.slice a' xs.length cap') = HB at *
  have e1 : ∀ s : ByteArray, (s.toList == s.toList) = true := fun s => by simp
  have e2 : ∀ n : Int, (n == n) = true := fun n => by simp
  refine ⟨F1, F2, _, A0, _, B0, fun _ => ?_, fun c => absurd ((e1 _).symm.trans c) (by decide)⟩
  refine ⟨_, A1, _, B1, fun _ => ?_, fun c => absurd ((e1 _).symm.trans c) (by decide)⟩
  refine ⟨_, A2, _, B2, fun _ => ?_, fun c => absurd ((e2 _).symm.trans c) (by decide)⟩
  refine ⟨by decide, _, A3, by decide, _, B3, _, N1 _ _, fun _ => ?_, fun c => absurd c (by decide)⟩
  refine ⟨_, A4, _, B4, .inr (.inr (.inl ⟨[], [_, _], [], _, [], T1, rfl, trivial, rfl, rfl, ?_⟩))⟩
  exact ⟨[], [], ⟨rfl, rfl⟩, trivial, rfl⟩
end Go.Proofs.YtinojijgeabfnaaGreatDoor
namespace Go.Proofs.YtinojijgeabfnaaGreatDoor
open Go Go.RowKit Go.SX
def src4 : List (List UInt8) := [[97], [98], [99], [100, 52]]
theorem fill_src4 : Instr.fill (fun k => some (k * ti9.size, ti9.size)) (madeCells ti9.zero (4 * ti9.size)) [(0, .string (S [97])), (1, .string (S [98])), (2, .string (S [99])), (3, .string (S [100, 52]))] = some (cat strA src4) := by kernel_rfl
set_option smartUnfolding false in
set_option maxRecDepth 100000 in
theorem sources_o (E0 : Env) (hP : E0.P = Tryz.prog) (key : Key) : Own E0 59 [] [] (SV.sl key 0 4 4) [(key, Blk.row 9 4 (cat strA src4))] := by
  refine sx_newS tt_ok mixed at59 E0 hP [] 0 4 key 1 9 4 (cat strA src4) rfl rfl rfl fun w => ?_
  exact ⟨by decide, by decide, _, fill_src4, rfl, rfl, rfl⟩
def mq (s : List UInt8) (n known : Int) : QC := ⟨s, [65, 67, 77, 69], [85, 83, 68], 9, (mkQ n 1).1, known, false⟩
theorem fill_mq (s : List UInt8) (r : RQ) (known : Int) {pl : List (Nat × Nat)} (hpl : pl = [(0, 1), (1, 1), (2, 1), (3, 1), (4, 66), (70, 1), (71, 1)]) : Instr.fill (fun k => pl[k]?) ti40.zero [(0, .string (S s)), (1, .string (S [65, 67, 77, 69])), (2, .string (S [85, 83, 68])), (3, .int .i64 9), (4, .agg r.A), (5, .int .i64 known)] = some (QC.A ⟨s, [65, 67, 77, 69], [85, 83, 68], 9, r, known, false⟩) := by
  subst hpl
  kernel_rfl
def bookQ (a b c : Int) : List QC := [mq [97] a 1, mq [98] b 2, mq [99] c 3]
set_option smartUnfolding false in
set_option maxRecDepth 100000 in
theorem book_m {E : Env} (hE : E.P = Tryz.prog) {a b c : Int} (ha : 0 ≤ a ∧ a ≤ 1000000) (hb : 0 ≤ b ∧ b ≤ 1000000) (hc : 0 ≤ c ∧ c ≤ 1000000) : OwnC E 49 [SV.c (.int .i64 a), SV.c (.int .i64 b), SV.c (.int .i64 c)] [] (fun x U => IsL x 3 ∧ U = [(9200, Blk.own x 40 72 3 (cat QC.A (bookQ a b c)))]) := by
  refine sx_ownC [] tt_ok mixed at49 E hE [SV.c (.int .i64 a), SV.c (.int .i64 b), SV.c (.int .i64 c)] [] _ rfl rfl fun w X β hT => ?_
  refine .inr ⟨by decide, by decide, by decide, #[.int .i64 a, .int .i64 b, .int .i64 c], (by kernel_rfl), rfl, trivial, fun g => ?_⟩
  refine ⟨fun q f m => ∃ (i : Nat) (y : Value), q = 3 - i ∧ i ≤ 3 ∧ IsL y i ∧ f = [(7, SV.c y), (8, SV.c (.slice (some ⟨g, 0, none⟩) 3 3)), (9, SV.c (.int .i64 (i : Nat)))] ∧ m = [(9200, Blk.own y 40 72 i (cat QC.A ((bookQ a b c).take i))), (13, Blk.own (.slice (some ⟨g, 0, none⟩) 3 3) 3 1 3 #[.int .i64 a, .int .i64 b, .int .i64 c])], 3, ⟨_, _, ⟨0, .slice none 0 0, rfl, by omega, .nil, rfl, rfl⟩, ⟨rfl, rfl, rfl, trivial⟩, ⟨.inr ⟨rfl, rfl, rfl⟩, .inl rfl, trivial⟩, rfl⟩, ?_⟩
  rintro q f m ⟨i, y, rfl, hi, hy, rfl, rfl⟩
  refine ⟨fun h => ?_, fun h => ?_⟩
  · have h : i < 3 := by have := of_decide_eq_true h; omega
    obtain ⟨sr, n, hs, hn, hn2, hq⟩ : ∃ (sr : List UInt8) (n : Int), src4[i]? = some sr ∧ (0 ≤ n ∧ n ≤ 1000000) ∧ (#[Value.int .i64 a, .int .i64 b, .int .i64 c] : Array Value)[i]? = some (.int .i64 n) ∧ (bookQ a b c)[i]? = some (mq sr n ((i + 1 : Nat) : Int)) := by
      rcases (by omega : i = 0 ∨ i = 1 ∨ i = 2) with rfl | rfl | rfl
      · exact ⟨_, _, rfl, ha, rfl, rfl⟩
      · exact ⟨_, _, rfl, hb, rfl, rfl⟩
      · exact ⟨_, _, rfl, hc, rfl, rfl⟩
    have S1 := sources_o (envC Tryz.prog tt Tryz.f49.ntmps w X (tiedK [] β)).toEnv rfl 9100
    have O1 := made_of (n := n) (d := 1) (by omega) (by omega) (by decide) (by decide)
    refine .inr (.inl ⟨[], _, _, S1, trivial, rfl, ?_⟩)
    have g1 : (cat strA src4)[i]? = some (.string (S sr)) := by
      have := cat_get strA_size src4 i sr 0 hs (by decide)
      simpa [strA] using this
    have eK : IntKind.i64.wrap ((i : Int) + 1) = ((i + 1 : Nat) : Int) := i64_succ (by omega)
    have M1 := fill_mq sr (mkQ n 1).1 ((i + 1 : Nat) : Int) (pl := [(0, 1), (1, 1), (2, 1), (3, 1), (4, 66), (70, 1), (71, 1)]) rfl
    rw [← eK] at M1
    have hz : (⟨sr, [65, 67, 77, 69], [85, 83, 68], 9, (mkQ n 1).1, IntKind.i64.wrap ((i : Int) + 1), false⟩ : QC) = mq sr n ((i + 1 : Nat) : Int) := by rw [eK]; rfl
    rw [hz] at M1
    generalize mq sr n ((i + 1 : Nat) : Int) = z at *
    have F1 := fill_quo1 z
    have F2 := z.fits.one
    have F3 := z.ext72
    have F4 : z.A.size = 1 * 72 := z.size
    have F5 : cat QC.A ((bookQ a b c).take i) ++ z.A = cat QC.A ((bookQ a b c).take (i + 1)) := by rw [List.take_add_one, hq, cat_append]; simp [cat_one]
    generalize hY : z.A = ZA at *
    generalize hX : cat strA src4 = XA at *
    refine ⟨by omega, by omega, _, (by rw [off_one 0 i]; simpa using g1), ?_⟩
    refine ⟨by omega, by omega, .inr ⟨13, g, _, 3, _, _, _, _, rfl, rfl, _, (by rw [off1]; exact hn2), .inl ⟨_, O1, ZA, M1, ?_⟩⟩⟩
    refine .inl ⟨by decide, by decide, _, F1, F4, by decide, 9200, i, _, .inl rfl, by decide, F2, F4, _, F3, ?_⟩
    obtain ⟨q, hqq, hb⟩ := info_quo
    refine ⟨by omega, by unfold maxLen; omega, ⟨q, hqq, by rw [hb]; omega⟩, (by change _ = true; kernel_rfl), fun g2 cap2 => ?_⟩
    exact ⟨by kernel_rfl, 3 - (i + 1), _, _, by omega, ⟨i + 1, _, rfl, by omega, .some, rfl, rfl⟩, ⟨rfl, rfl, c_int (i64_succ (by omega)), trivial⟩, ⟨.inl (own_eq F5), .inl rfl, trivial⟩, rfl⟩
  · have h : i = 3 := by have := of_decide_eq_false h; omega
    subst h
    exact ⟨[(9200, Blk.own y 40 72 3 (cat QC.A (bookQ a b c)))], [], ⟨hy, rfl⟩, ⟨.inl rfl, trivial⟩, rfl⟩
end Go.Proofs.YtinojijgeabfnaaGreatDoor
namespace Go.Proofs.YtinojijgeabfnaaGreatDoor
open Go Go.RowKit Go.SX
def acme : List UInt8 := [65, 67, 77, 69]
def pK : PL := ⟨[[97], [98], [99]], (mkQ 3 100).1, 2⟩
theorem kn1 : selE (bookQ 100 101 120) 9 pK acme 10 = 0 ∧ (selCh (cands (bookQ 100 101 120) 9 pK acme 10) pK.tol).src = [97] ∧ selBad (cands (bookQ 100 101 120) 9 pK acme 10) pK.tol = [[99]] := by
  refine ⟨by kernel_rfl, by kernel_rfl, by kernel_rfl⟩
theorem kn2 : selE (bookQ 90 101 120) 9 pK acme 9 = 0 ∧ (selCh (cands (bookQ 90 101 120) 9 pK acme 9) pK.tol).src = [98] ∧ selBad (cands (bookQ 90 101 120) 9 pK acme 9) pK.tol = [[97], [99]] := by
  refine ⟨by kernel_rfl, by kernel_rfl, by kernel_rfl⟩
theorem kn3 : selE (bookQ 90 101 120) 9 pK acme 12 = 151 := by kernel_rfl
def SelO (x y : Value) (nx ny : Nat) (xs : List QC) (srcs : List (List UInt8)) (Q : Value → MemL → Prop) (r : Value) (U : MemL) : Prop := ∃ U0, Q r U0 ∧ U = (9200, Blk.own x 40 72 nx (cat QC.A xs)) :: (9101, Blk.own y 9 1 ny (cat strA srcs)) :: U0
/-- two lists of the call's own, handed to a callee that only reads them -/
theorem read2 {E : Env} {f : FuncId} {sv : List SV} {x y : Value} {xs : List QC} {srcs : List (List UInt8)} {nx ny : Nat} (hx : nx = xs.length) (hy : ny = srcs.length) (hent : Go.SX.Enters E.P f) {Q : Value → MemL → Prop} (hQ : ∀ r U, Q r U → getM U 9200 = none ∧ getM U 9101 = none)
    (h : ∀ E0 : Env, E0.P = E.P → (∀ w, OldW E0 w → OldW E w) → Lst E0 x 72 xs.length (cat QC.A xs) → Lst E0 y 1 srcs.length (cat strA srcs) → OwnC E0 f sv [] Q) : OwnC E f sv [(9200, Blk.own x 40 72 nx (cat QC.A xs)), (9101, Blk.own y 9 1 ny (cat strA srcs))] (SelO x y nx ny xs srcs Q) := by
  subst hx hy
  have h2 : ∀ E0 : Env, E0.P = E.P → (∀ w, OldW E0 w → OldW E w) → Lst E0 x 72 xs.length (cat QC.A xs) → OwnC E0 f sv [(9101, Blk.own y 9 1 srcs.length (cat strA srcs))] (fun r U => ∃ U0, Q r U0 ∧ U = (9101, Blk.own y 9 1 srcs.length (cat strA srcs)) :: U0) := fun E0 h0 ho hl =>
    OwnC.with_own2 (k := 9101) (v := y) (e := 9) (sz := 1) (n := srcs.length) (A := cat strA srcs) (pre := []) (Q := Q) rfl rfl (Go.SX.cat_all strA_one srcs) (by rw [h0]; exact hent) (fun E1 h1 ho1 hl1 => h E1 (h1.trans h0) (fun w hw => ho w (ho1 w hw)) (hl.of_old ho1) hl1) (fun r U hq => (hQ r U hq).2)
  refine (OwnC.with_own2 (k := 9200) (v := x) (e := 40) (sz := 72) (n := xs.length) (A := cat QC.A xs) rfl rfl (Go.SX.cat_all QC.all1 xs) hent h2 (fun r U ⟨U0, hq, hU⟩ => by rw [hU]; exact (hQ r U0 hq).1)).mono ?_
  rintro r U ⟨U1, ⟨U0, h1, rfl⟩, rfl⟩
  exact ⟨U0, h1, rfl⟩
theorem select_own {E : Env} (hE : E.P = Tryz.prog) {x y : Value} {xs : List QC} {p : PL} {nx ny : Nat} (hx : nx = xs.length) (hy : ny = p.srcs.length) (hn : nx ≤ 1000000000000) (hm : ny ≤ 1000000000000000) (hin : ∀ y ∈ xs, y.In) (hpin : p.In) (k : Int) (ins : List UInt8) (day : Int) : OwnC E 10 [SV.c x, SV.c (.agg (p.A y)), SV.c (.int .i64 k), SV.c (.string (S ins)), SV.c (.int .i64 day)] [(9200, Blk.own x 40 72 nx (cat QC.A xs)), (9101, Blk.own y 9 1 ny (cat strA p.srcs))] (SelO x y nx ny xs p.srcs (SelQ xs k p ins day)) :=
  read2 hx hy (by rw [hE]; exact at10.enters) (fun r U ⟨s, n, _, _, _, hU⟩ => by rw [hU]; exact ⟨rfl, rfl⟩) fun E0 h0 _ hl1 hl2 => select_q (h0.trans hE) hl1 (by omega) hin hl2 (by omega) hpin ins day
theorem bookQ_in (a b c : Int) : ∀ y ∈ bookQ a b c, y.In := by
  intro y hy
  have : ∀ (s : List UInt8) (n k : Int), s.length ≤ 10 → (mq s n k).In := fun s n k hs => ⟨mkQ_in _ _, by show s.length ≤ _; omega, by show (4 : Nat) ≤ _; decide, by show (3 : Nat) ≤ _; decide, by show (-9223372036854775808 : Int) ≤ 9 ∧ (9 : Int) ≤ 9223372036854775807; decide⟩
  unfold bookQ at hy
  simp only [List.mem_cons, List.not_mem_nil, or_false] at hy
  rcases hy with rfl | rfl | rfl
  · exact this _ _ _ (by decide)
  · exact this _ _ _ (by decide)
  · exact this _ _ _ (by decide)
theorem pK_in : pK.In := ⟨mkQ_in _ _, by decide, by decide⟩
theorem fill_src3 : Instr.fill (fun k => some (k * ti9.size, ti9.size)) (madeCells ti9.zero (3 * ti9.size)) [(0, .string (S [97])), (1, .string (S [98])), (2, .string (S [99]))] = some (cat strA pK.srcs) := by kernel_rfl
theorem fill_pol (a : Option Addr) (m c : Nat) (r : RQ) (n : Int) (l : List (List UInt8)) {pl : List (Nat × Nat)} (hpl : pl = [(0, 1), (1, 66), (67, 1)]) : Instr.fill (fun k => pl[k]?) ti31.zero [(0, .slice a m c), (1, .agg r.A), (2, .int .i64 n)] = some (PL.A ⟨l, r, n⟩ (.slice a m c)) := by
  subst hpl
  have := fill_all (pl := fun k => [(0, 1), (1, 66), (67, 1)][k]?) (vs := [.slice a m c, .agg r.A, .int .i64 n]) (Z := ti31.zero) ⟨by simp [Value.cells], by simp [Value.cells, r.A_size], by simp [Value.cells, r.A_size], trivial⟩ (by simp [catV, Value.cells, r.A_size]; rfl)
  rw [show catV [.slice a m c, .agg r.A, .int .i64 n] = PL.A ⟨l, r, n⟩ (.slice a m c) by simp [catV, Value.cells, PL.A]] at this
  exact this
theorem texts_own {E : Env} (hE : E.P = Tryz.prog) {x y : Value} {xs : List (List UInt8)} {n m : Nat} (hn : n = xs.length) (hm : m = xs.length) (hb : n ≤ 1000000000000) : OwnC E 50 [SV.c x, SV.c y] [(9000, Blk.own x 9 1 n (cat strA xs)), (9001, Blk.own y 9 1 m (cat strA xs))] (fun r U => r = .bool true ∧ U = [(9000, Blk.own x 9 1 n (cat strA xs)), (9001, Blk.own y 9 1 m (cat strA xs))]) := by
  subst hn hm
  have hc := Go.SX.cat_all strA_one xs
  have h2 : ∀ E0 : Env, E0.P = E.P → (∀ w, OldW E0 w → OldW E w) → Lst E0 x 1 xs.length (cat strA xs) → OwnC E0 50 [SV.c x, SV.c y] [(9001, Blk.own y 9 1 xs.length (cat strA xs))] (fun r U => r = .bool true ∧ U = [(9001, Blk.own y 9 1 xs.length (cat strA xs))]) := fun E0 h0 ho hl => by
    refine (OwnC.with_own2 (k := 9001) (v := y) (e := 9) (sz := 1) (n := xs.length) (A := cat strA xs) (pre := []) (Q := fun r U => r = .bool true ∧ U = []) rfl rfl hc (by rw [h0, hE]; exact at50.enters) (fun E1 h1 ho1 hl1 => texts_s ((h1.trans h0).trans hE) (hl.of_old ho1) hl1 hb) (fun x U h => by rw [h.2]; rfl)).mono ?_
    rintro y U ⟨U0, ⟨h1, h2⟩, h3⟩
    exact ⟨h1, by rw [h3, h2]⟩
  refine (OwnC.with_own2 (k := 9000) (v := x) (e := 9) (sz := 1) (n := xs.length) (A := cat strA xs) rfl rfl hc (by rw [hE]; exact at50.enters) h2 (fun x U h => by rw [h.2]; rfl)).mono ?_
  rintro y U ⟨U0, ⟨h1, h2⟩, h3⟩
  exact ⟨h1, by rw [h3, h2]⟩
theorem s_self (l : List UInt8) : ((S l).toList == (S l).toList) = true := by simp
theorem fill_c : Instr.fill (fun k => some (k * ti9.size, ti9.size)) (madeCells ti9.zero (1 * ti9.size)) [(0, .string (S [99]))] = some (cat strA [[99]]) := by kernel_rfl
theorem fill_ac : Instr.fill (fun k => some (k * ti9.size, ti9.size)) (madeCells ti9.zero (2 * ti9.size)) [(0, .string (S [97])), (1, .string (S [99]))] = some (cat strA [[97], [99]]) := by kernel_rfl
set_option smartUnfolding false in
set_option maxRecDepth 100000 in
theorem known_o {E : Env} (hE : E.P = Tryz.prog) : OwnC E 14 [] [] (fun x U => x = .bool true ∧ U = []) := by
  refine sx_ownCP [(2, [1, 6, 0, 2, 3, 4, 5, 7, 8], [2, 0, 3, 4, 5, 6, 1, 7, 8]), (3, [1, 6, 0, 2, 3, 4, 5, 7, 8], [2, 0, 3, 4, 5, 6, 1, 7, 8]), (4, [1, 6, 0, 2, 3, 4, 5, 7, 8], [2, 0, 3, 4, 5, 6, 1, 7, 8])] [] tt_ok mixed at14 E hE [] [] _ rfl rfl fun w X β hT => ?_
  have O1 := made_of (n := 3) (d := 100) (by decide) (by decide) (by decide) (by decide)
  refine .inr ⟨by decide, by decide, by decide, _, fill_src3, rfl, trivial, fun g => .inl ⟨_, O1, pK.A (.slice (some ⟨g, 0, none⟩) 3 3), fill_pol (some ⟨g, 0, none⟩) 3 3 (mkQ 3 100).1 2 pK.srcs rfl, ?_⟩⟩
  have S1 := fun (E0 : Env) (h0 : E0.P = Tryz.prog) (x : Value) (a b c : Int) (day : Int) => select_own (E := E0) h0 (x := x) (y := .slice (some ⟨g, 0, none⟩) 3 3) (xs := bookQ a b c) (p := pK) (nx := 3) (ny := 3) rfl rfl (by decide) (by decide) (bookQ_in a b c) pK_in 9 acme day
  have PF := pK.fits (v := .slice (some ⟨g, 0, none⟩) 3 3) rfl
  generalize pK.A (.slice (some ⟨g, 0, none⟩) 3 3) = PA at *
  have B1 := book_m (E := (envC Tryz.prog tt Tryz.f14.ntmps w X (tiedK [] β)).toEnv) rfl (a := 100) (b := 101) (c := 120) (by decide) (by decide) (by decide)
  have B2 := book_m (E := (envC Tryz.prog tt Tryz.f14.ntmps w X (tiedK [] β)).toEnv) rfl (a := 90) (b := 101) (c := 120) (by decide) (by decide) (by decide)
  refine ⟨PF, by kernel_rfl, ?_⟩
  refine .inr (.inr (.inr ⟨[], [9200], [_, _, _], [], _, B1, rfl, trivial, rfl, (by change _ = true; kernel_rfl), ?_⟩))
  rintro x1 U ⟨hx1, rfl⟩
  refine ⟨rfl, ?_⟩
  obtain ⟨xa1, xc1, rfl⟩ := hx1.len
  refine .inr (.inr (.inr ⟨[(9101, 8)], [9000], [_, _, _, _, _], [_, _], _, S1 _ rfl (.slice xa1 3 xc1) 100 101 120 10, rfl, ⟨.inl rfl, .inl rfl, trivial⟩, rfl, (by change _ = true; kernel_rfl), ?_⟩))
  rintro r1 U1 ⟨U0, ⟨s1, n1, hn1, rfl, hs1, rfl⟩, rfl⟩
  refine ⟨rfl, ?_⟩
  obtain ⟨e1, e2, e3⟩ := kn1
  rw [e3] at hn1 ⊢
  rw [e1]
  obtain ⟨sa1, sc1, rfl⟩ := hs1.len
  have CF1 := (selCh (cands (bookQ 100 101 120) 9 pK acme 10) pK.tol).fits (a := sa1) (n := n1) (c := sc1)
  have C10 := (selCh (cands (bookQ 100 101 120) 9 pK acme 10) pK.tol).g0 (.slice sa1 n1 sc1)
  have C14 := (selCh (cands (bookQ 100 101 120) 9 pK acme 10) pK.tol).g4 (.slice sa1 n1 sc1)
  rw [e2] at C10
  generalize (selCh (cands (bookQ 100 101 120) 9 pK acme 10) pK.tol).A (.slice sa1 n1 sc1) = CA1 at *
  clear e1 e2 e3 B1
  refine ⟨CF1, by kernel_rfl, by kernel_rfl, ?_⟩
  refine .inr (.inr (.inr ⟨[(9200, 9210)], [9210], [_, _, _], [], _, B2, rfl, trivial, rfl, (by change _ = true; kernel_rfl), ?_⟩))
  rintro x2 U ⟨hx2, rfl⟩
  refine ⟨rfl, ?_⟩
  obtain ⟨xa2, xc2, rfl⟩ := hx2.len
  refine .inr (.inr (.inr ⟨[(9200, 9210), (9101, 8), (9000, 9010)], [9010], [_, _, _, _, _], [_, _], _, S1 _ rfl (.slice xa2 3 xc2) 90 101 120 9, rfl, ⟨.inl rfl, .inl rfl, trivial⟩, rfl, (by change _ = true; kernel_rfl), ?_⟩))
  rintro r2 U2 ⟨U0, ⟨s2, n2, hn2, rfl, hs2, rfl⟩, rfl⟩
  refine ⟨rfl, ?_⟩
  obtain ⟨e1, e2, e3⟩ := kn2
  rw [e3] at hn2 ⊢
  rw [e1]
  obtain ⟨sa2, sc2, rfl⟩ := hs2.len
  have CF2 := (selCh (cands (bookQ 90 101 120) 9 pK acme 9) pK.tol).fits (a := sa2) (n := n2) (c := sc2)
  have C20 := (selCh (cands (bookQ 90 101 120) 9 pK acme 9) pK.tol).g0 (.slice sa2 n2 sc2)
  have C24 := (selCh (cands (bookQ 90 101 120) 9 pK acme 9) pK.tol).g4 (.slice sa2 n2 sc2)
  rw [e2] at C20
  generalize (selCh (cands (bookQ 90 101 120) 9 pK acme 9) pK.tol).A (.slice sa2 n2 sc2) = CA2 at *
  clear e1 e2 e3
  refine ⟨CF2, by kernel_rfl, by kernel_rfl, ?_⟩
  refine .inr (.inr (.inr ⟨[(9200, 9220)], [9220], [_, _, _], [], _, B2, rfl, trivial, rfl, (by change _ = true; kernel_rfl), ?_⟩))
  rintro x3 U ⟨hx3, rfl⟩
  refine ⟨rfl, ?_⟩
  obtain ⟨xa3, xc3, rfl⟩ := hx3.len
  refine .inr (.inr (.inr ⟨[(9200, 9220), (9101, 8), (9000, 9020)], [9020], [_, _, _, _, _], [_, _], _, S1 _ rfl (.slice xa3 3 xc3) 90 101 120 12, rfl, ⟨.inl rfl, .inl rfl, trivial⟩, rfl, (by change _ = true; kernel_rfl), ?_⟩))
  rintro r3 U3 ⟨U0, ⟨s3, n3, hn3, rfl, hs3, rfl⟩, rfl⟩
  refine ⟨rfl, ?_⟩
  rw [kn3]
  obtain ⟨sa3, sc3, rfl⟩ := hs3.len
  have CF3 := (selCh (cands (bookQ 90 101 120) 9 pK acme 12) pK.tol).fits (a := sa3) (n := n3) (c := sc3)
  generalize (selCh (cands (bookQ 90 101 120) 9 pK acme 12) pK.tol).A (.slice sa3 n3 sc3) = CA3 at *
  refine ⟨CF3, by kernel_rfl, ?_⟩
  have T1 := fun (E0 : Env) (h0 : E0.P = Tryz.prog) (y : Value) => texts_own (E := E0) h0 (x := .slice sa1 n1 sc1) (y := y) (xs := [[99]]) (n := n1) (m := 1) hn1 rfl (by rw [hn1]; decide)
  have T2 := fun (E0 : Env) (h0 : E0.P = Tryz.prog) (y : Value) => texts_own (E := E0) h0 (x := .slice sa2 n2 sc2) (y := y) (xs := [[97], [99]]) (n := n2) (m := 2) hn2 rfl (by rw [hn2]; decide)
  refine ⟨fun _ => ?_, fun h => absurd h (by decide)⟩
  refine ⟨_, C10, fun _ => ?_, fun h => absurd ((s_self [97]).symm.trans h) (by decide)⟩
  refine ⟨_, C14, .inr ⟨by decide, by decide, by decide, _, fill_c, rfl, trivial, fun g1 => ?_⟩⟩
  refine .inr (.inr (.inl ⟨[(9001, 39)], [_, _], [_, _], _, [_, _], T1 _ rfl (.slice (some ⟨g1, 0, none⟩) 1 1), rfl, ⟨.inl rfl, .inl rfl, trivial⟩, rfl, rfl, fun _ => ?_, fun h => absurd h (by decide)⟩))
  refine ⟨fun _ => ?_, fun h => absurd h (by decide)⟩
  refine ⟨_, C20, fun _ => ?_, fun h => absurd ((s_self [98]).symm.trans h) (by decide)⟩
  refine ⟨_, C24, .inr ⟨by decide, by decide, by decide, _, fill_ac, rfl, trivial, fun g2 => ?_⟩⟩
  refine .inr (.inr (.inl ⟨[(9000, 9010), (9001, 54)], [_, _], [_, _], _, [_, _], T2 _ rfl (.slice (some ⟨g2, 0, none⟩) 2 2), rfl, ⟨.inl rfl, .inl rfl, trivial⟩, rfl, rfl, fun _ => ?_, fun h => absurd h (by decide)⟩))
  exact ⟨[], [], ⟨rfl, rfl⟩, trivial, rfl⟩
theorem known_f : Pure Tryz.prog 14 [] (.bool true) := pure_of (vs := []) at14.enters fun _w => known_o rfl
end Go.Proofs.YtinojijgeabfnaaGreatDoor
namespace Go.Proofs.YtinojijgeabfnaaGreatDoor
open Go Go.RowKit Go.SX
theorem same_own {E : Env} (hE : E.P = Tryz.prog) {x y : Value} {h : CH} (hh : h.price.In) {xs : List (List UInt8)} {n m : Nat} (hn : n = xs.length) (hm : m = xs.length) (hb : n ≤ 1000000000000) : OwnC E 17 [SV.c (.agg (h.A x)), SV.c (.agg (h.A y))] [(9000, Blk.own x 9 1 n (cat strA xs)), (9001, Blk.own y 9 1 m (cat strA xs))] (fun r U => r = .bool true ∧ U = [(9000, Blk.own x 9 1 n (cat strA xs)), (9001, Blk.own y 9 1 m (cat strA xs))]) := by
  subst hn hm
  have hc := Go.SX.cat_all strA_one xs
  have h2 : ∀ E0 : Env, E0.P = E.P → (∀ w, OldW E0 w → OldW E w) → Lst E0 x 1 xs.length (cat strA xs) → OwnC E0 17 [SV.c (.agg (h.A x)), SV.c (.agg (h.A y))] [(9001, Blk.own y 9 1 xs.length (cat strA xs))] (fun r U => r = .bool true ∧ U = [(9001, Blk.own y 9 1 xs.length (cat strA xs))]) := fun E0 h0 ho hl => by
    refine (OwnC.with_own2 (k := 9001) (v := y) (e := 9) (sz := 1) (n := xs.length) (A := cat strA xs) (pre := []) (Q := fun r U => r = .bool true ∧ U = []) rfl rfl hc (by rw [h0, hE]; exact at17.enters) (fun E1 h1 ho1 hl1 => same_c ((h1.trans h0).trans hE) hh (hl.of_old ho1) hl1 hb) (fun x U h => by rw [h.2]; rfl)).mono ?_
    rintro y U ⟨U0, ⟨h1, h2⟩, h3⟩
    exact ⟨h1, by rw [h3, h2]⟩
  refine (OwnC.with_own2 (k := 9000) (v := x) (e := 9) (sz := 1) (n := xs.length) (A := cat strA xs) rfl rfl hc (by rw [hE]; exact at17.enters) h2 (fun x U h => by rw [h.2]; rfl)).mono ?_
  rintro y U ⟨U0, ⟨h1, h2⟩, h3⟩
  exact ⟨h1, by rw [h3, h2]⟩
theorem selCh_in {L : List QC} {tol : RQ} (h : ∀ z ∈ L, z.In) : (selCh L tol).price.In := by
  unfold selCh
  cases e : L.find? (isGood (curH L) (yardQ L) tol) with
  | none => exact zeroQ_in
  | some q => exact (h q (List.mem_of_find?_eq_some e)).price
theorem selBad_len (L : List QC) (tol : RQ) : (selBad L tol).length ≤ L.length := by
  unfold selBad
  rw [List.length_map]
  exact List.length_filter_le _ _
end Go.Proofs.YtinojijgeabfnaaGreatDoor
