/- the choice of the document. sameness of choices. a made book of the chapter's example. the chapter's example. SelectorExact, walk. plain laws of rates of exchange. a currency, as a text of runes. rates of exchange: prices and legs. rates of exchange: checks, ways; no condition. -/
import Derived.Test.YtjkgmglmgndaoaaGreatDoorP35
import Derived.Test.YtjkgmglmgndaoaaGreatDoorP25
import Derived.Test.YtjkgmglmgndaoaaGreatDoorP20
import Derived.Test.YtjkgmglmgndaoaaGreatDoorP10
import Derived.Test.YtjkgmglmgndaoaaGreatDoorP8
import Derived.Test.YtjkgmglmgndaoaaGreatDoorP34
namespace Go.Proofs.YtjkgmglmgndaoaaGreatDoor
open Go Go.RowKit Go.SX
theorem yard_own {E : Env} (hE : E.P = Tryz.prog) {x : Value} {L : List QC} {n : Nat} (hn : n = L.length) (h0 : 0 < n) (hM : n < 20) (hok : ∀ z ∈ L, z.In ∧ payOk z.price = true) : OwnC E 120 [SV.c x] [(4000, Blk.own x 51 72 n (cat QC.A L))] (fun r U => r = .agg (yardQ L).A ∧ U = [(4000, Blk.own x 51 72 n (cat QC.A L))]) := by
  subst hn
  have h1 : (cat QC.A L).all (·.oneCell') = true := Go.SX.cat_all (fun a => a.one) L
  refine (OwnC.with_own (k := 4000) (v := x) (e := 51) (sz := 72) (n := L.length) (A := cat QC.A L) (pre := []) rfl rfl h1 (by rw [hE]; exact at120.enters) (fun E0 h hl => yard_r (h.trans hE) hl h0 hM hok) (fun x U h => by rw [h.2]; rfl)).mono ?_
  rintro y U ⟨U0, ⟨h1, rfl⟩, rfl⟩
  exact ⟨h1, rfl⟩
set_option smartUnfolding false in
set_option maxRecDepth 100000 in
theorem select_qr {E : Env} (hE : E.P = Tryz.prog) {v : Value} {k : Int} {xs : List QC} (hv : Lst E v 72 xs.length (cat QC.A xs)) (hn : xs.length ≤ 1000000000000) (hin : ∀ y ∈ xs, y.In) {vp : Value} {p : PL} (hp : Lst E vp 1 p.srcs.length (cat strA p.srcs)) (hpn : p.srcs.length ≤ 1000000000000000) (hpin : p.In) (ins : List UInt8) (day : Int) : OwnC E 77 [SV.c v, SV.c (.agg (p.A vp)), SV.c (.int .i64 k), SV.c (.string (S ins)), SV.c (.int .i64 day)] [] (SelQ xs k p ins day) := by
  refine sx_ownC [] tt_ok mixed at77 E hE [SV.c v, SV.c (.agg (p.A vp)), SV.c (.int .i64 k), SV.c (.string (S ins)), SV.c (.int .i64 day)] [] _ rfl rfl fun w X β hT => ?_
  have hv' := hv.of_old hT
  have hp' := hp.of_old hT
  have C1 := cand_qr (k := k) rfl hv' hn hin hp' hpn hpin ins day
  obtain ⟨a, cap, rfl, hc, h4⟩ := id hp'.shape
  have F1 := p.size (.slice a p.srcs.length cap)
  have G1 := p.g1 (.slice a p.srcs.length cap)
  generalize p.A (.slice a p.srcs.length cap) = PA at *
  refine ⟨F1, ?_⟩
  refine .inr (.inr (.inr ⟨[], [4000], [_, _, _, _, _], [], _, C1, rfl, trivial, rfl, trivial, ?_⟩))
  rintro r U ⟨s, n, hsn, rfl, hs, rfl⟩
  obtain ⟨sa, sc, rfl⟩ := hs.len
  have hlen := cands_len (xs := xs) (k := k) (p := p) (ins := ins) (day := day)
  have hmem := fun z hz => cands_mem (k := k) (p := p) (ins := ins) (day := day) (z := z) hin hz
  refine ⟨rfl, fun c1 => ?_, fun c1 => ?_⟩
  · have c1 : (candC xs k p day != 0) = true := c1
    have c1 : candC xs k p day ≠ 0 := by simpa using c1
    exact ⟨chZero.A (.slice none 0 0), (by kernel_rfl), CH.fits _, [(9000, Blk.own (.slice none 0 0) 9 1 0 #[])], [], sel_none (cands_err c1) (by unfold selE; rw [if_pos c1]), ⟨.inr ⟨rfl, rfl, rfl⟩, trivial⟩, rfl⟩
  have c1 : (candC xs k p day != 0) = false := c1
  have c1 : candC xs k p day = 0 := by simpa using c1
  refine ⟨_, fun w' _ => run_len_sl Tryz.underlying22 w', fun c2 => ?_, fun c2 => ?_⟩
  · have c2 : ((n : Int) == 0) = true := c2
    have c2 : n = 0 := by have := of_decide_eq_true c2; omega
    have e1 : cands xs k p ins day = [] := List.eq_nil_of_length_eq_zero (by omega)
    exact ⟨chZero.A (.slice none 0 0), (by kernel_rfl), CH.fits _, [(9000, Blk.own (.slice none 0 0) 9 1 0 #[])], [], sel_none e1 (by unfold selE; rw [if_neg (by rw [c1]; decide), if_pos e1]), ⟨.inr ⟨rfl, rfl, rfl⟩, trivial⟩, rfl⟩
  have c2 : ((n : Int) == 0) = false := c2
  have c2 : n ≠ 0 := fun h => by rw [h] at c2; cases c2
  have eE : selE xs k p ins day = 0 := by
    unfold selE
    rw [if_neg (by rw [c1]; decide), if_neg]
    intro h; rw [h] at hsn; exact c2 hsn
  unfold SelQ
  rw [eE, c1]
  clear eE C1
  generalize cands xs k p ins day = L at *
  have Y1 := yard_own (E := (envC Tryz.prog tt Tryz.f77.ntmps w X (tiedK [] β)).toEnv) rfl (x := .slice sa n sc) (L := L) hsn (by omega) (by omega) (fun z hz => ⟨(hmem z hz).1, (hmem z hz).2.1⟩)
  have hrs : ∀ q ∈ L, Pure Tryz.prog 121 [SV.c (.agg q.price.A), SV.c (.agg (yardQ L).A), SV.c (.agg p.tol.A)] (.bool (nearQ q.price (yardQ L) p.tol)) := fun q hq => by
    obtain ⟨t1, t2⟩ := polOk_tol (hmem q hq).2.2.2
    exact (near_both hpin.tol t1 t2 (fun z hz => ⟨(hmem z hz).1, (hmem z hz).2.1⟩) hq).2.1
  have YF := (yardQ L).A_fits
  have hsb : ∀ i, (sbad L p.tol i).length ≤ i := sbad_len L p.tol
  have eb : selBad L p.tol = sbad L p.tol L.length := by unfold sbad selBad; rw [List.take_length]
  have ef : selCh L p.tol = chOf (sfound L p.tol L.length) := by unfold sfound selCh; rw [List.take_length]
  rw [eb, ef]
  generalize hYA : (yardQ L).A = YA at *
  refine .inr (.inr (.inl ⟨[], [_], [_], _, [_], Y1, rfl, ⟨.inl rfl, trivial⟩, rfl, rfl, YF, ?_⟩))
  clear Y1
  refine ⟨fun q f m => ∃ (i : Nat) (y : Value) (N : Nat), q = L.length - i ∧ i ≤ L.length ∧ N = (sbad L p.tol i).length ∧ IsL y N ∧ f = [(6, SV.ptr 6 0), (10, SV.ptr 10 0), (12, SV.c (.slice sa n sc)), (14, SV.ptr 14 0), (15, SV.ptr 15 0), (16, SV.c (.bool (sfound L p.tol i).isSome)), (17, SV.c (.int .i64 (i : Nat)))] ∧ m = [(9000, Blk.own y 9 1 N (cat strA (sbad L p.tol i))), (15, Blk.row 57 70 ((chOf (sfound L p.tol i)).A y)), (14, Blk.row 29 66 YA), (10, Blk.row 57 70 (chZero.A (.slice none 0 0))), (6, Blk.row 31 68 PA), (4000, Blk.own (.slice sa n sc) 51 72 n (cat QC.A L))], L.length, ⟨_, _, ⟨0, .slice none 0 0, 0, by omega, by omega, rfl, .nil, rfl, rfl⟩, ⟨rfl, rfl, rfl, rfl, rfl, rfl, rfl, trivial⟩, ⟨.inr ⟨rfl, rfl, rfl⟩, congrArg (fun A => some (Blk.row 57 70 A)) chZero_A.symm, rfl, congrArg (fun A => some (Blk.row 57 70 A)) chZero_A.symm, rfl, .inl rfl, trivial⟩, rfl⟩, ?_⟩
  rintro q f m ⟨i, y, N, rfl, hi, hN, hy, rfl, rfl⟩
  refine ⟨_, fun w' _ => run_len_sl Tryz.underlying22 w', fun h => ?_, fun h => ?_⟩
  · have h : i < n := by have := of_decide_eq_true h; omega
    obtain ⟨z, hz⟩ : ∃ z, L[i]? = some z := ⟨_, List.getElem?_eq_getElem (by omega)⟩
    have hzL := List.mem_of_getElem? hz
    have hNl : N ≤ i := by rw [hN]; exact hsb i
    obtain ⟨y0, hy0⟩ : ∃ z, L[0]? = some z := ⟨_, List.getElem?_eq_getElem (by omega)⟩
    have ec : curH L = y0.cur := by
      unfold curH
      cases L with
      | nil => cases hy0
      | cons z0 r => simp at hy0; subst hy0; rfl
    rcases hs with ⟨hs1, hs2⟩ | ⟨g0, c0, hs1⟩
    · omega
    cases hs1
    have L2 := cat_extract QC.size hz
    have j2 : i * 72 + 72 ≤ (cat QC.A L).size := by rw [Go.SX.cat_size QC.size]; omega
    have L0 : (cat QC.A L)[0 + 2]? = some (.string (S y0.cur)) := by
      have := cat_get QC.size L 0 y0 2 hy0 (by omega)
      rw [y0.g2] at this
      simpa using this
    have K9 := hrs z hzL
    have Z0 := z.g0
    have Z2 := z.g2
    have Z3 := z.g3
    have ZP := z.gpri
    have ZF := z.fits
    have C0 := CH.g0 (chOf (sfound L p.tol i)) y
    have C4 := CH.g4 (chOf (sfound L p.tol i)) y
    have S4 := fun u => CH.set4 (chOf (sfound L p.tol i)) y u
    obtain ⟨A1, A2, A3, T1, T2, T3, T4⟩ := CH.fill4 (chOf (sfound L p.tol i)) y z
    have PF := z.price.A_fits
    generalize hC : (chOf (sfound L p.tol i)).A y = CA at *
    generalize hD : (chOf (some z)).A y = DA at *
    generalize hX : cat QC.A L = XA at *
    generalize hY : z.A = ZA at *
    refine ⟨by omega, by omega, .inr ⟨4000, g0, _, n, _, _, _, _, rfl, rfl, (by rw [off72]; exact j2), ZA, (by rw [off72]; exact L2), ZF, ?_⟩⟩
    refine ⟨_, Z2, by decide, by omega, .inr ⟨4000, g0, _, n, _, _, _, _, rfl, rfl, _, L0, ?_⟩⟩
    refine ⟨fun k1 => ?_, fun k1 => ?_⟩
    · have k1 : (!((S z.cur).toList == (S y0.cur).toList)) = false := k1
      rw [S_beq] at k1
      have k1 : decide (z.cur = curH L) = true := by rw [ec]; simpa using k1
      refine ⟨by decide, _, ZP, by decide, _, G1, .inl ⟨_, K9, by kernel_rfl, fun k2 => ?_, fun k2 => ?_⟩⟩
      · have k2 := bnot_t k2
        have hg : isGood (curH L) (yardQ L) p.tol z = false := by unfold isGood; rw [k1, k2]; rfl
        refine ⟨_, C4, _, Z0, .inl ⟨by decide, by decide, _, fill_str1 z.src, rfl, by decide, 9000, N, _, .inl rfl, by decide, strA_one z.src, rfl, _, strA_ext z.src, ?_⟩⟩
        obtain ⟨q, hq, hb⟩ := info_str
        refine ⟨by omega, by unfold maxLen; omega, ⟨q, hq, by rw [hb]; omega⟩, trivial, fun g2 cap2 => ?_⟩
        refine ⟨by decide, rfl, _, S4 _, ?_⟩
        exact ⟨L.length - (i + 1), _, _, by omega, ⟨i + 1, _, N + 1, rfl, by omega, by rw [sbad_bad hz hg, List.length_append, ← hN]; rfl, .some, rfl, rfl⟩, ⟨rfl, rfl, rfl, rfl, rfl, (by rw [sfound_bad hz hg]; rfl), c_int (i64_succ (by omega)), trivial⟩, ⟨.inl (own_eq (by rw [sbad_bad hz hg, cat_append, cat_one])), congrArg (fun B => some (Blk.row 57 70 ((chOf B).A _))) (sfound_bad hz hg).symm, rfl, rfl, rfl, .inl rfl, trivial⟩, rfl⟩
      · have k2 := bnot_f k2
        have hg : isGood (curH L) (yardQ L) p.tol z = true := by unfold isGood; rw [k1, k2]; rfl
        have eb := sbad_good hz hg
        have ef := sfound_good hz hg
        refine ⟨fun k3 => ?_, fun k3 => ?_⟩
        · have k3 := bnot_t k3
          have e0 : sfound L p.tol i = none := by
            cases e : sfound L p.tol i with
            | none => rfl
            | some q => rw [e] at k3; cases k3
          rw [e0] at ef
          refine ⟨_, Z0, _, Z2, _, Z3, by decide, _, ZP, by decide, rfl, A1, T1, by decide, rfl, A2, T2, by decide, rfl, A3, T3, by decide, PF, DA, T4, ?_⟩
          exact ⟨by kernel_rfl, L.length - (i + 1), _, _, by omega, ⟨i + 1, y, N, rfl, by omega, by rw [eb]; exact hN, hy, rfl, rfl⟩, ⟨rfl, rfl, rfl, rfl, rfl, (by rw [ef]; rfl), c_int (i64_succ (by omega)), trivial⟩, ⟨.inl (own_eq (by rw [eb])), (by rw [ef, ← hD]; rfl), rfl, rfl, rfl, .inl rfl, trivial⟩, rfl⟩
        · have k3 := bnot_f k3
          have e0 : sfound L p.tol (i + 1) = sfound L p.tol i := by
            rw [ef]
            obtain ⟨q, e⟩ := Option.isSome_iff_exists.1 k3
            rw [e]; rfl
          exact ⟨L.length - (i + 1), _, _, by omega, ⟨i + 1, y, N, rfl, by omega, by rw [eb]; exact hN, hy, rfl, rfl⟩, ⟨rfl, rfl, rfl, rfl, rfl, (by rw [e0]; rfl), c_int (i64_succ (by omega)), trivial⟩, ⟨.inl (own_eq (by rw [eb])), (by rw [e0, hC]; rfl), rfl, rfl, rfl, .inl rfl, trivial⟩, rfl⟩
    · have k1 : (!((S z.cur).toList == (S y0.cur).toList)) = true := k1
      rw [S_beq] at k1
      have k1 : decide (z.cur = curH L) = false := by rw [ec]; simpa using k1
      have hg : isGood (curH L) (yardQ L) p.tol z = false := by unfold isGood; rw [k1]; rfl
      refine ⟨by kernel_rfl, fun _ => ?_, nofun⟩
      refine ⟨_, C4, _, Z0, .inl ⟨by decide, by decide, _, fill_str1 z.src, rfl, by decide, 9000, N, _, .inl rfl, by decide, strA_one z.src, rfl, _, strA_ext z.src, ?_⟩⟩
      obtain ⟨q, hq, hb⟩ := info_str
      refine ⟨by omega, by unfold maxLen; omega, ⟨q, hq, by rw [hb]; omega⟩, trivial, fun g2 cap2 => ?_⟩
      refine ⟨by decide, rfl, _, S4 _, ?_⟩
      exact ⟨L.length - (i + 1), _, _, by omega, ⟨i + 1, _, N + 1, rfl, by omega, by rw [sbad_bad hz hg, List.length_append, ← hN]; rfl, .some, rfl, rfl⟩, ⟨rfl, rfl, rfl, rfl, rfl, (by rw [sfound_bad hz hg]; rfl), c_int (i64_succ (by omega)), trivial⟩, ⟨.inl (own_eq (by rw [sbad_bad hz hg, cat_append, cat_one])), congrArg (fun B => some (Blk.row 57 70 ((chOf B).A _))) (sfound_bad hz hg).symm, rfl, rfl, rfl, .inl rfl, trivial⟩, rfl⟩
  · have h : i = n := by have := of_decide_eq_false h; omega
    obtain rfl : i = L.length := by omega
    have CF : Fits ((chOf (sfound L p.tol L.length)).A y) 70 := by obtain ⟨ya, yc, rfl⟩ := hy.len; exact CH.fits _
    generalize hC : (chOf (sfound L p.tol L.length)).A y = CA at *
    refine ⟨CF, [(9000, Blk.own y 9 1 N (cat strA (sbad L p.tol L.length)))], [], ⟨y, N, hN, by rw [hC]; rfl, hy, rfl⟩, ⟨.inl rfl, trivial⟩, rfl⟩
end Go.Proofs.YtjkgmglmgndaoaaGreatDoor
namespace Go.Proofs.YtjkgmglmgndaoaaGreatDoor
open Go Go.RowKit Go.SX
def QC.beq (a b : QC) : Bool := decide (a.src = b.src) && (decide (a.ins = b.ins) && (decide (a.cur = b.cur) && ((a.day == b.day) && (a.price.beq b.price && ((a.known == b.known) && ((a.void == b.void) && true))))))
theorem QC.beq_self (a : QC) : a.beq a = true := by simp [QC.beq, RQ.beq_self]
theorem CH.g1 (h : CH) (v : Value) : (h.A v)[1]? = some (.string (S h.cur)) := by kernel_rfl
theorem CH.g2 (h : CH) (v : Value) : (h.A v)[2]? = some (.int .i64 h.day) := by kernel_rfl
theorem CH.g3 (h : CH) (v : Value) : (h.A v).extract 3 (3 + 66) = h.price.A := by
  have h2 : h.price.A.size = 66 := RQ.A_size _
  rw [CH.A, Array.extract_append]
  have e : (#[.string (S h.src), .string (S h.cur), .int .i64 h.day] : Array Value).size = 3 := rfl
  rw [e, Array.extract_append, h2]
  have e2 : h.price.A.extract (3 - 3) (3 + 66 - 3) = h.price.A := by
    rw [show (3 + 66 - 3 : Nat) = h.price.A.size by omega, Nat.sub_self, Array.extract_size]
  rw [e2]
  apply Array.ext'
  simp
end Go.Proofs.YtjkgmglmgndaoaaGreatDoor
namespace Go.Proofs.YtjkgmglmgndaoaaGreatDoor
open Go Go.RowKit Go.SX
def src4 : List (List UInt8) := [[97], [98], [99], [100, 52]]
end Go.Proofs.YtjkgmglmgndaoaaGreatDoor
namespace Go.Proofs.YtjkgmglmgndaoaaGreatDoor
open Go Go.RowKit Go.SX
def acme : List UInt8 := [65, 67, 77, 69]
def SelO (x y : Value) (nx ny : Nat) (xs : List QC) (srcs : List (List UInt8)) (Q : Value → MemL → Prop) (r : Value) (U : MemL) : Prop := ∃ U0, Q r U0 ∧ U = (9200, Blk.own x 51 72 nx (cat QC.A xs)) :: (9101, Blk.own y 9 1 ny (cat strA srcs)) :: U0
/-- two lists of the call's own, handed to a callee that only reads them -/
theorem read2 {E : Env} {f : FuncId} {sv : List SV} {x y : Value} {xs : List QC} {srcs : List (List UInt8)} {nx ny : Nat} (hx : nx = xs.length) (hy : ny = srcs.length) (hent : Go.SX.Enters E.P f) {Q : Value → MemL → Prop} (hQ : ∀ r U, Q r U → getM U 9200 = none ∧ getM U 9101 = none)
    (h : ∀ E0 : Env, E0.P = E.P → (∀ w, OldW E0 w → OldW E w) → Lst E0 x 72 xs.length (cat QC.A xs) → Lst E0 y 1 srcs.length (cat strA srcs) → OwnC E0 f sv [] Q) : OwnC E f sv [(9200, Blk.own x 51 72 nx (cat QC.A xs)), (9101, Blk.own y 9 1 ny (cat strA srcs))] (SelO x y nx ny xs srcs Q) := by
  subst hx hy
  have h2 : ∀ E0 : Env, E0.P = E.P → (∀ w, OldW E0 w → OldW E w) → Lst E0 x 72 xs.length (cat QC.A xs) → OwnC E0 f sv [(9101, Blk.own y 9 1 srcs.length (cat strA srcs))] (fun r U => ∃ U0, Q r U0 ∧ U = (9101, Blk.own y 9 1 srcs.length (cat strA srcs)) :: U0) := fun E0 h0 ho hl =>
    OwnC.with_own2 (k := 9101) (v := y) (e := 9) (sz := 1) (n := srcs.length) (A := cat strA srcs) (pre := []) (Q := Q) rfl rfl (Go.SX.cat_all strA_one srcs) (by rw [h0]; exact hent) (fun E1 h1 ho1 hl1 => h E1 (h1.trans h0) (fun w hw => ho w (ho1 w hw)) (hl.of_old ho1) hl1) (fun r U hq => (hQ r U hq).2)
  refine (OwnC.with_own2 (k := 9200) (v := x) (e := 51) (sz := 72) (n := xs.length) (A := cat QC.A xs) rfl rfl (Go.SX.cat_all QC.all1 xs) hent h2 (fun r U ⟨U0, hq, hU⟩ => by rw [hU]; exact (hQ r U0 hq).1)).mono ?_
  rintro r U ⟨U1, ⟨U0, h1, rfl⟩, rfl⟩
  exact ⟨U0, h1, rfl⟩
end Go.Proofs.YtjkgmglmgndaoaaGreatDoor
namespace Go.Proofs.YtjkgmglmgndaoaaGreatDoor
open Go Go.RowKit Go.SX
end Go.Proofs.YtjkgmglmgndaoaaGreatDoor
namespace Go.Proofs.YtjkgmglmgndaoaaGreatDoor
open Go Go.RowKit Go.SX
theorem mk_coprime {x y : Int} (hy : 0 < y) (hg : Int.gcd x y = 1) (h1 : bl x.natAbs ≤ 480) (h2 : bl y.natAbs ≤ 480) : mkQ x y = (.of x y, 0) := by
  have hs : sgn y = 1 := by unfold sgn; rw [if_neg (by omega), if_neg (by omega)]
  have e : sgn y * ((Int.gcd x y : Nat) : Int) = 1 := by rw [hs, hg]; rfl
  unfold mkQ
  rw [if_neg (by omega), e, Int.ediv_one, Int.ediv_one, if_pos ⟨h1, h2⟩]
def quoQ (r s : RQ) : RQ × Int := if r.ok && s.ok then mkQ (r.p * s.q) (r.q * s.p) else (.of 0 0, 20)
def oneQ : RQ := .of 1 1
theorem one_ok : oneQ.ok = true := by decide
theorem one_in : oneQ.In := RQ.of_in (Nat.lt_of_lt_of_le (by decide : 1 < 18446744073709551616) two64) (Nat.lt_of_lt_of_le (by decide : 1 < 18446744073709551616) two64)
/-- a leg's rate -/
structure Leg (r : RQ) : Prop where
  ok : r.ok = true
  p0 : 0 < r.p
  p1 : r.p.natAbs ≤ 1000000000000000
  q1 : r.q.natAbs ≤ 1000000000000000
theorem Leg.in_ {r : RQ} (h : Leg r) : r.In := by
  obtain ⟨k1, k2, k3, k4, k5⟩ := RQ.ok_bits h.ok
  rw [k5]
  have hp : 2 ^ 480 < BB ^ 32 := hp480
  have key : ∀ z : Int, bl z.natAbs ≤ 480 → z.natAbs < BB ^ 32 := fun z h => Nat.lt_trans (Nat.lt_of_lt_of_le (bl_bits _).1 (Nat.pow_le_pow_right (by omega) h)) hp
  exact RQ.of_in (key _ k1) (key _ k2)
theorem leg_price {r : RQ} (h : payOk r = true) (h0 : 0 < r.p) : Leg r := by
  obtain ⟨h1, h2⟩ := pay_bd h
  exact ⟨(pay_ok h).1, h0, h2, by omega⟩
theorem inv_one {r : RQ} (h : Leg r) : quoQ oneQ r = (.of r.q r.p, 0) := by
  obtain ⟨k1, k2, k3, k4, k5⟩ := RQ.ok_bits h.ok
  unfold quoQ
  rw [one_ok, h.ok, show oneQ.p = 1 from rfl, show oneQ.q = 1 from rfl, Int.one_mul, Int.one_mul]
  exact mk_coprime h.p0 (by rw [Int.gcd_comm]; exact k4) k2 k1
theorem leg_inv {r : RQ} (h : Leg r) : Leg (quoQ oneQ r).1 := by
  obtain ⟨k1, k2, k3, k4, k5⟩ := RQ.ok_bits h.ok
  rw [inv_one h]
  refine ⟨RQ.ok_of k2 k1 h.p0 (by rw [Int.gcd_comm]; exact k4), ?_, ?_, ?_⟩
  · show 0 < (RQ.of r.q r.p).p; rw [RQ.of_p]; exact k3
  · show (RQ.of r.q r.p).p.natAbs ≤ _; rw [RQ.of_p]; exact h.q1
  · show (RQ.of r.q r.p).q.natAbs ≤ _; rw [RQ.of_q]; exact h.p1
theorem one_mulQ {r : RQ} (h : r.ok = true) : mulQ oneQ r = (r, 0) := by
  obtain ⟨k1, k2, k3, k4, k5⟩ := RQ.ok_bits h
  unfold mulQ
  rw [one_ok, h, show oneQ.p = 1 from rfl, show oneQ.q = 1 from rfl, Int.one_mul, Int.one_mul]
  refine (mk_coprime k3 k4 k1 k2).trans ?_
  rw [← k5]
set_option exponentiation.threshold 2000 in
theorem mul_leg {r s : RQ} (h : Leg r) (g : Leg s) : ∃ t, mulQ r s = (t, 0) ∧ t.ok = true ∧ t.In ∧ 0 < t.p ∧ t.p * (r.q * s.q) = r.p * s.p * t.q := by
  have hq := (RQ.ok_bits h.ok).2.2.1
  have gq := (RQ.ok_bits g.ok).2.2.1
  have b1 : (r.p * s.p).natAbs < 2 ^ 480 := by
    rw [Int.natAbs_mul]
    exact Nat.lt_of_le_of_lt (Nat.mul_le_mul h.p1 g.p1) (by decide)
  have b2 : (r.q * s.q).natAbs < 2 ^ 480 := by
    rw [Int.natAbs_mul]
    exact Nat.lt_of_le_of_lt (Nat.mul_le_mul h.q1 g.q1) (by decide)
  have hy : 0 < r.q * s.q := Int.mul_pos hq gq
  obtain ⟨t, e, h1, h2, -, -⟩ := mkQ_val hy b1 b2
  have em : mulQ r s = (t, 0) := by unfold mulQ; rw [h.ok, g.ok]; exact e
  refine ⟨t, em, h1, ?_, ?_, h2⟩
  · have := mkQ_in (r.p * s.p) (r.q * s.q); rw [e] at this; exact this
  · have tq := (RQ.ok_bits h1).2.2.1
    have : 0 < t.p * (r.q * s.q) := by rw [h2]; exact Int.mul_pos (Int.mul_pos h.p0 g.p0) tq
    exact Int.pos_of_mul_pos_left this hy
/-- the market's first error -/
def mktC (xs : List QC) (p : PL) (day : Int) (cs : List (List UInt8)) : Int := if chkQ xs ≠ 0 then chkQ xs else if polOk p then (if day < 0 ∨ day > 73048 then 50 else if cs.all curOk then 0 else 160) else 150
/-- the price that is quoted for a pair -/
def dirQ (xs : List QC) (k : Int) (p : PL) (day : Int) (a b : List UInt8) : RQ × Bool := ((selCh (cands xs k p (a ++ b) day) p.tol).price, decide (selE xs k p (a ++ b) day = 0) && decide ((selCh (cands xs k p (a ++ b) day) p.tol).cur = b))
def legO (xs : List QC) (k : Int) (p : PL) (day : Int) (a b : List UInt8) : Option RQ :=
  if (dirQ xs k p day a b).2 then some (dirQ xs k p day a b).1 else if (dirQ xs k p day b a).2 then some (quoQ oneQ (dirQ xs k p day b a).1).1 else none
/-- the leg from one currency to another one -/
def legQ (xs : List QC) (k : Int) (p : PL) (day : Int) (a b : List UInt8) : Option RQ := if a = b then none else legO xs k p day a b
def rateQ (xs : List QC) (k : Int) (p : PL) (day : Int) (v a b : List UInt8) : RQ × Int :=
  if mktC xs p day [v, a, b] ≠ 0 then (zeroQ, mktC xs p day [v, a, b]) else if a = b then (oneQ, 0) else
  match legO xs k p day a b with
  | some r => (r, 0)
  | none => if v = a ∨ v = b then (zeroQ, 161) else match legO xs k p day a v, legO xs k p day v b with
    | some x, some y => mulQ x y
    | _, _ => (zeroQ, 161)
theorem cands_pos {xs : List QC} {k : Int} {p : PL} {ins : List UInt8} {day : Int} {z : QC} (hz : z ∈ cands xs k p ins day) : payOk z.price = true ∧ 0 < z.price.p := by
  unfold cands at hz
  split at hz
  · obtain ⟨h1, -⟩ := candL_mem hz
    obtain ⟨h2, h3, h4⟩ := visQs_mem h1
    exact right_price h3 h4
  · cases hz
theorem cur_ne {l : List UInt8} (h : curOk l = true) : l ≠ [] := by
  rintro rfl; simp [curOk] at h
theorem cur_len {l : List UInt8} (h : curOk l = true) : l.length = 3 := by
  unfold curOk at h
  simp only [Bool.and_eq_true, decide_eq_true_eq] at h
  omega
theorem dir_leg {xs : List QC} {k : Int} {p : PL} {day : Int} {a b : List UInt8} (hb : b ≠ []) (h : (dirQ xs k p day a b).2 = true) : Leg (dirQ xs k p day a b).1 := by
  unfold dirQ at h ⊢
  simp only [Bool.and_eq_true, decide_eq_true_eq] at h
  have h2 := h.2
  show Leg (selCh (cands xs k p (a ++ b) day) p.tol).price
  unfold selCh at h2 ⊢
  cases e : (cands xs k p (a ++ b) day).find? (isGood (curH (cands xs k p (a ++ b) day)) (yardQ (cands xs k p (a ++ b) day)) p.tol) with
  | none => rw [e] at h2; exact absurd h2.symm hb
  | some q =>
    have := cands_pos (List.mem_of_find?_eq_some e)
    exact leg_price this.1 this.2
theorem legO_leg {xs : List QC} {k : Int} {p : PL} {day : Int} {a b : List UInt8} (ha : a ≠ []) (hb : b ≠ []) {r : RQ} (h : legO xs k p day a b = some r) : Leg r := by
  unfold legO at h
  split at h
  · rename_i h1; cases h; exact dir_leg hb h1
  · split at h
    · rename_i h1; cases h; exact leg_inv (dir_leg ha h1)
    · cases h
theorem mktC_ok {xs : List QC} {p : PL} {day : Int} {cs : List (List UInt8)} (h : mktC xs p day cs = 0) : chkQ xs = 0 ∧ polOk p = true ∧ 0 ≤ day ∧ day ≤ 73048 ∧ ∀ c ∈ cs, curOk c = true := by
  unfold mktC at h
  split at h
  · rename_i h1; exact absurd h h1
  rename_i h1
  split at h
  · rename_i h2
    split at h
    · cases h
    · rename_i h3
      split at h
      · rename_i h4
        rw [List.all_eq_true] at h4
        exact ⟨by simpa using h1, h2, by omega, by omega, h4⟩
      · cases h
  · cases h
end Go.Proofs.YtjkgmglmgndaoaaGreatDoor
namespace Go.Proofs.YtjkgmglmgndaoaaGreatDoor
open Go Go.RowKit Go.SX
def upB (b : UInt8) : Bool := decide (65 ≤ b.toNat) && decide (b.toNat ≤ 90)
theorem rune_up {l : List UInt8} {pos : Nat} (h : pos < l.length) : upB (l.getD pos 0) = (decide (65 ≤ (Utf8.decode (S l) pos).1) && decide ((Utf8.decode (S l) pos).1 ≤ 90)) ∧ (upB (l.getD pos 0) = true → (Utf8.decode (S l) pos).2 = 1) := by
  have hs : pos < (S l).size := by rw [S_size]; exact h
  have hg := S_get hs h
  rcases Nat.lt_or_ge (l.getD pos 0).toNat 128 with hb | hb
  · have := Go.decode_ascii (S l) pos hs (by rw [hg]; exact hb)
    rw [this, hg]
    exact ⟨rfl, fun _ => rfl⟩
  · have := (Go.decode_high (S l) pos hs (by rw [hg]; exact hb)).1
    have e1 : upB (l.getD pos 0) = false := by
      unfold upB
      rw [decide_eq_false (show ¬ (l.getD pos 0).toNat ≤ 90 by omega)]; simp
    refine ⟨?_, fun h => by rw [e1] at h; cases h⟩
    rw [e1, decide_eq_false (show ¬ (Utf8.decode (S l) pos).1 ≤ 90 by omega)]; simp
theorem capAt_up (l : List UInt8) (j : Nat) : capAt false l j = upB (l.getD j 0) := by
  unfold capAt upB; simp
theorem cur_bad {l : List UInt8} {j : Nat} (hj : j < l.length) (h : upB (l.getD j 0) = false) : curOk l = false := by
  unfold curOk
  rw [capAll_false hj (by rw [capAt_up]; exact h)]; rfl
theorem cur_all {l : List UInt8} (h : ∀ j, j < l.length → upB (l.getD j 0) = true) : curOk l = (((l.length : Nat) : Int) == 3) := by
  unfold curOk
  rw [capAll_true fun j hj => by rw [capAt_up]; exact h j hj, Bool.true_and, Bool.eq_iff_iff]
  simp only [Bool.and_eq_true, decide_eq_true_eq, beq_iff_eq]
  omega
set_option smartUnfolding false in
set_option maxRecDepth 100000 in
theorem code_e (l : List UInt8) : Pure Tryz.prog 70 [SV.c (.string (S l))] (.bool (curOk l)) := by
  refine pure_of (vs := [.string (S l)]) at70.enters fun w0 => ?_
  refine sx_ownC [] tt_ok mixed at70 _ rfl [SV.c (.string (S l))] [] _ rfl rfl fun w X β hT => ?_
  refine str_range rfl rfl Tryz.underlying9 300 rfl rfl trivial fun r => ?_
  refine ⟨fun q f m => ∃ pos : Nat, q = l.length - pos ∧ pos ≤ l.length ∧ (∀ j, j < pos → upB (l.getD j 0) = true) ∧ f = [(0, SV.c (.string (S l))), (6, SV.c (.pointer (some ⟨r, 0, none⟩)))] ∧ m = [(300, Blk.res r (fun o => o = .stringIter (S l) pos))], l.length, ⟨_, _, ⟨0, rfl, by omega, fun j h => by omega, rfl, rfl⟩, ⟨rfl, rfl, trivial⟩, ⟨rfl, trivial⟩, rfl⟩, ?_⟩
  rintro q f m ⟨pos, rfl, hp, hall, rfl, rfl⟩
  refine str_next rfl 300 rfl rfl trivial (fun h4 => ?_) (fun h4 => ?_)
  · rw [S_size] at h4
    refine ⟨fun h => absurd h (by decide), fun _ => ?_⟩
    refine ⟨_, fun w _ => run_len_S Tryz.underlying9 w, [], [], ⟨by rw [cur_all fun j hj => hall j (by omega)]; rfl, rfl⟩, trivial, rfl⟩
  · rw [S_size] at h4
    obtain ⟨hR, hW⟩ := rune_up (l := l) h4
    generalize (Utf8.decode (S l) pos).1 = R at *
    generalize (Utf8.decode (S l) pos).2 = W at *
    have bad : ¬ (65 ≤ R ∧ R ≤ 90) → ∃ U σ, (Value.bool false = .bool (curOk l) ∧ U = ([] : MemL)) ∧ weakM [(300, Blk.res r (fun o => o = .stringIter (S l) (pos + W)))] (renM σ U) ∧ retOk [] σ U = true := fun h => ⟨[], [], ⟨by rw [cur_bad h4 (by rw [hR]; simpa using h)], rfl⟩, trivial, rfl⟩
    refine ⟨fun _ => ⟨fun c1 => ⟨fun c2 => bad ?_, fun c2 => ?_⟩, fun c1 => ⟨fun _ => bad ?_, fun h => absurd h (by decide)⟩⟩, fun h => absurd h (by decide)⟩
    · have c2 := of_decide_eq_true (show decide (((R : Nat) : Int) > 90) = true from c2)
      omega
    · have c1 := of_decide_eq_false c1
      have c2 := of_decide_eq_false (show decide (((R : Nat) : Int) > 90) = false from c2)
      have hu : upB (l.getD pos 0) = true := by rw [hR]; simp; omega
      have := hW hu
      subst this
      exact ⟨l.length - (pos + 1), _, _, by omega, ⟨pos + 1, rfl, by omega, fun j hj => by
        rcases Nat.lt_or_ge j pos with h6 | h6
        · exact hall j h6
        · have : j = pos := by omega
          subst this; exact hu, rfl, rfl⟩, ⟨rfl, rfl, trivial⟩, ⟨rfl, trivial⟩, rfl⟩
    · have c1 := of_decide_eq_true (show decide (((R : Nat) : Int) < 65) = true from c1)
      omega
end Go.Proofs.YtjkgmglmgndaoaaGreatDoor
namespace Go.Proofs.YtjkgmglmgndaoaaGreatDoor
open Go Go.RowKit Go.SX
/-- where rates are looked up -/
def mktA (v vp : Value) (p : PL) (k day : Int) : Array Value := #[v] ++ (p.A vp ++ #[.int .i64 k, .int .i64 day])
theorem mktA_size (v vp : Value) (p : PL) (k day : Int) : (mktA v vp p k day).size = 71 := by simp [mktA, PL.size]
theorem mktA_fits {v vp : Value} (p : PL) (k day : Int) (h1 : v.oneCell' = true) (h2 : vp.oneCell' = true) : Fits (mktA v vp p k day) 71 := ⟨mktA_size _ _ _ _ _, by
  rw [mktA, Array.all_append, Array.all_append, (p.fits h2).one]
  simp [h1]
  exact ⟨rfl, rfl⟩⟩
theorem mktA_0 (v vp : Value) (p : PL) (k day : Int) : (mktA v vp p k day)[0]? = some v := by
  unfold mktA
  rw [Array.getElem?_append_left (by simp)]
  rfl
theorem mktA_1 (v vp : Value) (p : PL) (k day : Int) : (mktA v vp p k day).extract 1 (1 + 68) = p.A vp := by
  have h : (p.A vp).size = 68 := p.size vp
  unfold mktA
  rw [Array.extract_append, Array.extract_append]
  simp [h]
theorem mktA_69 (v vp : Value) (p : PL) (k day : Int) : (mktA v vp p k day)[69]? = some (.int .i64 k) := by
  have h : (p.A vp).size = 68 := p.size vp
  unfold mktA
  rw [Array.getElem?_append_right (by simp), Array.getElem?_append_right (by simp [h])]
  simp [h]
theorem mktA_70 (v vp : Value) (p : PL) (k day : Int) : (mktA v vp p k day)[70]? = some (.int .i64 day) := by
  have h : (p.A vp).size = 68 := p.size vp
  unfold mktA
  rw [Array.getElem?_append_right (by simp), Array.getElem?_append_right (by simp [h])]
  simp [h]
/-- what a market reads -/
structure MkR (E : Env) (v vp : Value) (xs : List QC) (p : PL) : Prop where
  l : Lst E v 72 xs.length (cat QC.A xs)
  n : xs.length ≤ 1000000000000
  inn : ∀ y ∈ xs, y.In
  s : Lst E vp 1 p.srcs.length (cat strA p.srcs)
  m : p.srcs.length ≤ 1000000000000000
  pin : p.In
theorem MkR.of_old {E E' : Env} {v vp : Value} {xs : List QC} {p : PL} (h : MkR E v vp xs p) (hT : ∀ w, OldW E' w → OldW E w) : MkR E' v vp xs p := ⟨h.l.of_old hT, h.n, h.inn, h.s.of_old hT, h.m, h.pin⟩
set_option smartUnfolding false in
set_option maxRecDepth 100000 in
theorem price_e {E : Env} (hE : E.P = Tryz.prog) {v vp : Value} {xs : List QC} {p : PL} (h : MkR E v vp xs p) (k day : Int) {a b : List UInt8} (hab : a.length + b.length ≤ 100) : OwnC E 71 [SV.c (.agg (mktA v vp p k day)), SV.c (.string (S a)), SV.c (.string (S b))] [] (fun x U => x = .tuple #[.agg (dirQ xs k p day a b).1.A, .bool (dirQ xs k p day a b).2] ∧ U = []) := by
  refine sx_ownC [] tt_ok mixed at71 E hE [SV.c (.agg (mktA v vp p k day)), SV.c (.string (S a)), SV.c (.string (S b))] [] _ rfl rfl fun w X β hT => ?_
  have hr := h.of_old hT
  have S1 := select_q (k := k) rfl hr.l hr.n hr.inn hr.s hr.m hr.pin (a ++ b) day
  rw [← S_add] at S1
  have M := mktA_size v vp p k day
  have M0 := mktA_0 v vp p k day
  have M1 := mktA_1 v vp p k day
  have M2 := mktA_69 v vp p k day
  have M3 := mktA_70 v vp p k day
  have hsz : (S a).size + (S b).size ≤ 9223372036854775807 := by rw [S_size, S_size]; omega
  generalize mktA v vp p k day = MA at *
  refine ⟨M, _, M0, by decide, _, M1, _, M2, hsz, _, M3, ?_⟩
  refine .inr (.inr (.inr ⟨[], [9000], [_, _, _, _, _], [], _, S1, rfl, trivial, rfl, trivial, ?_⟩))
  rintro r1 U1 ⟨s1, n1, hn1, rfl, hs1, rfl⟩
  obtain ⟨sa1, sc1, rfl⟩ := hs1.len
  refine ⟨rfl, CH.fits _, ?_⟩
  have hd : dirQ xs k p day a b = ((selCh (cands xs k p (a ++ b) day) p.tol).price, decide (selE xs k p (a ++ b) day = 0) && decide ((selCh (cands xs k p (a ++ b) day) p.tol).cur = b)) := rfl
  generalize selCh (cands xs k p (a ++ b) day) p.tol = C at *
  generalize selE xs k p (a ++ b) day = SE at *
  generalize dirQ xs k p day a b = D at *
  subst hd
  have C1 := CH.g1 C (.slice sa1 n1 sc1)
  have C3 := CH.g3 C (.slice sa1 n1 sc1)
  have PF := C.price.A_fits
  generalize C.A (.slice sa1 n1 sc1) = CA at *
  refine ⟨by decide, _, C3, fun c => ?_, fun c => ?_⟩
  · have c : (SE == 0) = true := c
    refine ⟨_, C1, PF, by kernel_rfl, ?_⟩
    refine ⟨[], [], ⟨?_, rfl⟩, trivial, rfl⟩
    show Value.tuple #[_, .bool ((S C.cur).toList == (S b).toList)] = _
    rw [S_beq, decide_eq_true (show SE = 0 by simpa using c), Bool.true_and]
  · have c : (SE == 0) = false := c
    refine ⟨PF, by kernel_rfl, ?_⟩
    refine ⟨[], [], ⟨?_, rfl⟩, trivial, rfl⟩
    rw [decide_eq_false (show ¬ SE = 0 by simpa using c), Bool.false_and]; rfl
def optQ (o : Option RQ) : Value := .tuple #[.agg (o.getD zeroQ).A, .bool o.isSome]
set_option smartUnfolding false in
set_option maxRecDepth 100000 in
theorem quo1_z {r s : RQ} (hr : r.In) (hs : s.In) (h1 : (r.p * s.q).natAbs < BB ^ 32) (h2 : (r.q * s.p).natAbs < BB ^ 32) : Pure Tryz.prog 113 [SV.c (.agg r.A), SV.c (.agg s.A)] (.tuple #[.agg (eA (r.p * s.q)), .agg (eA (r.q * s.p))]) := by
  refine sx_pure tt_ok mixed at113 _ _ rfl rfl fun w => ?_
  refine ⟨r.A_size, s.A_size, by decide, _, r.cat_l, by decide, _, s.cat_r, .inl ⟨_, product_z hr.num hs.den h1, by decide, _, r.cat_r, by decide, _, s.cat_l, .inl ⟨_, product_z hr.den hs.num h2, eA_fits _, eA_fits _, by kernel_rfl, rfl, trivial⟩⟩⟩
set_option smartUnfolding false in
set_option maxRecDepth 100000 in
theorem quoR_z {r s : RQ} (hr : r.In) (hs : s.In) : Pure Tryz.prog 72 [SV.c (.agg r.A), SV.c (.agg s.A)] (resQ (quoQ r s)) := by
  refine sx_pure tt_ok mixed at72 _ _ rfl rfl fun w => ?_
  have h := calc_z (g := 113) (x := r.p * s.q) (y := r.q * s.p) hr hs fun h1 h2 => by
    have k1 := RQ.ok_bits h1
    have k2 := RQ.ok_bits h2
    have m1 := mul_lt' k1.1 k2.2.1
    have m2 := mul_lt' k1.2.1 k2.1
    exact ⟨quo1_z hr hs m1 m2, m1, m2⟩
  exact ⟨r.A_size, s.A_size, .inl ⟨_, h, RQ.A_fits _, rfl, trivial⟩⟩
set_option smartUnfolding false in
set_option maxRecDepth 100000 in
theorem quoR_r {r s : RQ} (hr : r.In) (hs : s.In) : Pure Tryz.prog 78 [SV.c (.agg r.A), SV.c (.agg s.A)] (resQ (quoQ r s)) := by
  refine sx_pure tt_ok mixed at78 _ _ rfl rfl fun w => ?_
  refine ⟨r.A_size, s.A_size, .inl ⟨_, valid_r hr, fun h1 => .inl ⟨_, valid_r hs, fun h2 => ?_, fun h2 => ?_⟩, fun h1 => ?_⟩⟩
  · have h2 := bnt h2
    refine ⟨ti29.zero, rfl, (RQ.of 0 0).A_fits, ?_, trivial⟩
    rw [quoQ, h2, Bool.and_false, if_neg Bool.false_ne_true]; rfl
  · have h1 := of_bnf h1
    have h2 := bnf h2
    have k1 := RQ.ok_bits h1
    have k2 := RQ.ok_bits h2
    have m1 := mul_lt' k1.1 k2.2.1
    have m2 := mul_lt' k1.2.1 k2.1
    refine ⟨by decide, _, r.cat_l, by decide, _, s.cat_r, .inl ⟨_, product_r hr.num hs.den m1, by decide, _, r.cat_r, by decide, _, s.cat_l, .inl ⟨_, product_r hr.den hs.num m2, .inl ⟨_, make_r (isI_e m1) (isI_e m2), RQ.A_fits _, by kernel_rfl, ?_, trivial⟩⟩⟩⟩
    rw [quoQ, h1, h2, Bool.and_true, if_pos rfl]; rfl
  · have h1 := bnt h1
    refine ⟨fun _ => ⟨ti29.zero, rfl, (RQ.of 0 0).A_fits, ?_, trivial⟩, nofun⟩
    rw [quoQ, h1, Bool.false_and, if_neg Bool.false_ne_true]; rfl
theorem price_l {E : Env} (hE : E.P = Tryz.prog) {v vp : Value} {xs : List QC} {p : PL} (h : MkR E v vp xs p) (k day : Int) {a b : List UInt8} (hab : a.length + b.length ≤ 100) : OwnC E 71 [SV.c (.agg (mktA v vp p k day)), SV.c (.string (S a)), SV.c (.string (S b))] [] (fun x U => x = .tuple #[.agg (dirQ xs k p day a b).1.A, .bool (dirQ xs k p day a b).2] ∧ U = []) := price_e hE h k day hab
set_option smartUnfolding false in
set_option maxRecDepth 100000 in
theorem leg_e {E : Env} (hE : E.P = Tryz.prog) {v vp : Value} {xs : List QC} {p : PL} (h : MkR E v vp xs p) (hv : v.oneCell' = true) (hvp : vp.oneCell' = true) (k day : Int) {a b : List UInt8} (ha : curOk a = true) (hb : curOk b = true) : OwnC E 36 [SV.c (.agg (mktA v vp p k day)), SV.c (.string (S a)), SV.c (.string (S b))] [] (fun x U => x = optQ (legQ xs k p day a b) ∧ U = []) := by
  refine sx_ownC [] tt_ok mixed at36 E hE [SV.c (.agg (mktA v vp p k day)), SV.c (.string (S a)), SV.c (.string (S b))] [] _ rfl rfl fun w X β hT => ?_
  have hr := h.of_old hT
  have la := cur_len ha
  have lb := cur_len hb
  have P1 := price_l rfl hr k day (a := a) (b := b) (by omega)
  have P2 := price_l rfl hr k day (a := b) (b := a) (by omega)
  have M := mktA_size v vp p k day
  generalize mktA v vp p k day = MA at *
  have hL : legQ xs k p day a b = if a = b then none else if (dirQ xs k p day a b).2 then some (dirQ xs k p day a b).1 else if (dirQ xs k p day b a).2 then some (quoQ oneQ (dirQ xs k p day b a).1).1 else none := rfl
  have D1 := dir_leg (xs := xs) (k := k) (p := p) (day := day) (a := a) (b := b) (cur_ne hb)
  have D2 := dir_leg (xs := xs) (k := k) (p := p) (day := day) (a := b) (b := a) (cur_ne ha)
  generalize legQ xs k p day a b = LQ at *
  generalize dirQ xs k p day a b = DA at *
  generalize dirQ xs k p day b a = DB at *
  obtain ⟨da, ea⟩ := DA
  obtain ⟨db, eb⟩ := DB
  refine ⟨M, fun c => ?_, fun c => ?_⟩
  · have c := str_eq c
    refine ⟨_, rfl, (RQ.of 0 0).A_fits, [], [], ⟨?_, rfl⟩, trivial, rfl⟩
    rw [hL, if_pos c]; rfl
  · have c := str_ne c
    rw [if_neg c] at hL
    refine .inr (.inr (.inl ⟨[], [_, _, _], [], _, [], P1, rfl, trivial, rfl, rfl, da.A_fits, fun c1 => ?_, fun c1 => ?_⟩))
    · have c1 : ea = true := c1
      refine ⟨da.A_fits, [], [], ⟨?_, rfl⟩, trivial, rfl⟩
      rw [hL, c1]; rfl
    · have c1 : ea = false := c1
      rw [c1] at hL
      refine .inr (.inr (.inl ⟨[], [_, _, _], [], _, [], P2, rfl, trivial, rfl, rfl, db.A_fits, fun c2 => ?_, fun c2 => ?_⟩))
      · have c2 : (!eb) = true := c2
        have c2 : eb = false := by simpa using c2
        rw [c2] at hL
        have hL : LQ = none := by rw [hL]; simp
        refine ⟨_, rfl, (RQ.of 0 0).A_fits, [], [], ⟨?_, rfl⟩, trivial, rfl⟩
        rw [hL]; rfl
      · have c2 : (!eb) = false := c2
        have c2 : eb = true := by simpa using c2
        rw [c2] at hL
        have hL : LQ = some (quoQ oneQ db).1 := by rw [hL]; simp
        have hd : Leg db := D2 c2
        refine .inl ⟨_, whole1_z (n := 1) (by decide) (by decide), .inl ⟨_, quoR_z one_in hd.in_, RQ.A_fits _, by kernel_rfl, RQ.A_fits _, [], [], ⟨?_, rfl⟩, trivial, rfl⟩⟩
        rw [hL]; rfl
end Go.Proofs.YtjkgmglmgndaoaaGreatDoor
namespace Go.Proofs.YtjkgmglmgndaoaaGreatDoor
open Go Go.RowKit Go.SX
theorem mktC_1 {xs : List QC} {p : PL} {day : Int} {cs : List (List UInt8)} (h : chkQ xs ≠ 0) : mktC xs p day cs = chkQ xs := by unfold mktC; rw [if_pos h]
theorem mktC_2 {xs : List QC} {p : PL} {day : Int} {cs : List (List UInt8)} (h : chkQ xs = 0) (h2 : polOk p = false) : mktC xs p day cs = 150 := by
  unfold mktC; rw [if_neg (fun h3 => h3 h), h2]; rfl
theorem mktC_3 {xs : List QC} {p : PL} {day : Int} {cs : List (List UInt8)} (h : chkQ xs = 0) (h2 : polOk p = true) (h3 : day < 0 ∨ day > 73048) : mktC xs p day cs = 50 := by
  unfold mktC; rw [if_neg (fun h3 => h3 h), if_pos h2, if_pos h3]
theorem mktC_4 {xs : List QC} {p : PL} {day : Int} {cs : List (List UInt8)} (h : chkQ xs = 0) (h2 : polOk p = true) (h3 : ¬ (day < 0 ∨ day > 73048)) : mktC xs p day cs = if cs.all curOk then 0 else 160 := by
  unfold mktC; rw [if_neg (fun h3 => h3 h), if_pos h2, if_neg h3]
theorem all_at {p : List UInt8 → Bool} {cs : List (List UInt8)} (h : ∀ (j : Nat) c, cs[j]? = some c → p c = true) : cs.all p = true := by
  rw [List.all_eq_true]
  intro x hx
  obtain ⟨j, hj⟩ := List.getElem?_of_mem hx
  exact h j x hj
theorem all_bad {p : List UInt8 → Bool} {cs : List (List UInt8)} {j : Nat} {c : List UInt8} (hj : cs[j]? = some c) (h : p c = false) : cs.all p = false := by
  rw [List.all_eq_false]
  exact ⟨c, List.mem_of_getElem? hj, by rw [h]; simp⟩
set_option smartUnfolding false in
set_option maxRecDepth 100000 in
theorem check_e {E : Env} (hE : E.P = Tryz.prog) {v vp vc : Value} {xs : List QC} {p : PL} (h : MkR E v vp xs p) (k day : Int) {cs : List (List UInt8)} (hc : Lst E vc 1 cs.length (cat strA cs)) (hn : cs.length ≤ 100) : OwnC E 35 [SV.c (.agg (mktA v vp p k day)), SV.c vc] [] (fun x U => x = .int .i64 (mktC xs p day cs) ∧ U = []) := by
  refine sx_ownC [] tt_ok mixed at35 E hE [SV.c (.agg (mktA v vp p k day)), SV.c vc] [] _ rfl rfl fun w X β hT => ?_
  have hr := h.of_old hT
  have hc' := hc.of_old hT
  obtain ⟨ac, capc, rfl, hcc, h4⟩ := id hc'.shape
  have C1 := check_q rfl hr.l hr.n hr.inn
  have C2 := check_p rfl hr.s hr.m hr.pin
  have M := mktA_size v vp p k day
  have M0 := mktA_0 v vp p k day
  have M1 := mktA_1 v vp p k day
  have M3 := mktA_70 v vp p k day
  generalize mktA v vp p k day = MA at *
  refine ⟨M, _, M0, ?_⟩
  refine .inr (.inr (.inl ⟨[], [_], [], _, [], C1, rfl, trivial, rfl, rfl, fun c => ?_, fun c => ?_⟩))
  · have c : (chkQ xs != 0) = true := c
    refine ⟨[], [], ⟨?_, rfl⟩, trivial, rfl⟩
    rw [mktC_1 (by simpa using c)]; rfl
  · have c : (chkQ xs != 0) = false := c
    have c : chkQ xs = 0 := by simpa using c
    refine ⟨by decide, _, M1, .inr (.inr (.inl ⟨[], [_], [], _, [], C2, rfl, trivial, rfl, rfl, fun c2 => ?_, fun c2 => ?_⟩))⟩
    · have c2 : ((if polOk p then (0 : Int) else 150) != 0) = true := c2
      have c2 : polOk p = false := by cases e : polOk p <;> simp [e] at c2 ⊢
      refine ⟨[], [], ⟨?_, rfl⟩, trivial, rfl⟩
      rw [mktC_2 c c2, c2]; rfl
    · have c2 : ((if polOk p then (0 : Int) else 150) != 0) = false := c2
      have c2 : polOk p = true := by cases e : polOk p <;> simp [e] at c2 ⊢
      refine ⟨_, M3, fun d1 => ?_, fun d1 => ?_⟩
      · have d1 := of_decide_eq_false d1
        refine ⟨_, M3, fun d2 => ?_, fun d2 => ?_⟩
        · have d2 := of_decide_eq_true (show decide (day > 73048) = true from d2)
          refine ⟨[], [], ⟨?_, rfl⟩, trivial, rfl⟩
          rw [mktC_3 c c2 (.inr d2)]; rfl
        · have d2 := of_decide_eq_false (show decide (day > 73048) = false from d2)
          have hm := mktC_4 (cs := cs) c c2 (day := day) (by omega)
          refine ⟨_, fun w' _ => run_len_sl Tryz.underlying23 w', ?_⟩
          refine ⟨fun q f m => ∃ (i : Nat), q = cs.length - i ∧ i ≤ cs.length ∧ (∀ (j : Nat) c, j < i → cs[j]? = some c → curOk c = true) ∧ f = [(29, SV.c (.slice ac cs.length capc)), (30, SV.c (.int .i64 (cs.length : Nat))), (31, SV.c (.int .i64 (i : Nat)))] ∧ m = [], cs.length, ⟨_, _, ⟨0, by omega, by omega, fun j c h => by omega, rfl, rfl⟩, ⟨rfl, rfl, rfl, trivial⟩, trivial, rfl⟩, ?_⟩
          rintro q f m ⟨i, rfl, hi, hall, rfl, rfl⟩
          refine ⟨fun h => ?_, fun h => ?_⟩
          · have h : i < cs.length := by have := of_decide_eq_true h; omega
            obtain ⟨b, o, rfl, h5⟩ := h4 (by omega)
            obtain ⟨y, hy⟩ : ∃ y, cs[i]? = some y := ⟨_, List.getElem?_eq_getElem h⟩
            have hE' : VOk (envC Tryz.prog tt Tryz.f35.ntmps w X (tiedK [] β)) := tt_ok
            have L1 := lst_at hE' h5 strA_size hy (j := 0) (v := .string (S y)) rfl (ty := 9) (ti := ti9) rfl rfl (p := offAt o ((i : Nat) : Int) ti9.size) (off_one o i)
            refine ⟨by omega, by omega, .inl ⟨_, L1, .inl ⟨_, code_e y, fun g => ?_, fun g => ?_⟩⟩⟩
            · have g : (!curOk y) = true := g
              refine ⟨[], [], ⟨?_, rfl⟩, trivial, rfl⟩
              rw [hm, all_bad hy (by simpa using g)]; rfl
            · have g : (!curOk y) = false := g
              have g : curOk y = true := by simpa using g
              exact ⟨cs.length - (i + 1), _, _, by omega, ⟨i + 1, rfl, by omega, fun j z hj hz => by
                rcases Nat.lt_or_ge j i with h9 | h9
                · exact hall j z h9 hz
                · have : j = i := by omega
                  subst this; rw [hy] at hz; cases hz; exact g, rfl, rfl⟩, ⟨rfl, rfl, c_int (i64_succ (by omega)), trivial⟩, trivial, rfl⟩
          · have h : i = cs.length := by have := of_decide_eq_false h; omega
            subst h
            refine ⟨[], [], ⟨?_, rfl⟩, trivial, rfl⟩
            rw [hm, all_at fun j z hz => hall j z (List.getElem?_eq_some_iff.1 hz).1 hz]; rfl
      · have d1 := of_decide_eq_true (show decide (day < 0) = true from d1)
        refine ⟨fun _ => ?_, fun h => absurd h (by decide)⟩
        refine ⟨[], [], ⟨?_, rfl⟩, trivial, rfl⟩
        rw [mktC_3 c c2 (.inl d1)]; rfl
set_option smartUnfolding false in
set_option maxRecDepth 100000 in
theorem code_r0 (l : List UInt8) : Pure Tryz.prog 76 [SV.c (.string (S l))] (.bool (curOk l)) := by
  refine sx_pure tt_ok mixed at76 _ _ rfl rfl fun w => ?_
  have hx : ∀ i : Nat, i < l.length → Runs ((envP Tryz.prog tt Tryz.f76.ntmps w).toEnv) (Instr.index 9 (.string (S l)) (.int .i64 (i : Int))) (.int .u8 ((l.getD i 0).toNat : Nat)) := fun i h => runs_idx Tryz.underlying9 i rfl h
  rw [curOk_eq]
  refine ⟨_, fun w _ => run_len_S Tryz.underlying9 w, fun h => ?_, fun h => ?_⟩
  · have h : ((l.length : Int) == 3) = true := h
    have h : (l.length : Int) = 3 := by simpa using h
    rw [decide_eq_true h, Bool.true_and]
    refine ⟨_, hx 0 (by omega), .inl ⟨_, capital_r _, fun h0 => ⟨_, hx 1 (by omega), .inl ⟨_, capital_r _, fun h1 => ⟨_, hx 2 (by omega), .inl ⟨_, capital_r _, bv ?_, trivial⟩⟩, fun h1 => ⟨bv ?_, trivial⟩⟩⟩, fun h0 => ⟨nofun, fun _ => ⟨bv ?_, trivial⟩⟩⟩⟩
    · rw [show capR l 0 = true from h0, show capR l 1 = true from h1]; rfl
    · rw [show capR l 0 = true from h0, show capR l 1 = false from h1]; rfl
    · rw [show capR l 0 = false from h0]; rfl
  · have h : ((l.length : Int) == 3) = false := h
    have h : ¬ (l.length : Int) = 3 := by simpa using h
    rw [decide_eq_false h, Bool.false_and]
    refine ⟨nofun, fun _ => ⟨nofun, fun _ => ⟨rfl, trivial⟩⟩⟩
set_option smartUnfolding false in
set_option maxRecDepth 100000 in
theorem check_er {E : Env} (hE : E.P = Tryz.prog) {v vp vc : Value} {xs : List QC} {p : PL} (h : MkR E v vp xs p) (day : Int) {cs : List (List UInt8)} (hc : Lst E vc 1 cs.length (cat strA cs)) (hn : cs.length ≤ 100) : OwnC E 37 [SV.c v, SV.c (.agg (p.A vp)), SV.c (.int .i64 day), SV.c vc] [] (fun x U => x = .int .i64 (mktC xs p day cs) ∧ U = []) := by
  refine sx_ownC [] tt_ok mixed at37 E hE [SV.c v, SV.c (.agg (p.A vp)), SV.c (.int .i64 day), SV.c vc] [] _ rfl rfl fun w X β hT => ?_
  have hr := h.of_old hT
  have hc' := hc.of_old hT
  obtain ⟨ac, capc, rfl, hcc, h4⟩ := id hc'.shape
  obtain ⟨ap, capp, rfl, hcp, -⟩ := id hr.s.shape
  have C1 := check_qr rfl hr.l hr.n hr.inn
  have C2 := check_p15 rfl hr.s hr.m hr.pin rfl
  have F1 := p.size (.slice ap p.srcs.length capp)
  generalize p.A (.slice ap p.srcs.length capp) = PA at *
  refine ⟨F1, .inr (.inr (.inl ⟨[], [_], [], _, [], C1, rfl, trivial, rfl, rfl, fun c => ?_, fun c => ?_⟩))⟩
  · have c : (chkQ xs != 0) = true := c
    refine ⟨[], [], ⟨?_, rfl⟩, trivial, rfl⟩
    rw [mktC_1 (by simpa using c)]; rfl
  · have c : (chkQ xs != 0) = false := c
    have c : chkQ xs = 0 := by simpa using c
    refine .inr (.inr (.inl ⟨[], [_], [], _, [], C2, rfl, trivial, rfl, rfl, fun c2 => ?_, fun c2 => ?_⟩))
    · have c2 : ((if polOk p then (0 : Int) else 150) != 0) = true := c2
      have c2 : polOk p = false := by cases e : polOk p <;> simp [e] at c2 ⊢
      refine ⟨[], [], ⟨?_, rfl⟩, trivial, rfl⟩
      rw [mktC_2 c c2]; rfl
    · have c2 : ((if polOk p then (0 : Int) else 150) != 0) = false := c2
      have c2 : polOk p = true := by cases e : polOk p <;> simp [e] at c2 ⊢
      refine .inl ⟨_, out_r day, fun d1 => ?_, fun d1 => ?_⟩
      · have d1 : (decide (day < 0) || decide (day > 73048)) = true := d1
        simp only [Bool.or_eq_true, decide_eq_true_eq] at d1
        refine ⟨[], [], ⟨?_, rfl⟩, trivial, rfl⟩
        rw [mktC_3 c c2 d1]; rfl
      · have d1 : (decide (day < 0) || decide (day > 73048)) = false := d1
        simp only [Bool.or_eq_false_iff, decide_eq_false_iff_not] at d1
        have hm := mktC_4 (cs := cs) c c2 (day := day) (by omega)
        refine ⟨fun q f m => ∃ (i : Nat), q = cs.length - i ∧ i ≤ cs.length ∧ (∀ (j : Nat) c, j < i → cs[j]? = some c → curOk c = true) ∧ f = [(3, SV.c (.slice ac cs.length capc)), (10, SV.c (.int .i64 (i : Nat)))] ∧ m = [], cs.length, ⟨_, _, ⟨0, by omega, by omega, fun j c h => by omega, rfl, rfl⟩, ⟨rfl, rfl, trivial⟩, trivial, rfl⟩, ?_⟩
        rintro q f m ⟨i, rfl, hi, hall, rfl, rfl⟩
        refine ⟨_, fun w' _ => run_len_sl Tryz.underlying23 w', fun h => ?_, fun h => ?_⟩
        · have h : i < cs.length := by have := of_decide_eq_true h; omega
          obtain ⟨b, o, rfl, h5⟩ := h4 (by omega)
          obtain ⟨y, hy⟩ : ∃ y, cs[i]? = some y := ⟨_, List.getElem?_eq_getElem h⟩
          have hE' : VOk (envC Tryz.prog tt Tryz.f37.ntmps w X (tiedK [] β)) := tt_ok
          have L1 := lst_at hE' h5 strA_size hy (j := 0) (v := .string (S y)) rfl (ty := 9) (ti := ti9) rfl rfl (p := offAt o ((i : Nat) : Int) ti9.size) (off_one o i)
          refine ⟨by omega, by omega, .inl ⟨_, L1, .inl ⟨_, code_r0 y, fun g => ?_, fun g => ?_⟩⟩⟩
          · have g : (!curOk y) = true := g
            refine ⟨[], [], ⟨?_, rfl⟩, trivial, rfl⟩
            rw [hm, all_bad hy (by simpa using g)]; rfl
          · have g : (!curOk y) = false := g
            have g : curOk y = true := by simpa using g
            exact ⟨cs.length - (i + 1), _, _, by omega, ⟨i + 1, rfl, by omega, fun j z hj hz => by
              rcases Nat.lt_or_ge j i with h9 | h9
              · exact hall j z h9 hz
              · have : j = i := by omega
                subst this; rw [hy] at hz; cases hz; exact g, rfl, rfl⟩, ⟨rfl, c_int (i64_succ (by omega)), trivial⟩, trivial, rfl⟩
        · have h : i = cs.length := by have := of_decide_eq_false h; omega
          subst h
          refine ⟨[], [], ⟨?_, rfl⟩, trivial, rfl⟩
          rw [hm, all_at fun j z hz => hall j z (List.getElem?_eq_some_iff.1 hz).1 hz]; rfl
set_option smartUnfolding false in
set_option maxRecDepth 100000 in
theorem one_r : Pure Tryz.prog 24 [] (.agg oneQ.A) := by
  refine sx_pure tt_ok mixed at24 _ _ rfl rfl fun w => ?_
  exact .inl ⟨_, whole_r (n := 1) (by decide) (by decide), RQ.A_fits _, rfl, trivial⟩
set_option smartUnfolding false in
set_option maxRecDepth 100000 in
theorem leg_er {E : Env} (hE : E.P = Tryz.prog) {v vp : Value} {xs : List QC} {p : PL} (h : MkR E v vp xs p) (k day : Int) {a b : List UInt8} (ha : curOk a = true) (hb : curOk b = true) : OwnC E 38 [SV.c v, SV.c (.agg (p.A vp)), SV.c (.int .i64 k), SV.c (.string (S a)), SV.c (.string (S b)), SV.c (.int .i64 day)] [] (fun x U => x = optQ (legO xs k p day a b) ∧ U = []) := by
  refine sx_ownC [4] tt_ok mixed at38 E hE [SV.c v, SV.c (.agg (p.A vp)), SV.c (.int .i64 k), SV.c (.string (S a)), SV.c (.string (S b)), SV.c (.int .i64 day)] [] _ rfl rfl fun w X β hT => ?_
  have hr := h.of_old hT
  have la := cur_len ha
  have lb := cur_len hb
  have S1 := select_qr (k := k) rfl hr.l hr.n hr.inn hr.s hr.m hr.pin (a ++ b) day
  have S2 := select_qr (k := k) rfl hr.l hr.n hr.inn hr.s hr.m hr.pin (b ++ a) day
  rw [← S_add] at S1 S2
  have hsz : (S a).size + (S b).size ≤ 9223372036854775807 := by rw [S_size, S_size]; omega
  have hsz2 : (S b).size + (S a).size ≤ 9223372036854775807 := by rw [S_size, S_size]; omega
  obtain ⟨ap, capp, rfl, hcp, -⟩ := id hr.s.shape
  have F1 := p.size (.slice ap p.srcs.length capp)
  have hL : legO xs k p day a b = if (dirQ xs k p day a b).2 then some (dirQ xs k p day a b).1 else if (dirQ xs k p day b a).2 then some (quoQ oneQ (dirQ xs k p day b a).1).1 else none := rfl
  have D2 := dir_leg (xs := xs) (k := k) (p := p) (day := day) (a := b) (b := a) (cur_ne ha)
  unfold dirQ at hL D2
  generalize p.A (.slice ap p.srcs.length capp) = PA at *
  generalize legO xs k p day a b = LQ at *
  refine ⟨F1, hsz, ?_⟩
  refine .inr (.inr (.inr ⟨[], [9000], [_, _, _, _, _], [], _, S1, rfl, trivial, rfl, trivial, ?_⟩))
  rintro r1 U1 ⟨s1, n1, hn1, rfl, hs1, rfl⟩
  obtain ⟨sa1, sc1, rfl⟩ := hs1.len
  refine ⟨rfl, CH.fits _, ?_⟩
  generalize selCh (cands xs k p (a ++ b) day) p.tol = C at *
  generalize selE xs k p (a ++ b) day = SE at *
  have C1 := CH.g1 C (.slice sa1 n1 sc1)
  have C3 := CH.g3 C (.slice sa1 n1 sc1)
  have PF := C.price.A_fits
  generalize C.A (.slice sa1 n1 sc1) = CA at *
  refine ⟨fun f mm => (decide (SE = 0) && decide (C.cur = b)) = false ∧ f = [(0, SV.c v), (2, SV.c (.int .i64 k)), (3, SV.c (.string (S a))), (4, SV.c (.string (S b))), (5, SV.c (.int .i64 day)), (7, SV.ptr 7 0), (12, SV.ptr 12 0), (14, SV.ptr 14 0)] ∧ mm = [(7, Blk.row 31 68 PA), (12, Blk.row 29 66 ti29.zero), (14, Blk.row 57 70 CA)], ?_, ?_⟩
  · refine ⟨fun c => ?_, fun c => ?_⟩
    · have c : (SE == 0) = true := c
      have c : SE = 0 := by simpa using c
      refine ⟨_, C1, fun d => ?_, fun d => ?_⟩
      · have d := str_eq d
        refine ⟨by decide, _, C3, PF, [], [], ⟨?_, rfl⟩, trivial, rfl⟩
        rw [decide_eq_true c, decide_eq_true d, Bool.true_and, if_pos rfl] at hL
        rw [hL]; rfl
      · have d := str_ne d
        exact ⟨_, _, ⟨by rw [decide_eq_false d, Bool.and_false], rfl, rfl⟩, ⟨rfl, rfl, rfl, rfl, rfl, rfl, rfl, rfl, trivial⟩, ⟨rfl, rfl, rfl, trivial⟩, rfl⟩
    · have c : (SE == 0) = false := c
      have c : ¬ SE = 0 := by simpa using c
      refine ⟨fun d => absurd d (by decide), fun _ => ?_⟩
      exact ⟨_, _, ⟨by rw [decide_eq_false c, Bool.false_and], rfl, rfl⟩, ⟨rfl, rfl, rfl, rfl, rfl, rfl, rfl, rfl, trivial⟩, ⟨rfl, rfl, rfl, trivial⟩, rfl⟩
  · rintro f1 m1 ⟨hno, rfl, rfl⟩
    rw [hno, if_neg Bool.false_ne_true] at hL
    refine ⟨hsz2, ?_⟩
    refine .inr (.inr (.inr ⟨[], [9000], [_, _, _, _, _], [], _, S2, rfl, trivial, rfl, trivial, ?_⟩))
    rintro r1 U1 ⟨s2, n2, hn2, rfl, hs2, rfl⟩
    obtain ⟨sa2, sc2, rfl⟩ := hs2.len
    refine ⟨rfl, CH.fits _, ?_⟩
    generalize selCh (cands xs k p (b ++ a) day) p.tol = C' at *
    generalize selE xs k p (b ++ a) day = SE' at *
    have C1' := CH.g1 C' (.slice sa2 n2 sc2)
    have C3' := CH.g3 C' (.slice sa2 n2 sc2)
    have PF' := C'.price.A_fits
    generalize C'.A (.slice sa2 n2 sc2) = CA' at *
    refine ⟨fun c => ?_, fun c => ?_⟩
    · have c : (SE' == 0) = true := c
      have c : SE' = 0 := by simpa using c
      refine ⟨_, C1', fun d => ?_, fun d => ?_⟩
      · have d := str_eq d
        have hd := D2 (by rw [decide_eq_true c, decide_eq_true d]; rfl)
        rw [decide_eq_true c, decide_eq_true d, Bool.true_and, if_pos rfl] at hL
        refine .inl ⟨_, one_r, by decide, _, C3', .inl ⟨_, quoR_r one_in hd.in_, RQ.A_fits _, by kernel_rfl, RQ.A_fits _, [], [], ⟨?_, rfl⟩, trivial, rfl⟩⟩
        rw [hL]; rfl
      · have d := str_ne d
        rw [decide_eq_false d, Bool.and_false, if_neg Bool.false_ne_true] at hL
        refine ⟨_, rfl, (RQ.of 0 0).A_fits, [], [], ⟨?_, rfl⟩, trivial, rfl⟩
        rw [hL]; rfl
    · have c : (SE' == 0) = false := c
      have c : ¬ SE' = 0 := by simpa using c
      rw [decide_eq_false c, Bool.false_and, if_neg Bool.false_ne_true] at hL
      refine ⟨fun d => absurd d (by decide), fun _ => ?_⟩
      refine ⟨_, rfl, (RQ.of 0 0).A_fits, [], [], ⟨?_, rfl⟩, trivial, rfl⟩
      rw [hL]; rfl
/-- a list of currencies that the call has built -/
theorem check_eo {E : Env} (hE : E.P = Tryz.prog) {v vp : Value} {xs : List QC} {p : PL} (h : MkR E v vp xs p) (k day : Int) {cs : List (List UInt8)} {n : Nat} {vc : Value} (hn : n = cs.length) (hn2 : n ≤ 100) : OwnC E 35 [SV.c (.agg (mktA v vp p k day)), SV.c vc] [(9300, Blk.own vc 9 1 n (cat strA cs))] (fun x U => x = .int .i64 (mktC xs p day cs) ∧ U = [(9300, Blk.own vc 9 1 n (cat strA cs))]) := by
  subst hn
  refine (OwnC.with_own2 (k := 9300) (v := vc) (e := 9) (sz := 1) (n := cs.length) (A := cat strA cs) (pre := []) (Q := fun x U => x = .int .i64 (mktC xs p day cs) ∧ U = []) rfl rfl (Go.SX.cat_all strA_one cs) (by rw [hE]; exact at35.enters) (fun E0 h0 ho hl => check_e (h0.trans hE) (h.of_old ho) k day hl hn2) (fun x U h => by rw [h.2]; rfl)).mono ?_
  rintro r U ⟨U0, ⟨h1, rfl⟩, rfl⟩
  exact ⟨h1, rfl⟩
theorem check_ero {E : Env} (hE : E.P = Tryz.prog) {v vp : Value} {xs : List QC} {p : PL} (h : MkR E v vp xs p) (day : Int) {cs : List (List UInt8)} {n : Nat} {vc : Value} (hn : n = cs.length) (hn2 : n ≤ 100) : OwnC E 37 [SV.c v, SV.c (.agg (p.A vp)), SV.c (.int .i64 day), SV.c vc] [(9300, Blk.own vc 9 1 n (cat strA cs))] (fun x U => x = .int .i64 (mktC xs p day cs) ∧ U = [(9300, Blk.own vc 9 1 n (cat strA cs))]) := by
  subst hn
  refine (OwnC.with_own2 (k := 9300) (v := vc) (e := 9) (sz := 1) (n := cs.length) (A := cat strA cs) (pre := []) (Q := fun x U => x = .int .i64 (mktC xs p day cs) ∧ U = []) rfl rfl (Go.SX.cat_all strA_one cs) (by rw [hE]; exact at37.enters) (fun E0 h0 ho hl => check_er (h0.trans hE) (h.of_old ho) day hl hn2) (fun x U h => by rw [h.2]; rfl)).mono ?_
  rintro r U ⟨U0, ⟨h1, rfl⟩, rfl⟩
  exact ⟨h1, rfl⟩
/-- the product of the legs along currencies -/
def wayO (f : List UInt8 → List UInt8 → Option RQ) : RQ → List (List UInt8) → Option RQ
  | r, a :: b :: cs => match f a b with
    | some s => wayO f (mulQ r s).1 (b :: cs)
    | none => none
  | r, _ => some r
set_option smartUnfolding false in
set_option maxRecDepth 100000 in
theorem way_e {E : Env} (hE : E.P = Tryz.prog) {v vp vc : Value} {xs : List QC} {p : PL} (h : MkR E v vp xs p) (hv : v.oneCell' = true) (hvp : vp.oneCell' = true) (k day : Int) {cs : List (List UInt8)} (hc : Lst E vc 1 cs.length (cat strA cs)) (hn : cs.length ≤ 100) (hn1 : 2 ≤ cs.length) (hok : ∀ c ∈ cs, curOk c = true) : OwnC E 40 [SV.c (.agg (mktA v vp p k day)), SV.c vc] [] (fun x U => x = optQ (wayO (legQ xs k p day) oneQ cs) ∧ U = []) := by
  refine sx_ownC [] tt_ok mixed at40 E hE [SV.c (.agg (mktA v vp p k day)), SV.c vc] [] _ rfl rfl fun w X β hT => ?_
  have hr := h.of_old hT
  have hc' := hc.of_old hT
  obtain ⟨ac, capc, rfl, hcc, h4⟩ := id hc'.shape
  obtain ⟨b, o, rfl, h5⟩ := h4 (by omega)
  have M := mktA_size v vp p k day
  have LG := fun (a b : List UInt8) (ha : curOk a = true) (hb : curOk b = true) => leg_e (E := (envC Tryz.prog tt Tryz.f40.ntmps w X (tiedK [] β)).toEnv) rfl hr hv hvp k day ha hb
  generalize mktA v vp p k day = MA at *
  refine ⟨M, .inl ⟨_, whole1_z (n := 1) (by decide) (by decide), RQ.A_fits _, ?_⟩⟩
  have hE' : VOk (envC Tryz.prog tt Tryz.f40.ntmps w X (tiedK [] β)) := tt_ok
  have S1 := runs_slo hE' Tryz.underlying23 (j := ti9) rfl (a := some ⟨b, o, none⟩) (n := cs.length) (cap := capc) (k := .i64) 1 rfl (by omega)
  rw [if_neg (by omega)] at S1
  refine ⟨_, S1, _, fun w' _ => run_len_sl Tryz.underlying23 w', ?_⟩
  refine ⟨fun q f m => ∃ (i : Nat) (r : RQ), q = cs.length - 1 - i ∧ i + 1 ≤ cs.length ∧ r.In ∧ wayO (legQ xs k p day) oneQ cs = wayO (legQ xs k p day) r (cs.drop i) ∧ f = [(1, SV.c (.slice (some ⟨b, o, none⟩) cs.length capc)), (2, SV.ptr 2 0), (4, SV.ptr 4 0), (6, SV.ptr 6 0), (13, SV.c (.slice (some ⟨b, o + 1, none⟩) (cs.length - 1) (capc - 1))), (14, SV.c (.int .i64 ((cs.length - 1 : Nat) : Int))), (15, SV.c (.int .i64 (i : Nat)))] ∧ m = [(2, Blk.row 66 71 MA), (4, Blk.row 29 66 ti29.zero), (6, Blk.row 29 66 r.A)], cs.length - 1, ⟨_, _, ⟨0, oneQ, rfl, by omega, one_in, rfl, rfl, rfl⟩, ⟨rfl, rfl, rfl, rfl, rfl, rfl, rfl, trivial⟩, ⟨rfl, rfl, rfl, trivial⟩, rfl⟩, ?_⟩
  rintro q f m ⟨i, r, rfl, hi, hrin, hway, rfl, rfl⟩
  have RF := r.A_fits
  refine ⟨fun g => ?_, fun g => ?_⟩
  · have g : i < cs.length - 1 := by have := of_decide_eq_true g; omega
    obtain ⟨c, hci⟩ : ∃ y, cs[i]? = some y := ⟨_, List.getElem?_eq_getElem (by omega)⟩
    obtain ⟨c', hci'⟩ : ∃ y, cs[i + 1]? = some y := ⟨_, List.getElem?_eq_getElem (by omega)⟩
    have L1 := lst_at hE' h5 strA_size hci (j := 0) (v := .string (S c)) rfl (ty := 9) (ti := ti9) rfl rfl (p := offAt o ((i : Nat) : Int) ti9.size) (off_one o i)
    have L2 := lst_at hE' h5 strA_size hci' (j := 0) (v := .string (S c')) rfl (ty := 9) (ti := ti9) rfl rfl (p := offAt (o + 1) ((i : Nat) : Int) ti9.size) (by rw [off_one (o + 1) i]; omega)
    have hdrop : cs.drop i = c :: c' :: cs.drop (i + 2) := by
      rw [drop_at hci, drop_at hci']
    have hdrop' : cs.drop (i + 1) = c' :: cs.drop (i + 2) := by rw [drop_at hci']
    have hw2 : wayO (legQ xs k p day) oneQ cs = match legQ xs k p day c c' with
      | some s => wayO (legQ xs k p day) (mulQ r s).1 (c' :: cs.drop (i + 2))
      | none => none := by rw [hway, hdrop]; rfl
    have oc := hok c (List.mem_of_getElem? hci)
    have oc' := hok c' (List.mem_of_getElem? hci')
    have G1 := LG c c' oc oc'
    refine ⟨by omega, by omega, .inl ⟨_, L2, by omega, by omega, .inl ⟨_, L1, ?_⟩⟩⟩
    cases e : legQ xs k p day c c' with
    | none =>
      rw [e] at hw2 G1
      have hw2 : wayO (legQ xs k p day) oneQ cs = none := hw2
      refine .inr (.inr (.inl ⟨[], [_, _, _], [], _, [], G1, rfl, trivial, rfl, rfl, (RQ.of 0 0).A_fits, by kernel_rfl, fun c1 => ?_, fun c1 => absurd (show true = false from c1) (by decide)⟩))
      refine ⟨_, rfl, (RQ.of 0 0).A_fits, [], [], ⟨?_, rfl⟩, trivial, rfl⟩
      rw [hw2]; rfl
    | some s =>
      rw [e] at hw2 G1
      have hw2 : wayO (legQ xs k p day) oneQ cs = wayO (legQ xs k p day) (mulQ r s).1 (c' :: cs.drop (i + 2)) := hw2
      have hs : Leg s := by
        unfold legQ at e
        split at e
        · cases e
        · exact legO_leg (cur_ne oc) (cur_ne oc') e
      refine .inr (.inr (.inl ⟨[], [_, _, _], [], _, [], G1, rfl, trivial, rfl, rfl, s.A_fits, by kernel_rfl, fun c1 => absurd (show false = true from c1) (by decide), fun c1 => ?_⟩))
      refine .inl ⟨_, mulR_z hrin hs.in_, RQ.A_fits _, ?_⟩
      refine ⟨cs.length - 1 - (i + 1), _, _, by omega, ⟨i + 1, (mulQ r s).1, rfl, by omega, mulQ_in _ _, by rw [hdrop']; exact hw2, rfl, rfl⟩, ⟨rfl, rfl, rfl, rfl, rfl, rfl, c_int (i64_succ (by omega)), trivial⟩, ⟨rfl, rfl, rfl, trivial⟩, rfl⟩
  · have g : i = cs.length - 1 := by have := of_decide_eq_false g; omega
    subst g
    obtain ⟨c, hci⟩ : ∃ y, cs[cs.length - 1]? = some y := ⟨_, List.getElem?_eq_getElem (by omega)⟩
    have hd : cs.drop (cs.length - 1) = [c] := by
      rw [drop_at hci, List.drop_eq_nil_of_le (by omega)]
    have hway : wayO (legQ xs k p day) oneQ cs = some r := by rw [hway, hd]; rfl
    refine ⟨RF, [], [], ⟨?_, rfl⟩, trivial, rfl⟩
    rw [hway]; rfl
end Go.Proofs.YtjkgmglmgndaoaaGreatDoor
