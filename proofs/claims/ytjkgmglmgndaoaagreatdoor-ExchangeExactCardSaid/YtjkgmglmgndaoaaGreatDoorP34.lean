/- candidates. candidates of the document. clone and delete; no condition. -/
import Derived.Test.YtjkgmglmgndaoaaGreatDoorP33
import Derived.Test.YtjkgmglmgndaoaaGreatDoorP14
namespace Go.Proofs.YtjkgmglmgndaoaaGreatDoor
open Go Go.RowKit Go.SX
theorem visQs_len (xs : List QC) (k : Int) : (visQs xs k).length ≤ 4096 := by
  unfold visQs
  split
  · rename_i h
    have h2 := (chkQ_zero h).2
    have h3 := visNQ_len xs k
    rw [fm_lenQ (fun i hi => visNQ_mem hi)]
    omega
  · simp
theorem off72 (p : Nat) : offAt 0 ((p : Nat) : Int) ti51.size = p * 72 := by
  show offAt 0 ((p : Nat) : Int) 72 = p * 72
  simp [offAt]
theorem candL_some {L : List QC} {srcs : List (List UInt8)} {ins : List UInt8} {day stale : Int} {i : Nat} {src : List UInt8} {z : QC} (h : srcs[i]? = some src) (hz : candOf ins day stale L src = some z) : candL L (srcs.take (i + 1)) ins day stale = candL L (srcs.take i) ins day stale ++ [z] := by
  unfold candL
  rw [List.take_add_one, h, List.filterMap_append]
  simp [hz]
theorem candL_none {L : List QC} {srcs : List (List UInt8)} {ins : List UInt8} {day stale : Int} {i : Nat} {src : List UInt8} (h : srcs[i]? = some src) (hz : candOf ins day stale L src = none) : candL L (srcs.take (i + 1)) ins day stale = candL L (srcs.take i) ins day stale := by
  unfold candL
  rw [List.take_add_one, h, List.filterMap_append]
  simp [hz]
def rowQ (b : Option QC) : QC := b.getD noQ
theorem noQ_A : noQ.A = ti51.zero := by kernel_rfl
def CandQ (xs : List QC) (k : Int) (p : PL) (ins : List UInt8) (day : Int) (x : Value) (U : MemL) : Prop := ∃ s n, n = (cands xs k p ins day).length ∧ x = .tuple #[s, .int .i64 (candC xs k p day)] ∧ IsL s n ∧ U = [(4000, Blk.own s 51 72 n (cat QC.A (cands xs k p ins day)))]
set_option smartUnfolding false in
set_option maxRecDepth 100000 in
theorem cand_q {E : Env} (hE : E.P = Tryz.prog) {v : Value} {k : Int} {xs : List QC} (hv : Lst E v 72 xs.length (cat QC.A xs)) (hn : xs.length ≤ 1000000000000) (hin : ∀ y ∈ xs, y.In) {vp : Value} {p : PL} (hp : Lst E vp 1 p.srcs.length (cat strA p.srcs)) (hpn : p.srcs.length ≤ 1000000000000000) (hpin : p.In) (ins : List UInt8) (day : Int) : OwnC E 53 [SV.c v, SV.c (.agg (p.A vp)), SV.c (.int .i64 k), SV.c (.string (S ins)), SV.c (.int .i64 day)] [] (CandQ xs k p ins day) := by
  refine sx_ownC [] tt_ok mixed at53 E hE [SV.c v, SV.c (.agg (p.A vp)), SV.c (.int .i64 k), SV.c (.string (S ins)), SV.c (.int .i64 day)] [] _ rfl rfl fun w X β hT => ?_
  have hv' := hv.of_old hT
  have hp' := hp.of_old hT
  have V1 := vis_q (k := k) rfl hv' hn hin
  have P1 := check_p rfl hp' hpn hpin
  obtain ⟨a, cap, rfl, hc, h4⟩ := id hp'.shape
  have F1 := p.size (.slice a p.srcs.length cap)
  have G0 := p.g0 (.slice a p.srcs.length cap)
  have G2 := p.g2 (.slice a p.srcs.length cap)
  generalize p.A (.slice a p.srcs.length cap) = PA at *
  refine ⟨F1, ?_⟩
  refine .inr (.inr (.inr ⟨[], [3000], [_, _], [], _, V1, rfl, trivial, rfl, trivial, ?_⟩))
  rintro r U ⟨s, n, hsn, rfl, hs, rfl⟩
  refine ⟨rfl, ?_⟩
  have eC : candC xs k p day = if chkQ xs ≠ 0 then chkQ xs else if polOk p then (if day < 0 ∨ day > 73048 then 50 else 0) else 150 := rfl
  have fin : ∀ (e : Int) (V : List QC), candC xs k p day = e → V = cands xs k p ins day → e ≠ 0 → CandQ xs k p ins day (mkRes [.slice none 0 0, .int .i64 e]) [(4000, Blk.own (.slice none 0 0) 51 72 0 #[])] := fun e V he hV h => by
    have e1 : cands xs k p ins day = [] := by unfold cands; rw [he, if_neg h]
    exact ⟨_, 0, by rw [e1]; rfl, by rw [he]; rfl, .nil, by rw [e1]; rfl⟩
  refine ⟨fun c1 => ?_, fun c1 => ?_⟩
  · have c1 : (chkQ xs != 0) = true := c1
    have c1 : chkQ xs ≠ 0 := by simpa using c1
    exact ⟨[(4000, Blk.own (.slice none 0 0) 51 72 0 #[])], [], fin _ _ (by rw [eC, if_pos c1]) rfl c1, ⟨.inr ⟨rfl, rfl, rfl⟩, trivial⟩, rfl⟩
  have c1 : (chkQ xs != 0) = false := c1
  have c1 : chkQ xs = 0 := by simpa using c1
  rw [if_neg (by rw [c1]; decide)] at eC
  refine .inr (.inr (.inl ⟨[], [_], [], _, [], P1, rfl, trivial, rfl, rfl, fun c2 => ?_, fun c2 => ?_⟩))
  · have c2 : polOk p = false := by
      cases h : polOk p with
      | false => rfl
      | true => rw [h] at c2; exact absurd c2 (by decide)
    exact ⟨[(4000, Blk.own (.slice none 0 0) 51 72 0 #[])], [], fin _ _ (by rw [eC, c2]; rfl) rfl (by decide), ⟨.inr ⟨rfl, rfl, rfl⟩, trivial⟩, rfl⟩
  have c2 : polOk p = true := by
    cases h : polOk p with
    | true => rfl
    | false => rw [h] at c2; exact absurd c2 (by decide)
  rw [c2, if_pos rfl] at eC
  refine ⟨fun c3 => ?_, fun c3 => ?_⟩
  case refine_2 =>
    have c3 : decide (day < 0) = true := c3
    have c3 := of_decide_eq_true c3
    exact ⟨fun _ => ⟨[(4000, Blk.own (.slice none 0 0) 51 72 0 #[])], [], fin _ _ (by rw [eC, if_pos (.inl c3)]) rfl (by decide), ⟨.inr ⟨rfl, rfl, rfl⟩, trivial⟩, rfl⟩, nofun⟩
  have c3 : decide (day < 0) = false := c3
  have c3 := of_decide_eq_false c3
  refine ⟨fun c4 => ?_, fun c4 => ?_⟩
  case refine_1 =>
    have c4 : decide (day > 73048) = true := c4
    have c4 := of_decide_eq_true c4
    exact ⟨[(4000, Blk.own (.slice none 0 0) 51 72 0 #[])], [], fin _ _ (by rw [eC, if_pos (.inr c4)]) rfl (by decide), ⟨.inr ⟨rfl, rfl, rfl⟩, trivial⟩, rfl⟩
  have c4 : decide (day > 73048) = false := c4
  have c4 := of_decide_eq_false c4
  rw [if_neg (by omega)] at eC
  clear fin
  have hst : 0 ≤ p.stale ∧ p.stale ≤ 30 ∧ p.srcs.length ≤ 8 := by
    unfold polOk at c2
    simp only [Bool.and_eq_true, decide_eq_true_eq] at c2
    exact ⟨c2.2.2.2.1, c2.2.2.2.2, c2.1.2⟩
  have eV : cands xs k p ins day = candL (visQs xs k) p.srcs ins day p.stale := by unfold cands; rw [if_pos eC]
  have hlv : (visQs xs k).length ≤ 4096 := visQs_len xs k
  unfold CandQ
  rw [eV, eC]
  clear eV eC V1 P1
  generalize visQs xs k = L at *
  obtain ⟨sa, sc, rfl⟩ := hs.len
  refine ⟨_, G0, _, fun w' _ => run_len_sl Tryz.underlying23 w', ?_⟩
  refine ⟨fun q f m => ∃ (i : Nat) (y : Value) (N : Nat), q = p.srcs.length - i ∧ i ≤ p.srcs.length ∧ N = (candL L (p.srcs.take i) ins day p.stale).length ∧ IsL y N ∧ f = [(3, SV.c (.string (S ins))), (4, SV.c (.int .i64 day)), (6, SV.ptr 6 0), (12, SV.c (.slice sa n sc)), (14, SV.c y), (43, SV.c (.slice a p.srcs.length cap)), (44, SV.c (.int .i64 (p.srcs.length : Nat))), (45, SV.c (.int .i64 (i : Nat)))] ∧ m = [(4000, Blk.own y 51 72 N (cat QC.A (candL L (p.srcs.take i) ins day p.stale))), (6, Blk.row 31 68 PA), (3000, Blk.own (.slice sa n sc) 51 72 n (cat QC.A L))], p.srcs.length, ⟨_, _, ⟨0, .slice none 0 0, 0, by omega, by omega, rfl, .nil, rfl, rfl⟩, ⟨rfl, rfl, rfl, rfl, rfl, rfl, rfl, rfl, trivial⟩, ⟨.inr ⟨rfl, rfl, rfl⟩, rfl, .inl rfl, trivial⟩, rfl⟩, ?_⟩
  rintro q f m ⟨i, y, N, rfl, hi, hN, hy, rfl, rfl⟩
  refine ⟨fun h => ?_, fun h => ?_⟩
  · have h : i < p.srcs.length := by have := of_decide_eq_true h; omega
    obtain ⟨b, o, rfl, h5⟩ := h4 (by omega)
    obtain ⟨src, hsrc⟩ : ∃ y, p.srcs[i]? = some y := ⟨_, List.getElem?_eq_getElem h⟩
    have hE' : VOk (envC Tryz.prog tt Tryz.f53.ntmps w X (tiedK [] β)) := tt_ok
    have L1 := lst_at hE' h5 strA_size hsrc (j := 0) (v := .string (S src)) rfl (ty := 9) (ti := ti9) rfl rfl (p := offAt o ((i : Nat) : Int) ti9.size) (off_one o i)
    refine ⟨by omega, by omega, .inl ⟨_, L1, _, fun w' _ => run_len_sl Tryz.underlying22 w', ?_⟩⟩
    refine ⟨fun q f m => ∃ (j : Nat) (B : Option QC), q = L.length - j ∧ j ≤ L.length ∧ B = (L.take j).foldl (candStep src ins day p.stale) none ∧ f = [(3, SV.c (.string (S ins))), (4, SV.c (.int .i64 day)), (6, SV.ptr 6 0), (12, SV.c (.slice sa n sc)), (14, SV.c y), (16, SV.c (.string (S src))), (17, SV.ptr 17 0), (18, SV.c (.bool B.isSome)), (43, SV.c (.slice (some ⟨b, o, none⟩) p.srcs.length cap)), (44, SV.c (.int .i64 (p.srcs.length : Nat))), (45, SV.c (.int .i64 (i : Nat))), (49, SV.c (.slice sa n sc)), (50, SV.c (.int .i64 (n : Nat))), (51, SV.c (.int .i64 (j : Nat)))] ∧ m = [(17, Blk.row 51 72 (rowQ B).A), (4000, Blk.own y 51 72 N (cat QC.A (candL L (p.srcs.take i) ins day p.stale))), (6, Blk.row 31 68 PA), (3000, Blk.own (.slice sa n sc) 51 72 n (cat QC.A L))], L.length, ⟨_, _, ⟨0, none, by omega, by omega, rfl, rfl, rfl⟩, ⟨rfl, rfl, rfl, rfl, rfl, rfl, rfl, rfl, rfl, rfl, rfl, rfl, rfl, rfl, trivial⟩, ⟨congrArg (fun A => some (Blk.row 51 72 A)) noQ_A.symm, .inl rfl, rfl, .inl rfl, trivial⟩, rfl⟩, ?_⟩
    rintro q f m ⟨j, B, rfl, hj, hB, rfl, rfl⟩
    refine ⟨fun h => ?_, fun h => ?_⟩
    · have h : j < n := by have := of_decide_eq_true h; omega
      obtain ⟨z, hz⟩ : ∃ z, L[j]? = some z := ⟨_, List.getElem?_eq_getElem (by omega)⟩
      rcases hs with ⟨hs1, hs2⟩ | ⟨g0, c0, hs1⟩
      · omega
      cases hs1
      have L2 := cat_extract QC.size hz
      have hjn : j * 72 + 72 ≤ (cat QC.A L).size := by rw [Go.SX.cat_size QC.size]; omega
      have eB : (L.take (j + 1)).foldl (candStep src ins day p.stale) none = candStep src ins day p.stale B z := by
        rw [List.take_add_one, hz, List.foldl_append, ← hB]; rfl
      generalize hX : cat QC.A L = XA at *
      have Z0 := z.g0
      have Z1 := z.g1
      have Z3 := z.g3
      have ZF := z.fits
      have N3 := (rowQ B).g3
      generalize hY : z.A = ZA at *
      refine ⟨by omega, by omega, .inr ⟨3000, g0, _, n, _, _, _, _, rfl, rfl, (by rw [off72]; exact hjn), ZA, (by rw [off72]; exact L2), ZF, _, Z0, ?_⟩⟩
      refine ⟨fun k1 => ?_, fun k1 => ?_⟩
      case refine_2 =>
        have k1 := str_ne k1
        have e0 : candStep src ins day p.stale B z = B := by unfold candStep; rw [if_neg (by simp [k1])]
        refine ⟨nofun, fun _ => ⟨nofun, fun _ => ⟨nofun, fun _ => ?_⟩⟩⟩
        exact ⟨nofun, fun _ => ⟨L.length - (j + 1), _, _, by omega, ⟨j + 1, B, rfl, by omega, (eB.trans e0).symm, rfl, rfl⟩, ⟨rfl, rfl, rfl, rfl, rfl, rfl, rfl, rfl, rfl, rfl, rfl, rfl, rfl, c_int (i64_succ (by omega)), trivial⟩, ⟨rfl, .inl rfl, rfl, .inl rfl, trivial⟩, rfl⟩⟩
      have k1 := str_eq k1
      refine ⟨_, Z1, fun k2 => ?_, fun k2 => ?_⟩
      case refine_2 =>
        have k2 := str_ne k2
        have e0 : candStep src ins day p.stale B z = B := by unfold candStep; rw [if_neg (by simp [k2])]
        refine ⟨nofun, fun _ => ⟨nofun, fun _ => ?_⟩⟩
        exact ⟨nofun, fun _ => ⟨L.length - (j + 1), _, _, by omega, ⟨j + 1, B, rfl, by omega, (eB.trans e0).symm, rfl, rfl⟩, ⟨rfl, rfl, rfl, rfl, rfl, rfl, rfl, rfl, rfl, rfl, rfl, rfl, rfl, c_int (i64_succ (by omega)), trivial⟩, ⟨rfl, .inl rfl, rfl, .inl rfl, trivial⟩, rfl⟩⟩
      have k2 := str_eq k2
      refine ⟨_, Z3, fun k3 => ?_, fun k3 => ?_⟩
      case refine_2 =>
        have k3 : decide (z.day ≤ day) = false := k3
        have e0 : candStep src ins day p.stale B z = B := by unfold candStep; rw [if_neg (by simp [k3])]
        refine ⟨nofun, fun _ => ?_⟩
        exact ⟨nofun, fun _ => ⟨L.length - (j + 1), _, _, by omega, ⟨j + 1, B, rfl, by omega, (eB.trans e0).symm, rfl, rfl⟩, ⟨rfl, rfl, rfl, rfl, rfl, rfl, rfl, rfl, rfl, rfl, rfl, rfl, rfl, c_int (i64_succ (by omega)), trivial⟩, ⟨rfl, .inl rfl, rfl, .inl rfl, trivial⟩, rfl⟩⟩
      have k3 : decide (z.day ≤ day) = true := k3
      refine ⟨_, Z3, _, G2, fun k4 => ?_, fun k4 => ?_⟩
      case refine_2 =>
        have k4 : decide (z.day ≥ IntKind.i64.wrap (day - p.stale)) = false := k4
        rw [i64_in (by omega)] at k4
        have k4 : decide (day - p.stale ≤ z.day) = false := k4
        have e0 : candStep src ins day p.stale B z = B := by unfold candStep; rw [if_neg (by simp [k4])]
        exact ⟨nofun, fun _ => ⟨L.length - (j + 1), _, _, by omega, ⟨j + 1, B, rfl, by omega, (eB.trans e0).symm, rfl, rfl⟩, ⟨rfl, rfl, rfl, rfl, rfl, rfl, rfl, rfl, rfl, rfl, rfl, rfl, rfl, c_int (i64_succ (by omega)), trivial⟩, ⟨rfl, .inl rfl, rfl, .inl rfl, trivial⟩, rfl⟩⟩
      have k4 : decide (z.day ≥ IntKind.i64.wrap (day - p.stale)) = true := k4
      rw [i64_in (by omega)] at k4
      have k4 : decide (day - p.stale ≤ z.day) = true := k4
      refine ⟨fun k5 => ?_, fun k5 => ?_⟩
      · have k5 := bnot_f k5
        refine ⟨_, Z3, _, N3, fun k6 => ?_, fun k6 => ?_⟩
        · have e0 : candStep src ins day p.stale B z = some z := by
            unfold candStep
            rw [if_pos]
            have : newer B z = true := by
              obtain ⟨x, rfl⟩ := Option.isSome_iff_exists.1 k5
              exact k6
            simp only [k1, k2, decide_true, Bool.true_and, this, k3, k4]
          exact ⟨ZF, ⟨L.length - (j + 1), _, _, by omega, ⟨j + 1, some z, rfl, by omega, (eB.trans e0).symm, rfl, rfl⟩, ⟨rfl, rfl, rfl, rfl, rfl, rfl, rfl, rfl, rfl, rfl, rfl, rfl, rfl, c_int (i64_succ (by omega)), trivial⟩, ⟨congrArg (fun A => some (Blk.row 51 72 A)) hY.symm, .inl rfl, rfl, .inl rfl, trivial⟩, rfl⟩⟩
        · have e0 : candStep src ins day p.stale B z = B := by
            unfold candStep
            rw [if_neg]
            have : newer B z = false := by
              obtain ⟨x, rfl⟩ := Option.isSome_iff_exists.1 k5
              exact k6
            simp [this]
          exact ⟨L.length - (j + 1), _, _, by omega, ⟨j + 1, B, rfl, by omega, (eB.trans e0).symm, rfl, rfl⟩, ⟨rfl, rfl, rfl, rfl, rfl, rfl, rfl, rfl, rfl, rfl, rfl, rfl, rfl, c_int (i64_succ (by omega)), trivial⟩, ⟨rfl, .inl rfl, rfl, .inl rfl, trivial⟩, rfl⟩
      · have k5 := bnot_t k5
        have e0 : candStep src ins day p.stale B z = some z := by
          unfold candStep
          rw [if_pos]
          have : newer B z = true := by
            cases B with
            | none => rfl
            | some x => cases k5
          simp only [k1, k2, decide_true, Bool.true_and, this, k3, k4]
        exact ⟨fun _ => ⟨ZF, ⟨L.length - (j + 1), _, _, by omega, ⟨j + 1, some z, rfl, by omega, (eB.trans e0).symm, rfl, rfl⟩, ⟨rfl, rfl, rfl, rfl, rfl, rfl, rfl, rfl, rfl, rfl, rfl, rfl, rfl, c_int (i64_succ (by omega)), trivial⟩, ⟨congrArg (fun A => some (Blk.row 51 72 A)) hY.symm, .inl rfl, rfl, .inl rfl, trivial⟩, rfl⟩⟩, nofun⟩
    · have h : j = n := by have := of_decide_eq_false h; omega
      have hB : B = candOf ins day p.stale L src := by rw [hB, List.take_of_length_le (by omega)]; rfl
      refine ⟨fun k1 => ?_, fun k1 => ?_⟩
      · have k1 : B.isSome = true := k1
        obtain ⟨z, rfl⟩ := Option.isSome_iff_exists.1 k1
        have F1 := fill_quo1 z
        have F2 := z.fits.one
        have F3 := z.ext72
        have F4 : z.A.size = 1 * 72 := z.size
        have F5 : cat QC.A (candL L (p.srcs.take i) ins day p.stale) ++ z.A = cat QC.A (candL L (p.srcs.take (i + 1)) ins day p.stale) := by
          rw [candL_some hsrc hB.symm, cat_append, cat_one]
        have F6 := congrArg List.length (candL_some hsrc hB.symm)
        have hl := candL_len L (p.srcs.take i) ins day p.stale
        change _ = _ at F6
        rw [List.length_append, ← hN] at F6
        rw [← hN, List.length_take] at hl
        refine .inl ⟨by decide, by decide, _, F1, F4, by decide, 4000, N, _, .inl rfl, by decide, F2, F4, _, F3, ?_⟩
        obtain ⟨q, hq, hb⟩ := info_quo
        refine ⟨by omega, by unfold maxLen; omega, ⟨q, hq, by rw [hb]; omega⟩, trivial, fun g2 cap2 => ?_⟩
        exact ⟨p.srcs.length - (i + 1), _, _, by omega, ⟨i + 1, _, N + 1, rfl, by omega, F6.symm, .some, rfl, rfl⟩, ⟨rfl, rfl, rfl, rfl, rfl, rfl, rfl, c_int (i64_succ (by omega)), trivial⟩, ⟨.inl (own_eq F5), rfl, .inl rfl, trivial⟩, rfl⟩
      · have k1 : B.isSome = false := k1
        have hB : candOf ins day p.stale L src = none := by rw [← hB]; exact Option.isNone_iff_eq_none.1 (by simpa using k1)
        have e1 := candL_none hsrc hB
        exact ⟨p.srcs.length - (i + 1), _, _, by omega, ⟨i + 1, y, N, rfl, by omega, by rw [e1]; exact hN, hy, rfl, rfl⟩, ⟨rfl, rfl, rfl, rfl, rfl, rfl, rfl, c_int (i64_succ (by omega)), trivial⟩, ⟨.inl (own_eq (by rw [e1])), rfl, .inl rfl, trivial⟩, rfl⟩
  · have h : i = p.srcs.length := by have := of_decide_eq_false h; omega
    subst h
    rw [List.take_length] at hN ⊢
    exact ⟨[(4000, Blk.own y 51 72 N (cat QC.A (candL L p.srcs ins day p.stale)))], [], ⟨y, N, hN, rfl, hy, rfl⟩, ⟨.inl rfl, trivial⟩, rfl⟩
end Go.Proofs.YtjkgmglmgndaoaaGreatDoor
namespace Go.Proofs.YtjkgmglmgndaoaaGreatDoor
open Go Go.RowKit Go.SX
set_option smartUnfolding false in
set_option maxRecDepth 100000 in
theorem cand1_r {E : Env} (hE : E.P = Tryz.prog) {v vp : Value} {L : List QC} (hv : Lst E v 72 L.length (cat QC.A L)) (hlv : L.length ≤ 4096) {p : PL} (hst : 0 ≤ p.stale ∧ p.stale ≤ 30) (src ins : List UInt8) {day : Int} (c3 : ¬ day < 0) (c4 : ¬ day > 73048) : OwnC E 160 [SV.c v, SV.c (.agg (p.A vp)), SV.c (.string (S src)), SV.c (.string (S ins)), SV.c (.int .i64 day)] [] (fun x U => x = .tuple #[.agg (rowQ (candOf ins day p.stale L src)).A, .bool (candOf ins day p.stale L src).isSome] ∧ U = []) := by
  refine sx_ownC [] tt_ok mixed at160 E hE [SV.c v, SV.c (.agg (p.A vp)), SV.c (.string (S src)), SV.c (.string (S ins)), SV.c (.int .i64 day)] [] _ rfl rfl fun w X β hT => ?_
  have hv' := hv.of_old hT
  have F1 := p.size vp
  have G2 := p.g2 vp
  generalize p.A vp = PA at *
  obtain ⟨a, cap, rfl, hc, h4⟩ := id hv'.shape
  refine ⟨F1, noQ.A, (by kernel_rfl), noQ.fits, ?_⟩
  refine ⟨fun q f m => ∃ (j : Nat) (B : Option QC), q = L.length - j ∧ j ≤ L.length ∧ B = (L.take j).foldl (candStep src ins day p.stale) none ∧ f = [(0, SV.c (.slice a L.length cap)), (2, SV.c (.string (S src))), (3, SV.c (.string (S ins))), (4, SV.c (.int .i64 day)), (6, SV.ptr 6 0), (10, SV.ptr 10 0), (12, SV.ptr 12 0), (13, SV.c (.bool B.isSome)), (14, SV.c (.int .i64 (j : Nat)))] ∧ m = [(12, Blk.row 51 72 (rowQ B).A), (6, Blk.row 31 68 PA), (10, Blk.row 51 72 noQ.A)], L.length, ⟨_, _, ⟨0, none, by omega, by omega, rfl, rfl, rfl⟩, ⟨rfl, rfl, rfl, rfl, rfl, rfl, rfl, rfl, rfl, trivial⟩, ⟨rfl, rfl, congrArg (fun A => some (Blk.row 51 72 A)) noQ_A.symm, trivial⟩, rfl⟩, ?_⟩
  rintro q f m ⟨j, B, rfl, hj, hB, rfl, rfl⟩
  refine ⟨_, fun w' _ => run_len_sl Tryz.underlying22 w', fun h => ?_, fun h => ?_⟩
  · have h : j < L.length := by have := of_decide_eq_true h; omega
    obtain ⟨z, hz⟩ : ∃ z, L[j]? = some z := ⟨_, List.getElem?_eq_getElem (by omega)⟩
    obtain ⟨b, o, rfl, h5⟩ := h4 (by omega)
    have hE' : VOk (envC Tryz.prog tt Tryz.f160.ntmps w X (tiedK [] β)) := tt_ok
    have L2 := lst_elem hE' h5 QC.size hz (ty := 51) (ti := ti51) rfl rfl rfl (p := o + ((j : Nat) : Int).toNat * 72) rfl
    have eB : (L.take (j + 1)).foldl (candStep src ins day p.stale) none = candStep src ins day p.stale B z := by
      rw [List.take_add_one, hz, List.foldl_append, ← hB]; rfl
    have Z0 := z.g0
    have Z1 := z.g1
    have Z3 := z.g3
    have ZF := z.fits
    have N3 := (rowQ B).g3
    generalize hY : z.A = ZA at *
    refine ⟨by omega, by omega, .inl ⟨_, L2, ZF, _, Z0, ?_⟩⟩
    refine ⟨fun k1 => ?_, fun k1 => ?_⟩
    case refine_2 =>
      have k1 := str_ne k1
      have e0 : candStep src ins day p.stale B z = B := by unfold candStep; rw [if_neg (by simp [k1])]
      refine ⟨nofun, fun _ => ⟨nofun, fun _ => ⟨nofun, fun _ => ?_⟩⟩⟩
      exact ⟨nofun, fun _ => ⟨L.length - (j + 1), _, _, by omega, ⟨j + 1, B, rfl, by omega, (eB.trans e0).symm, rfl, rfl⟩, ⟨rfl, rfl, rfl, rfl, rfl, rfl, rfl, rfl, c_int (i64_succ (by omega)), trivial⟩, ⟨rfl, rfl, rfl, trivial⟩, rfl⟩⟩
    have k1 := str_eq k1
    refine ⟨_, Z1, fun k2 => ?_, fun k2 => ?_⟩
    case refine_2 =>
      have k2 := str_ne k2
      have e0 : candStep src ins day p.stale B z = B := by unfold candStep; rw [if_neg (by simp [k2])]
      refine ⟨nofun, fun _ => ⟨nofun, fun _ => ?_⟩⟩
      exact ⟨nofun, fun _ => ⟨L.length - (j + 1), _, _, by omega, ⟨j + 1, B, rfl, by omega, (eB.trans e0).symm, rfl, rfl⟩, ⟨rfl, rfl, rfl, rfl, rfl, rfl, rfl, rfl, c_int (i64_succ (by omega)), trivial⟩, ⟨rfl, rfl, rfl, trivial⟩, rfl⟩⟩
    have k2 := str_eq k2
    refine ⟨_, Z3, fun k3 => ?_, fun k3 => ?_⟩
    case refine_2 =>
      have k3 : decide (z.day ≤ day) = false := k3
      have e0 : candStep src ins day p.stale B z = B := by unfold candStep; rw [if_neg (by simp [k3])]
      refine ⟨nofun, fun _ => ?_⟩
      exact ⟨nofun, fun _ => ⟨L.length - (j + 1), _, _, by omega, ⟨j + 1, B, rfl, by omega, (eB.trans e0).symm, rfl, rfl⟩, ⟨rfl, rfl, rfl, rfl, rfl, rfl, rfl, rfl, c_int (i64_succ (by omega)), trivial⟩, ⟨rfl, rfl, rfl, trivial⟩, rfl⟩⟩
    have k3 : decide (z.day ≤ day) = true := k3
    refine ⟨_, Z3, _, G2, fun k4 => ?_, fun k4 => ?_⟩
    case refine_2 =>
      have k4 : decide (z.day ≥ IntKind.i64.wrap (day - p.stale)) = false := k4
      rw [i64_in (by omega)] at k4
      have k4 : decide (day - p.stale ≤ z.day) = false := k4
      have e0 : candStep src ins day p.stale B z = B := by unfold candStep; rw [if_neg (by simp [k4])]
      exact ⟨nofun, fun _ => ⟨L.length - (j + 1), _, _, by omega, ⟨j + 1, B, rfl, by omega, (eB.trans e0).symm, rfl, rfl⟩, ⟨rfl, rfl, rfl, rfl, rfl, rfl, rfl, rfl, c_int (i64_succ (by omega)), trivial⟩, ⟨rfl, rfl, rfl, trivial⟩, rfl⟩⟩
    have k4 : decide (z.day ≥ IntKind.i64.wrap (day - p.stale)) = true := k4
    rw [i64_in (by omega)] at k4
    have k4 : decide (day - p.stale ≤ z.day) = true := k4
    refine ⟨fun k5 => ?_, fun k5 => ?_⟩
    · have k5 := bnot_f k5
      refine ⟨_, Z3, _, N3, fun k6 => ?_, fun k6 => ?_⟩
      · have e0 : candStep src ins day p.stale B z = some z := by
          unfold candStep
          rw [if_pos]
          have : newer B z = true := by
            obtain ⟨x, rfl⟩ := Option.isSome_iff_exists.1 k5
            exact k6
          simp only [k1, k2, decide_true, Bool.true_and, this, k3, k4]
        exact ⟨ZF, ⟨L.length - (j + 1), _, _, by omega, ⟨j + 1, some z, rfl, by omega, (eB.trans e0).symm, rfl, rfl⟩, ⟨rfl, rfl, rfl, rfl, rfl, rfl, rfl, rfl, c_int (i64_succ (by omega)), trivial⟩, ⟨congrArg (fun A => some (Blk.row 51 72 A)) hY.symm, rfl, rfl, trivial⟩, rfl⟩⟩
      · have e0 : candStep src ins day p.stale B z = B := by
          unfold candStep
          rw [if_neg]
          have : newer B z = false := by
            obtain ⟨x, rfl⟩ := Option.isSome_iff_exists.1 k5
            exact k6
          simp [this]
        exact ⟨L.length - (j + 1), _, _, by omega, ⟨j + 1, B, rfl, by omega, (eB.trans e0).symm, rfl, rfl⟩, ⟨rfl, rfl, rfl, rfl, rfl, rfl, rfl, rfl, c_int (i64_succ (by omega)), trivial⟩, ⟨rfl, rfl, rfl, trivial⟩, rfl⟩
    · have k5 := bnot_t k5
      have e0 : candStep src ins day p.stale B z = some z := by
        unfold candStep
        rw [if_pos]
        have : newer B z = true := by
          cases B with
          | none => rfl
          | some x => cases k5
        simp only [k1, k2, decide_true, Bool.true_and, this, k3, k4]
      exact ⟨fun _ => ⟨ZF, ⟨L.length - (j + 1), _, _, by omega, ⟨j + 1, some z, rfl, by omega, (eB.trans e0).symm, rfl, rfl⟩, ⟨rfl, rfl, rfl, rfl, rfl, rfl, rfl, rfl, c_int (i64_succ (by omega)), trivial⟩, ⟨congrArg (fun A => some (Blk.row 51 72 A)) hY.symm, rfl, rfl, trivial⟩, rfl⟩⟩, nofun⟩
  · have h : j = L.length := by have := of_decide_eq_false h; omega
    have hB : B = candOf ins day p.stale L src := by rw [hB, List.take_of_length_le (by omega)]; rfl
    rw [← hB]
    have NF := (rowQ B).fits
    generalize (rowQ B).A = NA at *
    exact ⟨NF, [], [], ⟨rfl, rfl⟩, trivial, rfl⟩
theorem cand1_own {E : Env} (hE : E.P = Tryz.prog) {x vp : Value} {L : List QC} {n : Nat} (hn : n = L.length) (hlv : L.length ≤ 4096) {p : PL} (hst : 0 ≤ p.stale ∧ p.stale ≤ 30) (src ins : List UInt8) {day : Int} (c3 : ¬ day < 0) (c4 : ¬ day > 73048) : OwnC E 160 [SV.c x, SV.c (.agg (p.A vp)), SV.c (.string (S src)), SV.c (.string (S ins)), SV.c (.int .i64 day)] [(3000, Blk.own x 51 72 n (cat QC.A L))] (fun r U => r = .tuple #[.agg (rowQ (candOf ins day p.stale L src)).A, .bool (candOf ins day p.stale L src).isSome] ∧ U = [(3000, Blk.own x 51 72 n (cat QC.A L))]) := by
  subst hn
  have h1 : (cat QC.A L).all (·.oneCell') = true := Go.SX.cat_all (fun a => a.one) L
  refine (OwnC.with_own (k := 3000) (v := x) (e := 51) (sz := 72) (n := L.length) (A := cat QC.A L) (pre := []) rfl rfl h1 (by rw [hE]; exact at160.enters) (fun E0 h hl => cand1_r (h.trans hE) hl hlv hst src ins c3 c4) (fun x U h => by rw [h.2]; rfl)).mono ?_
  rintro y U ⟨U0, ⟨h1, h2⟩, h3⟩
  exact ⟨h1, by rw [h3, h2]⟩
set_option smartUnfolding false in
set_option maxRecDepth 100000 in
theorem cand_qr {E : Env} (hE : E.P = Tryz.prog) {v : Value} {k : Int} {xs : List QC} (hv : Lst E v 72 xs.length (cat QC.A xs)) (hn : xs.length ≤ 1000000000000) (hin : ∀ y ∈ xs, y.In) {vp : Value} {p : PL} (hp : Lst E vp 1 p.srcs.length (cat strA p.srcs)) (hpn : p.srcs.length ≤ 1000000000000000) (hpin : p.In) (ins : List UInt8) (day : Int) : OwnC E 119 [SV.c v, SV.c (.agg (p.A vp)), SV.c (.int .i64 k), SV.c (.string (S ins)), SV.c (.int .i64 day)] [] (CandQ xs k p ins day) := by
  refine sx_ownC [] tt_ok mixed at119 E hE [SV.c v, SV.c (.agg (p.A vp)), SV.c (.int .i64 k), SV.c (.string (S ins)), SV.c (.int .i64 day)] [] _ rfl rfl fun w X β hT => ?_
  have hv' := hv.of_old hT
  have hp' := hp.of_old hT
  have V1 := vis_qr (k := k) rfl hv' hn hin
  have O1 := out_r day
  obtain ⟨a, cap, rfl, hc, h4⟩ := id hp'.shape
  have P1 := check_p15 rfl hp' hpn hpin rfl
  have C1 := fun (E0 : Env) (hE0 : E0.P = Tryz.prog) (x : Value) (L : List QC) (n : Nat) (hn : n = L.length) (hlv : L.length ≤ 4096) (hst : 0 ≤ p.stale ∧ p.stale ≤ 30) src c3 c4 => cand1_own (E := E0) hE0 (x := x) (vp := .slice a p.srcs.length cap) (L := L) (n := n) hn hlv (p := p) hst src ins (day := day) c3 c4
  have F1 := p.size (.slice a p.srcs.length cap)
  have G0 := p.g0 (.slice a p.srcs.length cap)
  have G2 := p.g2 (.slice a p.srcs.length cap)
  generalize p.A (.slice a p.srcs.length cap) = PA at *
  refine ⟨F1, ?_⟩
  refine .inr (.inr (.inr ⟨[], [3000], [_, _], [], _, V1, rfl, trivial, rfl, trivial, ?_⟩))
  rintro r U ⟨s, n, hsn, rfl, hs, rfl⟩
  refine ⟨rfl, ?_⟩
  have eC : candC xs k p day = if chkQ xs ≠ 0 then chkQ xs else if polOk p then (if day < 0 ∨ day > 73048 then 50 else 0) else 150 := rfl
  have fin : ∀ (e : Int) (V : List QC), candC xs k p day = e → V = cands xs k p ins day → e ≠ 0 → CandQ xs k p ins day (mkRes [.slice none 0 0, .int .i64 e]) [(4000, Blk.own (.slice none 0 0) 51 72 0 #[])] := fun e V he hV h => by
    have e1 : cands xs k p ins day = [] := by unfold cands; rw [he, if_neg h]
    exact ⟨_, 0, by rw [e1]; rfl, by rw [he]; rfl, .nil, by rw [e1]; rfl⟩
  refine ⟨fun c1 => ?_, fun c1 => ?_⟩
  · have c1 : (chkQ xs != 0) = true := c1
    have c1 : chkQ xs ≠ 0 := by simpa using c1
    exact ⟨[(4000, Blk.own (.slice none 0 0) 51 72 0 #[])], [], fin _ _ (by rw [eC, if_pos c1]) rfl c1, ⟨.inr ⟨rfl, rfl, rfl⟩, trivial⟩, rfl⟩
  have c1 : (chkQ xs != 0) = false := c1
  have c1 : chkQ xs = 0 := by simpa using c1
  rw [if_neg (by rw [c1]; decide)] at eC
  refine .inr (.inr (.inl ⟨[], [_], [], _, [], P1, rfl, trivial, rfl, rfl, fun c2 => ?_, fun c2 => ?_⟩))
  · have c2 : polOk p = false := by
      cases h : polOk p with
      | false => rfl
      | true => rw [h] at c2; exact absurd c2 (by decide)
    exact ⟨[(4000, Blk.own (.slice none 0 0) 51 72 0 #[])], [], fin _ _ (by rw [eC, c2]; rfl) rfl (by decide), ⟨.inr ⟨rfl, rfl, rfl⟩, trivial⟩, rfl⟩
  have c2 : polOk p = true := by
    cases h : polOk p with
    | true => rfl
    | false => rw [h] at c2; exact absurd c2 (by decide)
  rw [c2, if_pos rfl] at eC
  refine .inl ⟨_, O1, fun c3 => ?_, fun c3 => ?_⟩
  · have c3 : (decide (day < 0) || decide (day > 73048)) = true := c3
    simp only [Bool.or_eq_true, decide_eq_true_eq] at c3
    exact ⟨[(4000, Blk.own (.slice none 0 0) 51 72 0 #[])], [], fin _ _ (by rw [eC, if_pos c3]) rfl (by decide), ⟨.inr ⟨rfl, rfl, rfl⟩, trivial⟩, rfl⟩
  have c3 : (decide (day < 0) || decide (day > 73048)) = false := c3
  simp only [Bool.or_eq_false_iff, decide_eq_false_iff_not] at c3
  rw [if_neg (by omega)] at eC
  clear fin
  have hst : 0 ≤ p.stale ∧ p.stale ≤ 30 ∧ p.srcs.length ≤ 8 := by
    unfold polOk at c2
    simp only [Bool.and_eq_true, decide_eq_true_eq] at c2
    exact ⟨c2.2.2.2.1, c2.2.2.2.2, c2.1.2⟩
  have eV : cands xs k p ins day = candL (visQs xs k) p.srcs ins day p.stale := by unfold cands; rw [if_pos eC]
  have hlv : (visQs xs k).length ≤ 4096 := visQs_len xs k
  unfold CandQ
  rw [eV, eC]
  clear eV eC V1 P1
  generalize visQs xs k = L at *
  obtain ⟨sa, sc, rfl⟩ := hs.len
  refine ⟨fun q f m => ∃ (i : Nat) (y : Value) (N : Nat), q = p.srcs.length - i ∧ i ≤ p.srcs.length ∧ N = (candL L (p.srcs.take i) ins day p.stale).length ∧ IsL y N ∧ f = [(3, SV.c (.string (S ins))), (4, SV.c (.int .i64 day)), (6, SV.ptr 6 0), (12, SV.c (.slice sa n sc)), (14, SV.c y), (15, SV.c (.int .i64 (i : Nat)))] ∧ m = [(4000, Blk.own y 51 72 N (cat QC.A (candL L (p.srcs.take i) ins day p.stale))), (6, Blk.row 31 68 PA), (3000, Blk.own (.slice sa n sc) 51 72 n (cat QC.A L))], p.srcs.length, ⟨_, _, ⟨0, .slice none 0 0, 0, by omega, by omega, rfl, .nil, rfl, rfl⟩, ⟨rfl, rfl, rfl, rfl, rfl, rfl, trivial⟩, ⟨.inr ⟨rfl, rfl, rfl⟩, rfl, .inl rfl, trivial⟩, rfl⟩, ?_⟩
  rintro q f m ⟨i, y, N, rfl, hi, hN, hy, rfl, rfl⟩
  refine ⟨_, G0, _, fun w' _ => run_len_sl Tryz.underlying23 w', fun h => ?_, fun h => ?_⟩
  · have h : i < p.srcs.length := by have := of_decide_eq_true h; omega
    obtain ⟨b, o, rfl, h5⟩ := h4 (by omega)
    obtain ⟨src, hsrc⟩ : ∃ y, p.srcs[i]? = some y := ⟨_, List.getElem?_eq_getElem h⟩
    have hE' : VOk (envC Tryz.prog tt Tryz.f119.ntmps w X (tiedK [] β)) := tt_ok
    have L1 := lst_at hE' h5 strA_size hsrc (j := 0) (v := .string (S src)) rfl (ty := 9) (ti := ti9) rfl rfl (p := offAt o ((i : Nat) : Int) ti9.size) (off_one o i)
    have C2 := C1 (envC Tryz.prog tt Tryz.f119.ntmps w X (tiedK [] β)).toEnv rfl (.slice sa n sc) L n hsn hlv ⟨hst.1, hst.2.1⟩ src c3.1 c3.2
    have NF := (rowQ (candOf ins day p.stale L src)).fits
    refine ⟨_, G0, by omega, by omega, .inl ⟨_, L1, .inr (.inr (.inl ⟨[], [_, _, _, _, _], [_], _, [_], C2, rfl, ⟨.inl rfl, trivial⟩, rfl, rfl, NF, by kernel_rfl, fun k1 => ?_, fun k1 => ?_⟩))⟩⟩
    · have k1 : (candOf ins day p.stale L src).isSome = true := k1
      obtain ⟨z, hB⟩ := Option.isSome_iff_exists.1 k1
      rw [hB]
      have F1 := fill_quo1 z
      have F2 := z.fits.one
      have F3 := z.ext72
      have F4 : z.A.size = 1 * 72 := z.size
      have F5 : cat QC.A (candL L (p.srcs.take i) ins day p.stale) ++ z.A = cat QC.A (candL L (p.srcs.take (i + 1)) ins day p.stale) := by
        rw [candL_some hsrc hB, cat_append, cat_one]
      have F6 := congrArg List.length (candL_some hsrc hB)
      have hl := candL_len L (p.srcs.take i) ins day p.stale
      change _ = _ at F6
      rw [List.length_append, ← hN] at F6
      rw [← hN, List.length_take] at hl
      refine .inl ⟨by decide, by decide, _, F1, F4, by decide, 4000, N, _, .inl rfl, by decide, F2, F4, _, F3, ?_⟩
      obtain ⟨q, hq, hb⟩ := info_quo
      refine ⟨by omega, by unfold maxLen; omega, ⟨q, hq, by rw [hb]; omega⟩, trivial, fun g2 cap2 => ?_⟩
      exact ⟨p.srcs.length - (i + 1), _, _, by omega, ⟨i + 1, _, N + 1, rfl, by omega, F6.symm, .some, rfl, rfl⟩, ⟨rfl, rfl, rfl, rfl, rfl, c_int (i64_succ (by omega)), trivial⟩, ⟨.inl (own_eq F5), rfl, .inl rfl, trivial⟩, rfl⟩
    · have k1 : (candOf ins day p.stale L src).isSome = false := k1
      have hB : candOf ins day p.stale L src = none := Option.isNone_iff_eq_none.1 (by simpa using k1)
      have e1 := candL_none hsrc hB
      exact ⟨p.srcs.length - (i + 1), _, _, by omega, ⟨i + 1, y, N, rfl, by omega, by rw [e1]; exact hN, hy, rfl, rfl⟩, ⟨rfl, rfl, rfl, rfl, rfl, c_int (i64_succ (by omega)), trivial⟩, ⟨.inl (own_eq (by rw [e1])), rfl, .inl rfl, trivial⟩, rfl⟩
  · have h : i = p.srcs.length := by have := of_decide_eq_false h; omega
    subst h
    rw [List.take_length] at hN ⊢
    exact ⟨[(4000, Blk.own y 51 72 N (cat QC.A (candL L p.srcs ins day p.stale)))], [], ⟨y, N, hN, rfl, hy, rfl⟩, ⟨.inl rfl, trivial⟩, rfl⟩
end Go.Proofs.YtjkgmglmgndaoaaGreatDoor
namespace Go.Proofs.YtjkgmglmgndaoaaGreatDoor
open Go Go.RowKit Go.SX
theorem runs_slnil {E : Env} {t : TypeId} {x y : Operand} {e : TypeId} (hu : E.P.underlying t = some (.slice e)) {ad : Addr} {n c : Nat} : Runs E (do eqGuard .eql t x y (.slice (some ad) n c) (.slice none 0 0); binOp .eql t (.slice (some ad) n c) (.slice none 0 0)) (.bool false) := fun w _ => by
  have h1 : (eqGuard .eql t x y (.slice (some ad) n c) (.slice none 0 0)).run E.P w = .ok () w := by simp [eqGuard]
  have h2 : (Op.equal t (.slice (some ad) n c) (.slice none 0 0)).run E.P w = .ok false w := by
    show (Op.equalIn (9999 + 1) t _ _).run E.P w = _
    rw [Op.equalIn]
    simp only [Sem.run_bind, run_underlying hu, Result.andThen_ok, Sem.run_pure]
  have h3 : binOp .eql t (.slice (some ad) n c) (.slice none 0 0) = (do pure (.bool (← Op.equal t (.slice (some ad) n c) (.slice none 0 0)))) := rfl
  rw [Sem.run_bind, h1, h3]
  simp [h2]
theorem QC.all1 (a : QC) : a.A.all (·.oneCell') = true := a.one
def OwnLQ (key : Key) (n : Nat) (A : Array Value) (x : Value) (U : MemL) : Prop := IsL x n ∧ U = [(key, Blk.own x 51 72 n A)]
set_option smartUnfolding false in
set_option maxRecDepth 100000 in
theorem clone_q {E : Env} (hE : E.P = Tryz.prog) {v : Value} {n : Nat} {A : Array Value} (hv : Lst E v 72 n A) (hn : 0 < n) (hm : n ≤ 1000000000) : OwnC E 55 [SV.c v] [] (OwnLQ 6000 n A) := by
  refine sx_ownC [] tt_ok mixed at55 E hE [SV.c v] [] _ rfl rfl fun w X β hT => ?_
  have hv' := hv.of_old hT
  obtain ⟨a, cap, rfl, hc, h4⟩ := id hv'.shape
  obtain ⟨b, o, rfl, h5⟩ := h4 hn
  refine ⟨_, runs_slnil Tryz.underlying22, nofun, fun _ => ?_⟩
  refine build_none tt_ok rfl rfl (i := ti22) rfl rfl (j := ti51) rfl 6000 rfl trivial fun g => ?_
  obtain ⟨q, hq, hb⟩ := info_quo
  refine ⟨by decide, 6000, 0, #[], .inl rfl, .inr ⟨[], n, A, src_lst hv' hn, by omega, by unfold maxLen; omega, ⟨q, hq, by rw [hb]; omega⟩, trivial, fun g2 cap2 => ?_⟩⟩
  exact ⟨[(6000, Blk.own (.slice (some ⟨g2, 0, none⟩) (0 + n) cap2) 51 72 (0 + n) (#[] ++ A))], [], ⟨by rw [Nat.zero_add]; exact .some, by rw [show (#[] ++ A : Array Value) = A by simp, Nat.zero_add]; rfl⟩, ⟨.inl rfl, trivial⟩, rfl⟩
theorem off_z (o : Nat) : offAt o 0 ti51.size + 2 = o + 0 * 72 + 2 := by
  show offAt o 0 72 + 2 = _
  cases o <;> simp [offAt]
set_option smartUnfolding false in
set_option maxRecDepth 100000 in
/-- the question of the choice: is the currency another one -/
theorem other_q {E : Env} (hE : E.P = Tryz.prog) {z : QC} {v : Value} {L : List QC} (hv : Lst E v 72 L.length (cat QC.A L)) (hn : 0 < L.length) : OwnC E 56 [SV.c (.agg z.A), SV.ptr 7000 0] [(7000, Blk.row 22 1 #[v])] (fun x U => x = .bool (!decide (z.cur = curH L)) ∧ U = [(7000, Blk.row 22 1 #[v])]) := by
  refine sx_ownC [] tt_ok mixed at56 E hE [SV.c (.agg z.A), SV.ptr 7000 0] [(7000, Blk.row 22 1 #[v])] _ rfl rfl fun w X β hT => ?_
  have hv' := hv.of_old hT
  have Z2 := z.g2
  have ZF := z.fits
  generalize z.A = ZA at *
  obtain ⟨a, cap, rfl, hc, h4⟩ := id hv'.shape
  obtain ⟨b, o, rfl, h5⟩ := h4 hn
  obtain ⟨y, hy⟩ : ∃ y, L[0]? = some y := ⟨_, List.getElem?_eq_getElem hn⟩
  have hE' : VOk (envC Tryz.prog tt Tryz.f56.ntmps w X (tiedK [(7000, Blk.row 22 1 #[Value.slice (some ⟨b, o, none⟩) L.length cap])] β)) := tt_ok
  have L1 := lst_at hE' h5 QC.size hy y.g2 (ty := 9) (ti := ti9) rfl rfl (p := offAt o 0 ti51.size + 2) (off_z o)
  have ec : curH L = y.cur := by
    unfold curH
    cases L with
    | nil => cases hy
    | cons z0 r => simp at hy; subst hy; rfl
  refine ⟨ZF.size, _, Z2, _, rfl, by decide, by omega, .inl ⟨_, L1, ?_⟩⟩
  refine ⟨by kernel_rfl, [(7000, Blk.row 22 1 #[Value.slice (some ⟨b, o, none⟩) L.length cap])], [], ⟨?_, rfl⟩, ⟨rfl, trivial⟩, rfl⟩
  rw [ec, ← S_beq]
  rfl
set_option smartUnfolding false in
set_option maxRecDepth 100000 in
/-- the first of another currency; the list asked is the call's own -/
theorem indexF_q {E : Env} (hE : E.P = Tryz.prog) {x v : Value} {L M : List QC} {n : Nat} (hnM : n = M.length) (hM : M.length ≤ 1000) (hv : Lst E v 72 L.length (cat QC.A L)) (hn : 0 < L.length) (hx : IsL x n) : OwnC E 88 [SV.c x, SV.clo 56 [7000]] [(7000, Blk.row 22 1 #[v]), (6000, Blk.own x 51 72 n (cat QC.A M))] (fun r U => (∃ i : Int, r = .int .i64 i ∧ ((i = -1 ∧ ∀ z ∈ M, z.cur = curH L) ∨ (∃ j : Nat, i = j ∧ j < M.length ∧ (∀ z ∈ M.take j, z.cur = curH L) ∧ ∃ z, M[j]? = some z ∧ z.cur ≠ curH L))) ∧ U = [(7000, Blk.row 22 1 #[v]), (6000, Blk.own x 51 72 n (cat QC.A M))]) := by
  obtain ⟨xa, xc, rfl⟩ := hx.len
  refine sx_ownC [] tt_ok mixed at88 E hE [SV.c (.slice xa n xc), SV.clo 56 [7000]] [(7000, Blk.row 22 1 #[v]), (6000, Blk.own (.slice xa n xc) 51 72 n (cat QC.A M))] _ rfl rfl fun w X β hT => ?_
  have hv' := hv.of_old hT
  refine ⟨_, fun w' _ => run_len_sl Tryz.underlying22 w', ?_⟩
  refine ⟨fun q f m => ∃ (j : Nat), q = M.length - j ∧ j ≤ M.length ∧ (∀ z ∈ M.take j, z.cur = curH L) ∧ f = [(0, SV.c (.slice xa n xc)), (1, SV.clo 56 [7000]), (7, SV.c (.int .i64 (n : Nat))), (8, SV.c (.int .i64 (j : Nat)))] ∧ m = [(7000, Blk.row 22 1 #[v]), (6000, Blk.own (.slice xa n xc) 51 72 n (cat QC.A M))], M.length, ⟨_, _, ⟨0, by omega, by omega, by simp, rfl, rfl⟩, ⟨rfl, rfl, rfl, rfl, trivial⟩, ⟨rfl, .inl rfl, trivial⟩, rfl⟩, ?_⟩
  rintro q f m ⟨j, rfl, hj, hno, rfl, rfl⟩
  refine ⟨fun h => ?_, fun h => ?_⟩
  · have h : j < n := by have := of_decide_eq_true h; omega
    obtain ⟨z, hz⟩ : ∃ z, M[j]? = some z := ⟨_, List.getElem?_eq_getElem (by omega)⟩
    rcases hx with ⟨hs1, hs2⟩ | ⟨g0, c0, hs1⟩
    · omega
    cases hs1
    have L2 := cat_extract QC.size hz
    have hjn : j * 72 + 72 ≤ (cat QC.A M).size := by rw [Go.SX.cat_size QC.size]; omega
    have Q1 := other_q (E := (envC Tryz.prog tt Tryz.f88.ntmps w X (tiedK [(7000, Blk.row 22 1 #[v]), (6000, Blk.own (.slice (some ⟨g0, 0, none⟩) n xc) 51 72 n (cat QC.A M))] β)).toEnv) rfl (z := z) hv' hn
    generalize hX : cat QC.A M = XA at *
    generalize hY : z.A = ZA at *
    refine ⟨by omega, by omega, .inr ⟨6000, g0, _, n, _, _, _, _, rfl, rfl, (by rw [off72]; exact hjn), ZA, (by rw [off72]; exact L2), .inr (.inr (.inl ⟨[], [_, _], [_], _, [_], Q1, rfl, ⟨rfl, trivial⟩, rfl, rfl, fun c => ?_, fun c => ?_⟩))⟩⟩
    · have c := bnot_t c
      have c := of_decide_eq_false c
      exact ⟨[(7000, Blk.row 22 1 #[v]), (6000, Blk.own (.slice (some ⟨g0, 0, none⟩) n xc) 51 72 n XA)], [], ⟨⟨_, rfl, .inr ⟨j, rfl, by omega, hno, z, hz, c⟩⟩, rfl⟩, ⟨rfl, .inl rfl, trivial⟩, rfl⟩
    · have c := bnot_f c
      have c := of_decide_eq_true c
      refine ⟨M.length - (j + 1), _, _, by omega, ⟨j + 1, rfl, by omega, ?_, rfl, rfl⟩, ⟨rfl, rfl, rfl, c_int (i64_succ (by omega)), trivial⟩, ⟨rfl, .inl rfl, trivial⟩, rfl⟩
      intro z' hz'
      rw [List.take_add_one, hz] at hz'
      rcases List.mem_append.1 hz' with h9 | h9
      · exact hno z' h9
      · simp at h9; subst h9; exact c
  · have h : j = n := by have := of_decide_eq_false h; omega
    refine ⟨[(7000, Blk.row 22 1 #[v]), (6000, Blk.own (.slice xa n xc) 51 72 n (cat QC.A M))], [], ⟨⟨_, rfl, .inl ⟨rfl, ?_⟩⟩, rfl⟩, ⟨rfl, .inl rfl, trivial⟩, rfl⟩
    rw [List.take_of_length_le (by omega)] at hno
    exact hno
end Go.Proofs.YtjkgmglmgndaoaaGreatDoor
