/- what came in: quotes and policies. made quotes. made books and policies. made books and policies. the law SelectorPlays, walk. plain laws of chosen candidates. the drawn candidates. drawn candidates: valid, and all of them counted. the law SelectorSpoilt, walk. the law SelectorMajority, walk. ref14.At. the law SelectorSingle: plain laws and walk; no condition. -/
import Derived.Test.YtinojijgeabfnaaGreatDoorP34
import Derived.Test.YtinojijgeabfnaaGreatDoorP25
import Derived.Test.YtinojijgeabfnaaGreatDoorP14
import Derived.Test.YtinojijgeabfnaaGreatDoorP27
import Derived.Test.YtinojijgeabfnaaGreatDoorP9
namespace Go.Proofs.YtinojijgeabfnaaGreatDoor
open Go Go.RowKit Go.SX
open ChangeShapes WideShapes
instance : Inhabited QC := ⟨noQ⟩
end Go.Proofs.YtinojijgeabfnaaGreatDoor
namespace Go.Proofs.YtinojijgeabfnaaGreatDoor
open Go Go.RowKit Go.SX
def papers : List (List UInt8) := [[65, 67, 77, 69], [66, 79, 78, 68], [71, 79, 76, 68], [88, 49], [69, 85, 82, 85, 83, 68], [85, 83, 68, 71, 66, 80]]
def usdgbp : List UInt8 := [85, 83, 68, 71, 66, 80]
def eurusd : List UInt8 := [69, 85, 82, 85, 83, 68]
set_option smartUnfolding false in
set_option maxRecDepth 100000 in
theorem paper_g : Gen 23 [] 1 (RS (· ∈ papers)) := by
  intro zs k hk
  obtain ⟨r1, k1, a1, b1, ⟨l, rfl, c1⟩, O1⟩ := one_g (xs := papers) (by decide) (by decide) zs k (by omega)
  refine ⟨_, k1, by omega, by omega, ⟨l, rfl, c1⟩, fun E v d hE hv => ?_⟩
  refine sx_ownT1 [] tt_ok mixed at23 E hE d (48, 2, tb v k, tb v k1) [SV.ptr 1000 0] _ rfl rfl fun w b hT => ?_
  have hv := hv.of_old hE.symm hT
  exact ⟨by decide, by decide, strs papers, by kernel_rfl, rfl, .inr ⟨_, _, _, O1 _ v 1000 4 (by decide) rfl hv, ⟨rfl, rfl, trivial⟩, rfl, rfl, rfl, trivial⟩⟩
theorem run_max_ct {P : Program} {ats : Array TypeId} {ty : TypeId} {cs : Array Bool} (x y : Int) (w : World) : (builtin .max ats ty cs #[.int .i64 x, .int .i64 y]).run P w = .ok (.value (.int .i64 (max x y))) w := by
  simp [builtin, Go.Lib.run_max_ints]
theorem QC.set2 (a : QC) (l : List UInt8) : a.A.setIfInBounds (0 + 2) (.string (S l)) = ({ a with cur := l } : QC).A := by kernel_rfl
theorem QC.set71 (a : QC) (b : Bool) : a.A.setIfInBounds (0 + 71) (.bool b) = ({ a with void := b } : QC).A := by kernel_rfl
theorem QC.setpri (a : QC) (r : RQ) : splice a.A (0 + 4) r.A.toList = ({ a with price := r } : QC).A := by kernel_rfl
theorem fill_q (src ins : List UInt8) (day known : Int) (r : RQ) {pl : List (Nat × Nat)} (hpl : pl = [(0, 1), (1, 1), (2, 1), (3, 1), (4, 66), (70, 1), (71, 1)]) : Instr.fill (fun k => pl[k]?) ti40.zero [(0, .string (S src)), (1, .string (S ins)), (2, .string (S [85, 83, 68])), (3, .int .i64 day), (4, .agg r.A), (5, .int .i64 known)] = some (QC.A ⟨src, ins, [85, 83, 68], day, r, known, false⟩) := by
  subst hpl
  kernel_rfl
/-- a quote that is made -/
def isQuote (day known : Int) (q : QC) : Prop := q.src ∈ src4 ∧ q.ins ∈ papers ∧ q.cur ∈ ([[85, 83, 68], [69, 85, 82], [71, 66, 80]] : List (List UInt8)) ∧ (0 ≤ q.day ∧ (q.day ≤ day ∨ q.day = 0)) ∧ q.known = known ∧ ((q.void = false ∧ isPrice q.price) ∨ (q.void = true ∧ q.price = zeroQ))
def RQt (P : QC → Prop) (r : Value) : Prop := ∃ q : QC, r = .agg q.A ∧ P q
theorem zeroQ_fits : Fits zeroQ.A 66 := zeroQ.A_fits
set_option smartUnfolding false in
set_option maxRecDepth 100000 in
theorem code_c : Gen 70 [] 1 (RS (· ∈ ([[85, 83, 68], [69, 85, 82], [71, 66, 80]] : List (List UInt8)))) := by
  intro zs k hk
  obtain ⟨r1, k1, a1, b1, ⟨l, rfl, c1⟩, O1⟩ := one_g (xs := [[85, 83, 68], [85, 83, 68], [69, 85, 82], [71, 66, 80]]) (by decide) (by decide) zs k (by omega)
  refine ⟨_, k1, by omega, by omega, ⟨l, rfl, by simp at c1 ⊢; exact c1⟩, fun E v d hE hv => ?_⟩
  refine sx_ownT1 [] tt_ok mixed at70 E hE d (48, 2, tb v k, tb v k1) [SV.ptr 1000 0] _ rfl rfl fun w b hT => ?_
  have hv := hv.of_old hE.symm hT
  exact ⟨by decide, by decide, strs [[85, 83, 68], [85, 83, 68], [69, 85, 82], [71, 66, 80]], by kernel_rfl, rfl, .inr ⟨_, _, _, O1 _ v 1000 4 (by decide) rfl hv, ⟨rfl, rfl, trivial⟩, rfl, rfl, rfl, trivial⟩⟩
set_option smartUnfolding false in
set_option maxRecDepth 100000 in
set_option maxHeartbeats 4000000 in
theorem quote_g {day known : Int} (hd : 0 ≤ day ∧ day ≤ 1000000) : Gen 35 [SV.c (.int .i64 day), SV.c (.int .i64 known)] 20 (RQt (isQuote day known)) := by
  intro zs k hk
  obtain ⟨r1, k1, a1, b1, ⟨i1, rfl, c1⟩, O1⟩ := next_g (n := 4) (by decide) zs k (by omega)
  obtain ⟨r2, k2, a2, b2, ⟨ins, rfl, c2⟩, O2⟩ := paper_g zs k1 (by omega)
  obtain ⟨r3, k3, a3, b3, ⟨i3, rfl, c3⟩, O3⟩ := pick_g (xs := [0, 0, 0, 1, 2, 5]) (by decide) (by decide) zs k2 (by omega)
  obtain ⟨r4, k4, a4, b4, ⟨price, rfl, c4⟩, O4⟩ := price_g zs k3 (by omega)
  have h3 : 0 ≤ i3 ∧ i3 ≤ 5 := by simp at c3; omega
  obtain ⟨j1, rfl⟩ : ∃ j : Nat, i1 = j := ⟨i1.toNat, by omega⟩
  obtain ⟨src, hs⟩ : ∃ s, src4[j1]? = some s := ⟨_, List.getElem?_eq_getElem (show j1 < 4 by omega)⟩
  have hsm : src ∈ src4 := List.mem_of_getElem? hs
  have g1 : (cat strA src4)[offAt 0 ((j1 : Nat) : Int) ti9.size]? = some (.string (S src)) := by
    have := cat_get strA_size src4 j1 src 0 hs (by decide)
    rw [off_one 0 j1]
    simpa [strA] using this
  have e3 : IntKind.i64.wrap (day - i3) = day - i3 := i64_in (by omega)
  have F1 := fill_q src ins (max 0 (day - i3)) known price (pl := [(0, 1), (1, 1), (2, 1), (3, 1), (4, 66), (70, 1), (71, 1)]) rfl
  rw [← e3] at F1
  generalize hz : (⟨src, ins, [85, 83, 68], max 0 (IntKind.i64.wrap (day - i3)), price, known, false⟩ : QC) = z at F1
  have zsrc : z.src = src := by rw [← hz]
  have zins : z.ins = ins := by rw [← hz]
  have zday : 0 ≤ z.day ∧ (z.day ≤ day ∨ z.day = 0) := by
    rw [← hz, e3]
    show 0 ≤ max 0 (day - i3) ∧ (max 0 (day - i3) ≤ day ∨ max 0 (day - i3) = 0)
    omega
  have zkn : z.known = known := by rw [← hz]
  have zvo : z.void = false := by rw [← hz]
  have zpr : z.price = price := by rw [← hz]
  have zcu : z.cur = [85, 83, 68] := by rw [← hz]
  have mem0 : ([85, 83, 68] : List UInt8) ∈ ([[85, 83, 68], [69, 85, 82], [71, 66, 80]] : List (List UInt8)) := by decide
  have mem1 : ([71, 66, 80] : List UInt8) ∈ ([[85, 83, 68], [69, 85, 82], [71, 66, 80]] : List (List UInt8)) := by decide
  clear hz
  have isq : ∀ (cur : List UInt8), cur ∈ ([[85, 83, 68], [69, 85, 82], [71, 66, 80]] : List (List UInt8)) → isQuote day known { z with cur := cur } := fun cur h => ⟨by rw [zsrc]; exact hsm, by rw [zins]; exact c2, h, zday, zkn, .inl ⟨zvo, by rw [zpr]; exact c4⟩⟩
  have isv : ∀ (cur : List UInt8), cur ∈ ([[85, 83, 68], [69, 85, 82], [71, 66, 80]] : List (List UInt8)) → isQuote day known { z with cur := cur, void := true, price := zeroQ } := fun cur h => ⟨by rw [zsrc]; exact hsm, by rw [zins]; exact c2, h, zday, zkn, .inr ⟨rfl, rfl⟩⟩
  have ZF := z.fits
  have Z1 := z.g1
  rw [zins] at Z1
  have nu : ins ≠ usdgbp → ((S ins).toList == (S usdgbp).toList) = false := fun h => by rw [S_beq]; exact decide_eq_false h
  have ne : ins ≠ eurusd → (!((S ins).toList == (S eurusd).toList)) = true := fun h => by rw [S_beq, decide_eq_false h]; rfl
  have ee : ins = eurusd → (!((S ins).toList == (S eurusd).toList)) = false := fun h => by rw [S_beq, decide_eq_true h]; rfl
  have zself : ({ z with cur := [85, 83, 68] } : QC) = z := by rw [← zcu]
  by_cases hg : ins = usdgbp
  · subst hg
    obtain ⟨rv, k5, av, bv, ⟨void, rfl⟩, O5⟩ := chance_g (a := 1) (b := 9) (by decide) zs k4 (by omega)
    cases void
    · refine ⟨_, k5, by omega, by omega, ⟨{ z with cur := [71, 66, 80] }, rfl, isq _ mem1⟩, fun E v d hE hv => ?_⟩
      refine sx_ownT1 [] tt_ok mixed at35 E hE d (48, 2, tb v k, tb v k5) [SV.ptr 1000 0, SV.c (.int .i64 day), SV.c (.int .i64 known)] _ rfl rfl fun w b hT => ?_
      have hv := hv.of_old hE.symm hT
      have S2 := QC.set2 z [71, 66, 80]
      have ZG := ({ z with cur := [71, 66, 80] } : QC).fits
      generalize QC.A { z with cur := [71, 66, 80] } = ZB at *
      generalize z.A = ZA at *
      refine .inr ⟨_, _, _, sources_o _ rfl 7777, trivial, rfl, .inr ⟨_, _, _, O1 _ v 1000 rfl hv, ⟨rfl, trivial⟩, rfl, ?_⟩⟩
      refine ⟨by omega, by omega, _, g1, .inr ⟨_, _, _, O2 _ v 1000 rfl hv, ⟨rfl, trivial⟩, rfl, by decide, by decide, ints [0, 0, 0, 1, 2, 5], by kernel_rfl, rfl, .inr ⟨_, _, _, O3 _ v 1000 17 (by decide) rfl hv, ⟨rfl, rfl, trivial⟩, rfl, _, fun w' _ => run_max_ct _ _ w', .inr ⟨_, _, _, O4 _ v 1000 rfl hv, ⟨rfl, trivial⟩, rfl, _, F1, ZF, ?_⟩⟩⟩⟩
      exact ⟨by kernel_rfl, _, Z1, fun _ => ⟨by decide, rfl, ZB, S2, .inr ⟨_, _, _, O5 _ v 1000 rfl hv, ⟨rfl, trivial⟩, rfl, fun h => absurd h (by decide), fun _ => ⟨ZG, rfl, rfl, trivial⟩⟩⟩, fun h => absurd ((s_self usdgbp).symm.trans h) (by decide)⟩
    · refine ⟨_, k5, by omega, by omega, ⟨{ z with cur := [71, 66, 80], void := true, price := zeroQ }, rfl, isv _ mem1⟩, fun E v d hE hv => ?_⟩
      refine sx_ownT1 [] tt_ok mixed at35 E hE d (48, 2, tb v k, tb v k5) [SV.ptr 1000 0, SV.c (.int .i64 day), SV.c (.int .i64 known)] _ rfl rfl fun w b hT => ?_
      have hv := hv.of_old hE.symm hT
      have S2 := QC.set2 z [71, 66, 80]
      have ZG := ({ z with cur := [71, 66, 80] } : QC).fits
      have S3 := QC.set71 { z with cur := [71, 66, 80] } true
      have S4 := QC.setpri { z with cur := [71, 66, 80], void := true } zeroQ
      have ZH := ({ z with cur := [71, 66, 80], void := true, price := zeroQ } : QC).fits
      generalize QC.A { z with cur := [71, 66, 80], void := true, price := zeroQ } = ZD at *
      generalize QC.A { z with cur := [71, 66, 80], void := true } = ZC at *
      generalize QC.A { z with cur := [71, 66, 80] } = ZB at *
      generalize z.A = ZA at *
      refine .inr ⟨_, _, _, sources_o _ rfl 7777, trivial, rfl, .inr ⟨_, _, _, O1 _ v 1000 rfl hv, ⟨rfl, trivial⟩, rfl, ?_⟩⟩
      refine ⟨by omega, by omega, _, g1, .inr ⟨_, _, _, O2 _ v 1000 rfl hv, ⟨rfl, trivial⟩, rfl, by decide, by decide, ints [0, 0, 0, 1, 2, 5], by kernel_rfl, rfl, .inr ⟨_, _, _, O3 _ v 1000 17 (by decide) rfl hv, ⟨rfl, rfl, trivial⟩, rfl, _, fun w' _ => run_max_ct _ _ w', .inr ⟨_, _, _, O4 _ v 1000 rfl hv, ⟨rfl, trivial⟩, rfl, _, F1, ZF, ?_⟩⟩⟩⟩
      exact ⟨by kernel_rfl, _, Z1, fun _ => ⟨by decide, rfl, ZB, S2, .inr ⟨_, _, _, O5 _ v 1000 rfl hv, ⟨rfl, trivial⟩, rfl, fun _ => ⟨_, rfl, by decide, rfl, ZC, S3, by decide, zeroQ_fits, ZD, S4, ZH, rfl, rfl, trivial⟩, fun h => absurd h (by decide)⟩⟩, fun h => absurd ((s_self usdgbp).symm.trans h) (by decide)⟩
  by_cases he : ins = eurusd
  · obtain ⟨rv, k5, av, bv, ⟨void, rfl⟩, O5⟩ := chance_g (a := 1) (b := 9) (by decide) zs k4 (by omega)
    cases void
    · refine ⟨_, k5, by omega, by omega, ⟨z, rfl, (by have := isq _ mem0; rw [zself] at this; exact this)⟩, fun E v d hE hv => ?_⟩
      refine sx_ownT1 [] tt_ok mixed at35 E hE d (48, 2, tb v k, tb v k5) [SV.ptr 1000 0, SV.c (.int .i64 day), SV.c (.int .i64 known)] _ rfl rfl fun w b hT => ?_
      have hv := hv.of_old hE.symm hT
      have ZG := z.fits
      generalize z.A = ZA at *
      refine .inr ⟨_, _, _, sources_o _ rfl 7777, trivial, rfl, .inr ⟨_, _, _, O1 _ v 1000 rfl hv, ⟨rfl, trivial⟩, rfl, ?_⟩⟩
      refine ⟨by omega, by omega, _, g1, .inr ⟨_, _, _, O2 _ v 1000 rfl hv, ⟨rfl, trivial⟩, rfl, by decide, by decide, ints [0, 0, 0, 1, 2, 5], by kernel_rfl, rfl, .inr ⟨_, _, _, O3 _ v 1000 17 (by decide) rfl hv, ⟨rfl, rfl, trivial⟩, rfl, _, fun w' _ => run_max_ct _ _ w', .inr ⟨_, _, _, O4 _ v 1000 rfl hv, ⟨rfl, trivial⟩, rfl, _, F1, ZF, ?_⟩⟩⟩⟩
      exact ⟨by kernel_rfl, _, Z1, fun h => absurd ((nu hg).symm.trans h) (by decide), fun _ => ⟨_, Z1, fun h => absurd ((ee he).symm.trans h) (by decide), fun _ => ⟨fun h => absurd h (by decide), fun _ => .inr ⟨_, _, _, O5 _ v 1000 rfl hv, ⟨rfl, trivial⟩, rfl, fun h => absurd h (by decide), fun _ => ⟨ZG, rfl, rfl, trivial⟩⟩⟩⟩⟩
    · refine ⟨_, k5, by omega, by omega, ⟨{ z with void := true, price := zeroQ }, rfl, (by have := isv _ mem0; rw [show ({ z with cur := [85, 83, 68], void := true, price := zeroQ } : QC) = { z with void := true, price := zeroQ } by rw [← zcu]] at this; exact this)⟩, fun E v d hE hv => ?_⟩
      refine sx_ownT1 [] tt_ok mixed at35 E hE d (48, 2, tb v k, tb v k5) [SV.ptr 1000 0, SV.c (.int .i64 day), SV.c (.int .i64 known)] _ rfl rfl fun w b hT => ?_
      have hv := hv.of_old hE.symm hT
      have ZG := z.fits
      have S3 := QC.set71 z true
      have S4 := QC.setpri { z with void := true } zeroQ
      have ZH := ({ z with void := true, price := zeroQ } : QC).fits
      generalize QC.A { z with void := true, price := zeroQ } = ZD at *
      generalize QC.A { z with void := true } = ZC at *
      generalize z.A = ZA at *
      refine .inr ⟨_, _, _, sources_o _ rfl 7777, trivial, rfl, .inr ⟨_, _, _, O1 _ v 1000 rfl hv, ⟨rfl, trivial⟩, rfl, ?_⟩⟩
      refine ⟨by omega, by omega, _, g1, .inr ⟨_, _, _, O2 _ v 1000 rfl hv, ⟨rfl, trivial⟩, rfl, by decide, by decide, ints [0, 0, 0, 1, 2, 5], by kernel_rfl, rfl, .inr ⟨_, _, _, O3 _ v 1000 17 (by decide) rfl hv, ⟨rfl, rfl, trivial⟩, rfl, _, fun w' _ => run_max_ct _ _ w', .inr ⟨_, _, _, O4 _ v 1000 rfl hv, ⟨rfl, trivial⟩, rfl, _, F1, ZF, ?_⟩⟩⟩⟩
      exact ⟨by kernel_rfl, _, Z1, fun h => absurd ((nu hg).symm.trans h) (by decide), fun _ => ⟨_, Z1, fun h => absurd ((ee he).symm.trans h) (by decide), fun _ => ⟨fun h => absurd h (by decide), fun _ => .inr ⟨_, _, _, O5 _ v 1000 rfl hv, ⟨rfl, trivial⟩, rfl, fun _ => ⟨_, rfl, by decide, rfl, ZC, S3, by decide, zeroQ_fits, ZD, S4, ZH, rfl, rfl, trivial⟩, fun h => absurd h (by decide)⟩⟩⟩⟩
  obtain ⟨r5, k5, a5, b5, ⟨ch, rfl⟩, O5⟩ := chance_g (a := 1) (b := 4) (by decide) zs k4 (by omega)
  cases ch
  · obtain ⟨rv, k6, av, bv, ⟨void, rfl⟩, O7⟩ := chance_g (a := 1) (b := 9) (by decide) zs k5 (by omega)
    cases void
    · refine ⟨_, k6, by omega, by omega, ⟨z, rfl, (by have := isq _ mem0; rw [zself] at this; exact this)⟩, fun E v d hE hv => ?_⟩
      refine sx_ownT1 [] tt_ok mixed at35 E hE d (48, 2, tb v k, tb v k6) [SV.ptr 1000 0, SV.c (.int .i64 day), SV.c (.int .i64 known)] _ rfl rfl fun w b hT => ?_
      have hv := hv.of_old hE.symm hT
      have ZG := z.fits
      generalize z.A = ZA at *
      refine .inr ⟨_, _, _, sources_o _ rfl 7777, trivial, rfl, .inr ⟨_, _, _, O1 _ v 1000 rfl hv, ⟨rfl, trivial⟩, rfl, ?_⟩⟩
      refine ⟨by omega, by omega, _, g1, .inr ⟨_, _, _, O2 _ v 1000 rfl hv, ⟨rfl, trivial⟩, rfl, by decide, by decide, ints [0, 0, 0, 1, 2, 5], by kernel_rfl, rfl, .inr ⟨_, _, _, O3 _ v 1000 17 (by decide) rfl hv, ⟨rfl, rfl, trivial⟩, rfl, _, fun w' _ => run_max_ct _ _ w', .inr ⟨_, _, _, O4 _ v 1000 rfl hv, ⟨rfl, trivial⟩, rfl, _, F1, ZF, ?_⟩⟩⟩⟩
      exact ⟨by kernel_rfl, _, Z1, fun h => absurd ((nu hg).symm.trans h) (by decide), fun _ => ⟨_, Z1, fun _ => .inr ⟨_, _, _, O5 _ v 1000 rfl hv, ⟨rfl, trivial⟩, rfl, fun h => absurd h (by decide), fun _ => .inr ⟨_, _, _, O7 _ v 1000 rfl hv, ⟨rfl, trivial⟩, rfl, fun h => absurd h (by decide), fun _ => ⟨ZG, rfl, rfl, trivial⟩⟩⟩, fun h => absurd ((ne he).symm.trans h) (by decide)⟩⟩
    · refine ⟨_, k6, by omega, by omega, ⟨{ z with void := true, price := zeroQ }, rfl, (by have := isv _ mem0; rw [show ({ z with cur := [85, 83, 68], void := true, price := zeroQ } : QC) = { z with void := true, price := zeroQ } by rw [← zcu]] at this; exact this)⟩, fun E v d hE hv => ?_⟩
      refine sx_ownT1 [] tt_ok mixed at35 E hE d (48, 2, tb v k, tb v k6) [SV.ptr 1000 0, SV.c (.int .i64 day), SV.c (.int .i64 known)] _ rfl rfl fun w b hT => ?_
      have hv := hv.of_old hE.symm hT
      have ZG := z.fits
      have S3 := QC.set71 z true
      have S4 := QC.setpri { z with void := true } zeroQ
      have ZH := ({ z with void := true, price := zeroQ } : QC).fits
      generalize QC.A { z with void := true, price := zeroQ } = ZD at *
      generalize QC.A { z with void := true } = ZC at *
      generalize z.A = ZA at *
      refine .inr ⟨_, _, _, sources_o _ rfl 7777, trivial, rfl, .inr ⟨_, _, _, O1 _ v 1000 rfl hv, ⟨rfl, trivial⟩, rfl, ?_⟩⟩
      refine ⟨by omega, by omega, _, g1, .inr ⟨_, _, _, O2 _ v 1000 rfl hv, ⟨rfl, trivial⟩, rfl, by decide, by decide, ints [0, 0, 0, 1, 2, 5], by kernel_rfl, rfl, .inr ⟨_, _, _, O3 _ v 1000 17 (by decide) rfl hv, ⟨rfl, rfl, trivial⟩, rfl, _, fun w' _ => run_max_ct _ _ w', .inr ⟨_, _, _, O4 _ v 1000 rfl hv, ⟨rfl, trivial⟩, rfl, _, F1, ZF, ?_⟩⟩⟩⟩
      exact ⟨by kernel_rfl, _, Z1, fun h => absurd ((nu hg).symm.trans h) (by decide), fun _ => ⟨_, Z1, fun _ => .inr ⟨_, _, _, O5 _ v 1000 rfl hv, ⟨rfl, trivial⟩, rfl, fun h => absurd h (by decide), fun _ => .inr ⟨_, _, _, O7 _ v 1000 rfl hv, ⟨rfl, trivial⟩, rfl, fun _ => ⟨_, rfl, by decide, rfl, ZC, S3, by decide, zeroQ_fits, ZD, S4, ZH, rfl, rfl, trivial⟩, fun h => absurd h (by decide)⟩⟩, fun h => absurd ((ne he).symm.trans h) (by decide)⟩⟩
  · obtain ⟨r6, k6, a6, b6, ⟨cur, rfl, c6⟩, O6⟩ := code_c zs k5 (by omega)
    obtain ⟨rv, k7, av, bv, ⟨void, rfl⟩, O7⟩ := chance_g (a := 1) (b := 9) (by decide) zs k6 (by omega)
    cases void
    · refine ⟨_, k7, by omega, by omega, ⟨{ z with cur := cur }, rfl, isq _ c6⟩, fun E v d hE hv => ?_⟩
      refine sx_ownT1 [] tt_ok mixed at35 E hE d (48, 2, tb v k, tb v k7) [SV.ptr 1000 0, SV.c (.int .i64 day), SV.c (.int .i64 known)] _ rfl rfl fun w b hT => ?_
      have hv := hv.of_old hE.symm hT
      have S2 := QC.set2 z cur
      have ZG := ({ z with cur := cur } : QC).fits
      generalize QC.A { z with cur := cur } = ZB at *
      generalize z.A = ZA at *
      refine .inr ⟨_, _, _, sources_o _ rfl 7777, trivial, rfl, .inr ⟨_, _, _, O1 _ v 1000 rfl hv, ⟨rfl, trivial⟩, rfl, ?_⟩⟩
      refine ⟨by omega, by omega, _, g1, .inr ⟨_, _, _, O2 _ v 1000 rfl hv, ⟨rfl, trivial⟩, rfl, by decide, by decide, ints [0, 0, 0, 1, 2, 5], by kernel_rfl, rfl, .inr ⟨_, _, _, O3 _ v 1000 17 (by decide) rfl hv, ⟨rfl, rfl, trivial⟩, rfl, _, fun w' _ => run_max_ct _ _ w', .inr ⟨_, _, _, O4 _ v 1000 rfl hv, ⟨rfl, trivial⟩, rfl, _, F1, ZF, ?_⟩⟩⟩⟩
      exact ⟨by kernel_rfl, _, Z1, fun h => absurd ((nu hg).symm.trans h) (by decide), fun _ => ⟨_, Z1, fun _ => .inr ⟨_, _, _, O5 _ v 1000 rfl hv, ⟨rfl, trivial⟩, rfl, fun _ => .inr ⟨_, _, _, O6 _ v 1000 rfl hv, ⟨rfl, trivial⟩, rfl, by decide, rfl, ZB, S2, .inr ⟨_, _, _, O7 _ v 1000 rfl hv, ⟨rfl, trivial⟩, rfl, fun h => absurd h (by decide), fun _ => ⟨ZG, rfl, rfl, trivial⟩⟩⟩, fun h => absurd h (by decide)⟩, fun h => absurd ((ne he).symm.trans h) (by decide)⟩⟩
    · refine ⟨_, k7, by omega, by omega, ⟨{ z with cur := cur, void := true, price := zeroQ }, rfl, isv _ c6⟩, fun E v d hE hv => ?_⟩
      refine sx_ownT1 [] tt_ok mixed at35 E hE d (48, 2, tb v k, tb v k7) [SV.ptr 1000 0, SV.c (.int .i64 day), SV.c (.int .i64 known)] _ rfl rfl fun w b hT => ?_
      have hv := hv.of_old hE.symm hT
      have S2 := QC.set2 z cur
      have ZG := ({ z with cur := cur } : QC).fits
      have S3 := QC.set71 { z with cur := cur } true
      have S4 := QC.setpri { z with cur := cur, void := true } zeroQ
      have ZH := ({ z with cur := cur, void := true, price := zeroQ } : QC).fits
      generalize QC.A { z with cur := cur, void := true, price := zeroQ } = ZD at *
      generalize QC.A { z with cur := cur, void := true } = ZC at *
      generalize QC.A { z with cur := cur } = ZB at *
      generalize z.A = ZA at *
      refine .inr ⟨_, _, _, sources_o _ rfl 7777, trivial, rfl, .inr ⟨_, _, _, O1 _ v 1000 rfl hv, ⟨rfl, trivial⟩, rfl, ?_⟩⟩
      refine ⟨by omega, by omega, _, g1, .inr ⟨_, _, _, O2 _ v 1000 rfl hv, ⟨rfl, trivial⟩, rfl, by decide, by decide, ints [0, 0, 0, 1, 2, 5], by kernel_rfl, rfl, .inr ⟨_, _, _, O3 _ v 1000 17 (by decide) rfl hv, ⟨rfl, rfl, trivial⟩, rfl, _, fun w' _ => run_max_ct _ _ w', .inr ⟨_, _, _, O4 _ v 1000 rfl hv, ⟨rfl, trivial⟩, rfl, _, F1, ZF, ?_⟩⟩⟩⟩
      exact ⟨by kernel_rfl, _, Z1, fun h => absurd ((nu hg).symm.trans h) (by decide), fun _ => ⟨_, Z1, fun _ => .inr ⟨_, _, _, O5 _ v 1000 rfl hv, ⟨rfl, trivial⟩, rfl, fun _ => .inr ⟨_, _, _, O6 _ v 1000 rfl hv, ⟨rfl, trivial⟩, rfl, by decide, rfl, ZB, S2, .inr ⟨_, _, _, O7 _ v 1000 rfl hv, ⟨rfl, trivial⟩, rfl, fun _ => ⟨_, rfl, by decide, rfl, ZC, S3, by decide, zeroQ_fits, ZD, S4, ZH, rfl, rfl, trivial⟩, fun h => absurd h (by decide)⟩⟩, fun h => absurd h (by decide)⟩, fun h => absurd ((ne he).symm.trans h) (by decide)⟩⟩
end Go.Proofs.YtinojijgeabfnaaGreatDoor
namespace Go.Proofs.YtinojijgeabfnaaGreatDoor
open Go Go.RowKit Go.SX
def madeQ (day : Int) (a : QC) : Prop := ∃ dd kn : Int, isQuote dd kn a ∧ 0 ≤ dd ∧ dd ≤ 73048 ∧ dd ≤ day + 1
/-- a made book -/
structure IsBook (day last : Int) (xs : List QC) : Prop where
  each : ∀ a ∈ xs, madeQ day a
  up : xs.Pairwise (fun a b => a.known < b.known)
  bd : ∀ a ∈ xs, 1 ≤ a.known ∧ a.known ≤ last
theorem IsBook.snoc {day last kn dd : Int} {xs : List QC} {y : QC} (h : IsBook day last xs) (hl : 0 ≤ last) (hk : last < kn) (hy : isQuote dd kn y) (h1 : 0 ≤ dd) (h2 : dd ≤ 73048) (h3 : dd ≤ day + 1) : IsBook day kn (xs ++ [y]) := by
  have hyk : y.known = kn := hy.2.2.2.2.1
  refine ⟨fun a ha => ?_, ?_, fun a ha => ?_⟩
  · rcases List.mem_append.1 ha with h4 | h4
    · exact h.each a h4
    · have : a = y := by simpa using h4
      rw [this]; exact ⟨dd, kn, hy, h1, h2, h3⟩
  · rw [List.pairwise_append]
    refine ⟨h.up, by simp, fun a ha b hb => ?_⟩
    have : b = y := by simpa using hb
    rw [this, hyk]
    have := (h.bd a ha).2
    omega
  · rcases List.mem_append.1 ha with h4 | h4
    · have := h.bd a h4
      omega
    · have : a = y := by simpa using h4
      rw [this, hyk]; omega
theorem madeQ_in {day : Int} {a : QC} (h : madeQ day a) : a.In := by
  obtain ⟨dd, kn, ⟨h1, h2, h3, h4, h5, h6⟩, d1, d2, d3⟩ := h
  refine ⟨?_, ?_, ?_, ?_, by omega⟩
  · rcases h6 with ⟨-, h6⟩ | ⟨-, h6⟩
    · exact h6.in_
    · rw [h6]; exact zeroQ_in
  · simp [src4] at h1; rcases h1 with h | h | h | h <;> rw [h] <;> decide
  · simp [papers] at h2; rcases h2 with h | h | h | h | h | h <;> rw [h] <;> decide
  · simp at h3; rcases h3 with h | h | h <;> rw [h] <;> decide
def QuoQ (n : Nat) (k : Nat) (day : Int) (v : Value) (x : Value) (U : MemL) : Prop := ∃ (xs : List QC) (k' : Nat) (last : Int), k ≤ k' ∧ k' ≤ k + 30 * n ∧ IsL x n ∧ xs.length = n ∧ IsBook day last xs ∧ last ≤ 6 * (n : Int) ∧ (n = 0 → x = .slice none 0 0) ∧ U = [(1000, Blk.row 48 2 (tb v k')), (3000, Blk.own x 40 72 n (cat QC.A xs))]
set_option smartUnfolding false in
set_option maxRecDepth 100000 in
theorem quotes_z {E : Env} (hE : E.P = Tryz.prog) {v : Value} {zs : List Int} (hv : Tp E v zs) {n k : Nat} (hn : n ≤ 1000) (hk : k + 30 * n ≤ 4000000000000000000) {day : Int} (hday : 0 ≤ day ∧ day ≤ 73048) : OwnC E 19 [SV.ptr 1000 0, SV.c (.int .i64 (n : Nat)), SV.c (.int .i64 day)] [(1000, Blk.row 48 2 (tb v k))] (QuoQ n k day v) := by
  refine sx_ownC [] tt_ok mixed at19 E hE [SV.ptr 1000 0, SV.c (.int .i64 (n : Nat)), SV.c (.int .i64 day)] [(1000, Blk.row 48 2 (tb v k))] _ rfl rfl fun w X β hT => ?_
  have hv' : Tp (envC Tryz.prog tt Tryz.f19.ntmps w X (tiedK [(1000, Blk.row 48 2 (tb v k))] β)).toEnv v zs := hv.of_old hE.symm hT
  refine ⟨fun q f m => ∃ (i k2 : Nat) (xs : List QC) (x : Value) (known : Int), q = n - i ∧ i ≤ n ∧ k ≤ k2 ∧ k2 ≤ k + 30 * i ∧ IsL x i ∧ xs.length = i ∧ IsBook day known xs ∧ 0 ≤ known ∧ known ≤ 6 * (i : Int) ∧ (i = 0 → x = .slice none 0 0) ∧ f = [(0, SV.ptr 1000 0), (1, SV.c (.int .i64 (n : Nat))), (2, SV.c (.int .i64 day)), (7, SV.c x), (8, SV.c (.int .i64 known)), (9, SV.c (.int .i64 (i : Nat)))] ∧ m = [(1000, Blk.row 48 2 (tb v k2)), (3000, Blk.own x 40 72 i (cat QC.A xs))], n, ⟨_, _, ⟨0, k, [], .slice none 0 0, 0, by omega, by omega, by omega, by omega, .nil, rfl, ⟨fun a h => by simp at h, by simp, fun a h => by simp at h⟩, by omega, by omega, fun _ => rfl, rfl, rfl⟩, ⟨rfl, rfl, rfl, rfl, rfl, rfl, trivial⟩, ⟨rfl, .inr ⟨rfl, rfl, rfl⟩, trivial⟩, rfl⟩, ?_⟩
  rintro q f m ⟨i, k2, xs, x, known, rfl, hi, hk1, hk2, hx, hxs, hin, hkn0, hkn, hx0, rfl, rfl⟩
  refine ⟨fun h => ?_, fun h => ?_⟩
  · have h : i < n := by have := of_decide_eq_true h; omega
    obtain ⟨r3, k3, a3, b3, ⟨i3, rfl, c3⟩, O3⟩ := pick_g (xs := [0, 0, 1, 5]) (by decide) (by decide) zs k2 (by omega)
    obtain ⟨r5, k5, a5, b5, ⟨i5, rfl, c5⟩, O5⟩ := pick_g (xs := [0, 0, 0, 1]) (by decide) (by decide) zs k3 (by omega)
    have h3 : 0 ≤ i3 ∧ i3 ≤ 5 := by simp at c3; omega
    have h5 : 0 ≤ i5 ∧ i5 ≤ 1 := by simp at c5; omega
    have e5 : IntKind.i64.wrap (day + i5) = day + i5 := i64_in (by omega)
    have e3 : IntKind.i64.wrap (known + IntKind.i64.wrap (1 + i3)) = known + (1 + i3) := by rw [i64_in (show -9223372036854775808 ≤ 1 + i3 ∧ 1 + i3 ≤ 9223372036854775807 by omega), i64_in (by omega)]
    obtain ⟨r4, k4, a4, b4, ⟨y, rfl, c4⟩, O4⟩ := quote_g (day := min 73048 (day + i5)) (known := known + (1 + i3)) (by omega) zs k5 (by omega)
    have hb2 := hin.snoc hkn0 (show known < known + (1 + i3) by omega) c4 (by omega) (by omega) (by omega)
    rw [← e5, ← e3] at O4
    refine .inl ⟨by decide, by decide, ints [0, 0, 1, 5], by kernel_rfl, rfl, .inr (.inl ⟨_, _, _, O3 _ v 1000 17 (by decide) rfl hv', ⟨rfl, rfl, trivial⟩, rfl, ?_⟩)⟩
    refine .inl ⟨by decide, by decide, ints [0, 0, 0, 1], by kernel_rfl, rfl, .inr (.inl ⟨_, _, _, O5 _ v 1000 25 (by decide) rfl hv', ⟨rfl, rfl, trivial⟩, rfl, _, fun w' _ => run_min_ct _ _ w', ?_⟩)⟩
    have F1 := fill_quo1 y
    have F2 := y.fits.one
    have F3 := y.ext72
    have F4 : y.A.size = 1 * 72 := y.size
    have F5 : cat QC.A xs ++ y.A = cat QC.A (xs ++ [y]) := cat_snoc xs y
    generalize hY : y.A = YA at *
    refine .inr (.inl ⟨_, _, _, O4 _ v 1000 rfl hv', ⟨rfl, trivial⟩, rfl, .inl ⟨by decide, by decide, _, F1, F4, by decide, 3000, i, _, .inl rfl, by decide, F2, F4, _, F3, ?_⟩⟩)
    obtain ⟨q, hq, hb⟩ := info_quo
    refine ⟨by omega, by unfold maxLen; omega, ⟨q, hq, by rw [hb]; omega⟩, trivial, fun g2 cap2 => ?_⟩
    exact ⟨n - (i + 1), _, _, by omega, ⟨i + 1, k4, xs ++ [y], _, known + (1 + i3), rfl, by omega, by omega, by omega, .some, by simp [hxs], hb2, by omega, by omega, fun h => absurd h (by omega), rfl, rfl⟩, ⟨rfl, rfl, rfl, rfl, c_int e3, c_int (i64_succ (by omega)), trivial⟩, ⟨rfl, .inl (own_eq F5), trivial⟩, rfl⟩
  · have h : i = n := by have := of_decide_eq_false h; omega
    subst h
    exact ⟨[(1000, Blk.row 48 2 (tb v k2)), (3000, Blk.own x 40 72 i (cat QC.A xs))], [], ⟨xs, k2, known, by omega, by omega, hx, hxs, hin, hkn, hx0, rfl⟩, ⟨rfl, .inl rfl, trivial⟩, rfl⟩
end Go.Proofs.YtinojijgeabfnaaGreatDoor
namespace Go.Proofs.YtinojijgeabfnaaGreatDoor
open Go Go.RowKit Go.SX
theorem PL.set0 (p : PL) (v u : Value) : (p.A v).setIfInBounds (0 + 0) u = p.A u := by kernel_rfl
end Go.Proofs.YtinojijgeabfnaaGreatDoor
namespace Go.Proofs.YtinojijgeabfnaaGreatDoor
open Go Go.RowKit Go.SX
end Go.Proofs.YtinojijgeabfnaaGreatDoor
namespace Go.Proofs.YtinojijgeabfnaaGreatDoor
open Go Go.RowKit Go.SX
theorem chkF_ok {last : Int} : ∀ {l : List MK}, (∀ m ∈ l, 1 ≤ m.key.length ∧ m.key.length ≤ 64 ∧ last < m.known ∧ m.known ≤ 2147483647) → l.Pairwise (fun a b => a.known < b.known) → chkF last l = true
  | [], _, _ => rfl
  | m :: r, h, hp => by
    obtain ⟨h1, h2, h3, h4⟩ := h m (by simp)
    rw [List.pairwise_cons] at hp
    unfold chkF mkGood
    rw [decide_eq_true h1, decide_eq_true h2, decide_eq_true h3, decide_eq_true h4]
    simp only [Bool.true_and]
    exact chkF_ok (fun m' hm' => ⟨(h m' (by simp [hm'])).1, (h m' (by simp [hm'])).2.1, hp.1 m' hm', (h m' (by simp [hm'])).2.2.2⟩) hp.2
/-- a book whose quotes are valid and in order is one that is valid -/
theorem chk_book {xs : List QC} (hv : ∀ q ∈ xs, validQ q = true) (hl : xs.length ≤ 4096) (hp : xs.Pairwise (fun a b => a.known < b.known)) : chkQ xs = 0 := by
  unfold chkQ
  rw [if_pos (by rw [List.all_eq_true]; exact hv)]
  unfold chkE
  rw [if_neg (by rw [List.length_map]; omega), if_pos]
  refine chkF_ok (fun m hm => ?_) ?_
  · obtain ⟨q, hq, rfl⟩ := List.mem_map.1 hm
    have hvq := hv q hq
    unfold validQ at hvq
    rw [Bool.and_eq_true] at hvq
    obtain ⟨h1, h2, h3, h4⟩ := right_facts hvq.1
    have h5 := usable_len h1
    have h6 := ins_len h2
    have h7 := hvq.2
    unfold knOk at h7
    simp only [Bool.and_eq_true, decide_eq_true_eq] at h7
    have hk : (mkOfQ q).key.length = q.src.length + (q.ins.length + 12) := by
      show (keyQ q).length = _
      unfold keyQ
      simp only [List.length_append, List.length_cons, dayT_len]
    refine ⟨by omega, by omega, ?_, ?_⟩
    · show 0 < q.known; omega
    · exact h7.2
  · rw [List.pairwise_map]
    exact hp
end Go.Proofs.YtinojijgeabfnaaGreatDoor
namespace Go.Proofs.YtinojijgeabfnaaGreatDoor
open Go Go.RowKit Go.SX
end Go.Proofs.YtinojijgeabfnaaGreatDoor
namespace Go.Proofs.YtinojijgeabfnaaGreatDoor
open Go Go.RowKit Go.SX
/-- a made quote is valid -/
theorem quote_valid {dd kn : Int} {q : QC} (h : isQuote dd kn q) (hd : q.day ≤ 73048) (h1 : 1 ≤ kn) (h2 : kn ≤ 2147483647) : validQ q = true := by
  obtain ⟨a1, a2, a3, a4, a5, a6⟩ := h
  unfold validQ rightQ knOk
  have u1 : usable q.src = true := by
    simp [src4] at a1; rcases a1 with h | h | h | h <;> rw [h] <;> decide
  have u2 : insOk q.ins = true := by
    simp [papers] at a2; rcases a2 with h | h | h | h | h | h <;> rw [h] <;> decide
  have u3 : curOk q.cur = true := by
    simp at a3; rcases a3 with h | h | h <;> rw [h] <;> decide
  rw [u1, u2, u3, a5, decide_eq_true a4.1, decide_eq_true hd, decide_eq_true h1, decide_eq_true h2]
  rcases a6 with ⟨v, p⟩ | ⟨v, p⟩
  · obtain ⟨n, d, e, g1, g2, g3, g4, g5, g6, g7, g8⟩ := price_of p
    rw [v]
    have : priOk q.price = true := by
      unfold priOk sgn
      rw [g6, if_neg (by omega), if_neg (by omega)]; rfl
    simp [this]
  · rw [v, p]; rfl
/-- a drawn candidate -/
structure isCm (i : Nat) (q : QC) : Prop where
  src : src4[i]? = some q.src
  ins : q.ins = acme
  cur : q.cur = [85, 83, 68]
  d1 : 9494 ≤ q.day
  d2 : q.day ≤ 9497
  kn : q.known = ((i + 1 : Nat) : Int)
  vo : q.void = false
  pr : ∃ a : Int, q.price = (mkQ a 1).1 ∧ 77 ≤ a ∧ a ≤ 109
theorem isCm.lt {i : Nat} {q : QC} (h : isCm i q) : i < 4 := (List.getElem?_eq_some_iff.1 h.src).1
theorem isCm.key {i : Nat} {q : QC} (h : isCm i q) : (keyQ q)[0]? = some (UInt8.ofNat (97 + i)) := by
  have hs := h.src
  have hi := h.lt
  unfold keyQ
  rcases (by omega : i = 0 ∨ i = 1 ∨ i = 2 ∨ i = 3) with rfl | rfl | rfl | rfl <;> (cases hs' : q.src with | nil => rw [hs'] at hs; cases hs | cons b r => rw [hs'] at hs; cases hs; rfl)
end Go.Proofs.YtinojijgeabfnaaGreatDoor
namespace Go.Proofs.YtinojijgeabfnaaGreatDoor
open Go Go.RowKit Go.SX
end Go.Proofs.YtinojijgeabfnaaGreatDoor
namespace Go.Proofs.YtinojijgeabfnaaGreatDoor
open Go Go.RowKit Go.SX
end Go.Proofs.YtinojijgeabfnaaGreatDoor
namespace Go.Proofs.YtinojijgeabfnaaGreatDoor
open Go Go.RowKit Go.SX
def atF (src ins : List UInt8) (day : Int) (q : QC) : Bool := decide (q.src = src) && (decide (q.ins = ins) && decide (q.day = day))
def atO (xs : List QC) (k : Int) (src ins : List UInt8) (day : Int) : Option QC := (visQs xs k).find? (atF src ins day)
set_option smartUnfolding false in
set_option maxRecDepth 100000 in
theorem at_r {E : Env} (hE : E.P = Tryz.prog) {v : Value} {k : Int} {xs : List QC} (hv : Lst E v 72 xs.length (cat QC.A xs)) (hn : xs.length ≤ 1000000000000) (hin : ∀ y ∈ xs, y.In) (src ins : List UInt8) (day : Int) : OwnC E 36 [SV.c v, SV.c (.int .i64 k), SV.c (.string (S src)), SV.c (.string (S ins)), SV.c (.int .i64 day)] [] (fun x U => x = .tuple #[.agg ((atO xs k src ins day).getD noQ).A, .bool (atO xs k src ins day).isSome, .int .i64 (chkQ xs)] ∧ U = []) := by
  refine sx_ownC [] tt_ok mixed at36 E hE [SV.c v, SV.c (.int .i64 k), SV.c (.string (S src)), SV.c (.string (S ins)), SV.c (.int .i64 day)] [] _ rfl rfl fun w X β hT => ?_
  have hv' := hv.of_old hT
  have V1 := vis_qr (k := k) rfl hv' hn hin
  obtain ⟨a, cap, rfl, hc, h4⟩ := hv'.shape
  refine .inr (.inr (.inr ⟨[], [3000], [_, _], [], _, V1, rfl, trivial, rfl, trivial, ?_⟩))
  rintro x U ⟨s, n, hnn, rfl, hs, rfl⟩
  refine ⟨rfl, ?_⟩
  have hvl : (visQs xs k).length ≤ 1000000000000 := by
    unfold visQs
    split
    · exact Nat.le_trans (List.length_filterMap_le _ _) (Nat.le_trans (visNQ_len xs k) hn)
    · simp
  have hve : chkQ xs ≠ 0 → visQs xs k = [] := fun h => by unfold visQs; rw [if_neg h]
  refine ⟨fun h => ?_, fun h => ?_⟩
  · have h : chkQ xs ≠ 0 := by intro e; rw [e] at h; exact absurd h (by decide)
    have e : atO xs k src ins day = none := by unfold atO; rw [hve h]; rfl
    refine ⟨(noQ).A, noQ_A ▸ rfl, ?_⟩
    exact ⟨noQ.fits, [], [], ⟨by rw [e]; rfl, rfl⟩, trivial, rfl⟩
  · have hck : chkQ xs = 0 := by
      by_cases e : chkQ xs = 0
      · exact e
      · exact absurd ((show (chkQ xs != 0) = true by simp [e]).symm.trans h) (by decide)
    unfold atO
    generalize hL : visQs xs k = L at *
    generalize hCK : chkQ xs = CK at *
    refine ⟨fun q f m => ∃ (i : Nat), q = n - i ∧ i ≤ n ∧ (∀ (j : Nat) (y : QC), j < i → L[j]? = some y → atF src ins day y = false) ∧ f = [(2, SV.c (.string (S src))), (3, SV.c (.string (S ins))), (4, SV.c (.int .i64 day)), (10, SV.ptr 10 0), (13, SV.c s), (15, SV.c (.int .i64 (i : Nat)))] ∧ m = [(10, Blk.row 40 72 noQ.A), (3000, Blk.own s 40 72 n (cat QC.A L))], n, ⟨_, _, ⟨0, by omega, by omega, fun j y h => by omega, rfl, rfl⟩, ⟨rfl, rfl, rfl, rfl, rfl, rfl, trivial⟩, ⟨congrArg (fun A => some (Blk.row 40 72 A)) noQ_A.symm, .inl rfl, trivial⟩, rfl⟩, ?_⟩
    rintro q f m ⟨i, rfl, hi, hok, rfl, rfl⟩
    obtain ⟨sa, sc, rfl⟩ := hs.len
    refine ⟨_, fun w' _ => run_len_sl Tryz.underlying22 w', fun h => ?_, fun h => ?_⟩
    · have h : i < n := by have := of_decide_eq_true h; omega
      rcases hs with ⟨hq, hq2⟩ | ⟨gx, xc2, hq⟩
      · omega
      cases hq
      obtain ⟨y, hy⟩ : ∃ y, L[i]? = some y := ⟨_, List.getElem?_eq_getElem (by omega)⟩
      have g0 : (cat QC.A L)[i * 72 + 0]? = some (.string (S y.src)) := by rw [cat_get QC.size L i y 0 hy (by decide)]; exact y.g0
      have g1 : (cat QC.A L)[i * 72 + 1]? = some (.string (S y.ins)) := by rw [cat_get QC.size L i y 1 hy (by decide)]; exact y.g1
      have g3 : (cat QC.A L)[i * 72 + 3]? = some (.int .i64 y.day) := by rw [cat_get QC.size L i y 3 hy (by decide)]; exact y.g3
      have gA := cat_extract QC.size hy
      have yF := y.fits
      have jb : i * 72 + 72 ≤ (cat QC.A L).size := by
        rw [Go.SX.cat_size QC.size]
        have := Nat.mul_le_mul_right 72 (show i + 1 ≤ L.length by omega)
        omega
      have s0 : ((S y.src).toList == (S src).toList) = decide (y.src = src) := S_beq _ _
      have s1 : ((S y.ins).toList == (S ins).toList) = decide (y.ins = ins) := S_beq _ _
      have nx : atF src ins day y = false → ∀ (j : Nat) (z : QC), j < i + 1 → L[j]? = some z → atF src ins day z = false := fun hf j z hj hz => by
        rcases Nat.lt_or_ge j i with h9 | h9
        · exact hok j z h9 hz
        · have : j = i := by omega
          subst this
          rw [hy] at hz; cases hz
          exact hf
      refine ⟨by omega, by omega, .inr ⟨3000, gx, _, n, _, _, _, _, rfl, rfl, .string (S y.src), (by rw [off72]; exact g0), fun c1 => ?_, fun c1 => ?_⟩⟩
      · refine ⟨by omega, by omega, .inr ⟨3000, gx, _, n, _, _, _, _, rfl, rfl, .string (S y.ins), (by rw [off72]; exact g1), fun c2 => ?_, fun c2 => ?_⟩⟩
        · refine ⟨by omega, by omega, .inr ⟨3000, gx, _, n, _, _, _, _, rfl, rfl, .int .i64 y.day, (by rw [off72]; exact g3), fun c3 => ?_, fun c3 => ?_⟩⟩
          · have f0 : L.find? (atF src ins day) = some y := by
              have hl : L = L.take i ++ y :: L.drop (i + 1) := by rw [← drop_at hy, List.take_append_drop]
              have p1 : (L.take i).find? (atF src ins day) = none := by
                rw [List.find?_eq_none]
                intro z hz
                obtain ⟨j, hj⟩ := List.getElem?_of_mem hz
                have hji : j < i := by
                  have := (List.getElem?_eq_some_iff.1 hj).1
                  simp at this; omega
                rw [List.getElem?_take_of_lt hji] at hj
                rw [hok j z hji hj]; simp
              have p2 : atF src ins day y = true := by
                unfold atF
                rw [← s0, c1, ← s1, c2, show decide (y.day = day) = (y.day == day) from by simp [BEq.beq], c3]; rfl
              rw [hl, List.find?_append, p1, List.find?_cons, p2]; rfl
            refine ⟨by omega, by omega, .inr ⟨3000, gx, _, n, _, _, _, _, rfl, rfl, by rw [off72]; exact jb, y.A, (by rw [off72]; exact gA), yF, ?_⟩⟩
            exact ⟨[], [], ⟨by rw [f0, hck]; rfl, rfl⟩, trivial, rfl⟩
          · have c3 : (y.day == day) = false := c3
            exact ⟨n - (i + 1), _, _, by omega, ⟨i + 1, rfl, by omega, nx (by unfold atF; rw [show decide (y.day = day) = (y.day == day) from by simp [BEq.beq], c3]; simp), rfl, rfl⟩, ⟨rfl, rfl, rfl, rfl, rfl, c_int (i64_succ (by omega)), trivial⟩, ⟨rfl, .inl rfl, trivial⟩, rfl⟩
        · have c2 : ((S y.ins).toList == (S ins).toList) = false := c2
          refine ⟨fun h => absurd h (by decide), fun _ => ?_⟩
          exact ⟨n - (i + 1), _, _, by omega, ⟨i + 1, rfl, by omega, nx (by unfold atF; rw [← s1, c2]; simp), rfl, rfl⟩, ⟨rfl, rfl, rfl, rfl, rfl, c_int (i64_succ (by omega)), trivial⟩, ⟨rfl, .inl rfl, trivial⟩, rfl⟩
      · have c1 : ((S y.src).toList == (S src).toList) = false := c1
        refine ⟨fun h => absurd h (by decide), fun _ => ⟨fun h => absurd h (by decide), fun _ => ?_⟩⟩
        exact ⟨n - (i + 1), _, _, by omega, ⟨i + 1, rfl, by omega, nx (by unfold atF; rw [← s0, c1]; simp), rfl, rfl⟩, ⟨rfl, rfl, rfl, rfl, rfl, c_int (i64_succ (by omega)), trivial⟩, ⟨rfl, .inl rfl, trivial⟩, rfl⟩
    · have h : i = n := by have := of_decide_eq_false h; omega
      subst h
      have e : L.find? (atF src ins day) = none := by
        rw [List.find?_eq_none]
        intro y hy
        obtain ⟨j, hj⟩ := List.getElem?_of_mem hy
        rw [hok j y (by have := (List.getElem?_eq_some_iff.1 hj).1; omega) hj]; simp
      refine ⟨noQ.A, noQ_A ▸ rfl, noQ.fits, [], [], ⟨by rw [e, hck]; rfl, rfl⟩, trivial, rfl⟩
theorem at_own {E : Env} (hE : E.P = Tryz.prog) {x : Value} {k : Int} {xs : List QC} {nx : Nat} (hx : nx = xs.length) (hn : nx ≤ 1000000000000) (hin : ∀ y ∈ xs, y.In) (src ins : List UInt8) (day : Int) : OwnC E 36 [SV.c x, SV.c (.int .i64 k), SV.c (.string (S src)), SV.c (.string (S ins)), SV.c (.int .i64 day)] [(9200, Blk.own x 40 72 nx (cat QC.A xs))] (fun r U => r = .tuple #[.agg ((atO xs k src ins day).getD noQ).A, .bool (atO xs k src ins day).isSome, .int .i64 (chkQ xs)] ∧ U = [(9200, Blk.own x 40 72 nx (cat QC.A xs))]) := by
  subst hx
  refine (OwnC.with_own (k := 9200) (v := x) (e := 40) (sz := 72) (n := xs.length) (A := cat QC.A xs) (pre := []) rfl rfl (Go.SX.cat_all QC.all1 xs) (by rw [hE]; exact at36.enters) (fun E0 h hl1 => at_r (h.trans hE) hl1 hn hin src ins day) (fun x U h => by rw [h.2]; rfl)).mono ?_
  rintro r U ⟨U0, ⟨h1, rfl⟩, rfl⟩
  exact ⟨h1, rfl⟩
end Go.Proofs.YtinojijgeabfnaaGreatDoor
namespace Go.Proofs.YtinojijgeabfnaaGreatDoor
open Go Go.RowKit Go.SX
set_option exponentiation.threshold 2000 in
/-- a price is near itself -/
theorem near_self {y t : RQ} (hy : payOk y = true) (ht : pctB t = true) (hb : betQ t 0 1 = true) : nearQ y y t = true := by
  obtain ⟨y1, y2⟩ := pay_bd hy
  obtain ⟨t0, t1, t2⟩ := tol_bd ht hb
  obtain ⟨p1, p2, -, -⟩ := pay_ok hy
  have tp0 := (pctB_ok ht).2
  obtain ⟨u, e1, e2, e5, e3, e4⟩ := sumQ_val true p1 p1 y2 y1 y2 y1 (by decide) (by decide)
  obtain ⟨v, f1, f2, f5, f3, f4⟩ := mulQ_val t0 p1 t2 t1 y2 y1 (by decide) (by decide)
  obtain ⟨-, -, g3, -, -⟩ := RQ.ok_bits e2
  obtain ⟨-, -, v3, -, -⟩ := RQ.ok_bits f2
  obtain ⟨-, -, y3, -, -⟩ := RQ.ok_bits p1
  obtain ⟨-, -, t3, -, -⟩ := RQ.ok_bits t0
  have u0 : u.p = 0 := by
    have h : u.p * (y.q * y.q) = 0 := by
      rw [e5]
      show (y.p * y.q + -(y.p * y.q)) * u.q = 0
      rw [Int.add_right_neg, Int.zero_mul]
    rcases Int.mul_eq_zero.1 h with h | h
    · exact h
    · have := Int.mul_pos y3 y3; omega
  have v0 : 0 ≤ v.p := by
    have h : 0 ≤ v.p * (t.q * y.q) := by rw [f5]; exact Int.mul_nonneg (Int.mul_nonneg tp0 p2) (by omega)
    rcases Int.lt_or_le v.p 0 with h9 | h9
    · have := Int.mul_neg_of_neg_of_pos h9 (Int.mul_pos t3 y3); omega
    · exact h9
  have ha : (absQ u).1 = .of (u.p.natAbs : Int) u.q := by unfold absQ; rw [if_pos e2]
  unfold nearQ
  rw [e1, f1]
  dsimp only
  rw [ha, RQ.of_p, RQ.of_q, u0, cmpI_le]
  apply decide_eq_true
  have := Int.mul_nonneg v0 (show 0 ≤ u.q by omega)
  simpa using this
theorem book_chk {day last : Int} {xs : List QC} (h : IsBook day last xs) (hl : last ≤ 100000) (hn : xs.length ≤ 4096) : chkQ xs = 0 := by
  refine chk_book (fun q hq => ?_) hn h.up
  obtain ⟨dd, kn, h1, h2, h3, h4⟩ := h.each q hq
  have hk := h.bd q hq
  refine quote_valid h1 ?_ (by rw [← h1.2.2.2.2.1]; exact hk.1) (by rw [← h1.2.2.2.2.1]; omega)
  rcases h1.2.2.2.1.2 with h5 | h5 <;> omega
theorem fold_keep {src ins : List UInt8} {day stale d0 : Int} : ∀ {l : List QC} {b : QC}, b.day = d0 → (∀ z ∈ l, z.src = src → z.ins = ins → z.day ≤ day → day - stale ≤ z.day → z.day ≤ d0) → l.foldl (candStep src ins day stale) (some b) = some b
  | [], _, _, _ => rfl
  | z :: r, b, hb, h => by
    have : candStep src ins day stale (some b) z = some b := by
      unfold candStep newer
      rw [if_neg]
      intro hc
      simp only [Bool.and_eq_true, decide_eq_true_eq] at hc
      have := h z (by simp) hc.1 hc.2.1 hc.2.2.1 hc.2.2.2.1
      omega
    rw [List.foldl_cons, this]
    exact fold_keep hb fun z hz => h z (by simp [hz])
theorem fold_find {src ins : List UInt8} {day stale d0 : Int} (h1 : d0 ≤ day) (h2 : day - stale ≤ d0) : ∀ {l : List QC} {o : Option QC} {q : QC}, (∀ b, o = some b → b.day < d0) → (∀ z ∈ l, z.src = src → z.ins = ins → z.day ≤ day → day - stale ≤ z.day → z.day ≤ d0) → l.find? (atF src ins d0) = some q → l.foldl (candStep src ins day stale) o = some q
  | [], _, _, _, _, h => by simp at h
  | z :: r, o, q, ho, h, hf => by
    rw [List.find?_cons] at hf
    rw [List.foldl_cons]
    cases e : atF src ins d0 z with
    | true =>
      rw [e] at hf
      cases hf
      unfold atF at e
      simp only [Bool.and_eq_true, decide_eq_true_eq] at e
      have : candStep src ins day stale o z = some z := by
        unfold candStep newer
        rw [if_pos]
        simp only [Bool.and_eq_true, decide_eq_true_eq]
        refine ⟨e.1, e.2.1, by omega, by omega, ?_⟩
        cases o with
        | none => rfl
        | some b => have := ho b rfl; simp; omega
      rw [this]
      exact fold_keep e.2.2 fun z hz => h z (by simp [hz])
    | false =>
      rw [e] at hf
      refine fold_find h1 h2 (fun b hb => ?_) (fun z hz => h z (by simp [hz])) hf
      unfold candStep at hb
      split at hb
      · rename_i hc
        cases hb
        simp only [Bool.and_eq_true, decide_eq_true_eq] at hc
        have h3 := h z (by simp) hc.1 hc.2.1 hc.2.2.1 hc.2.2.2.1
        unfold atF at e
        rw [decide_eq_true hc.1, decide_eq_true hc.2.1] at e
        simp at e
        omega
      · exact ho b hb
def oneP (stale : Int) : PL := ⟨[[98]], (mkQ 0 1).1, stale⟩
theorem oneP_ok {stale : Int} (h1 : 0 ≤ stale) (h2 : stale ≤ 5) : polOk (oneP stale) = true := by
  rcases (by omega : stale = 0 ∨ stale = 1 ∨ stale = 2 ∨ stale = 3 ∨ stale = 4 ∨ stale = 5) with rfl | rfl | rfl | rfl | rfl | rfl <;> kernel_rfl
theorem one_c0 {xs : List QC} {k stale : Int} (hc : chkQ xs = 0) (h1 : 0 ≤ stale) (h2 : stale ≤ 5) : candC xs k (oneP stale) 9497 = 0 := by
  unfold candC
  rw [if_neg (by rw [hc]; simp), if_pos (oneP_ok h1 h2), if_neg (by omega)]
theorem one_none {xs : List QC} {k stale : Int} (hc : chkQ xs = 0) (h1 : 0 ≤ stale) (h2 : stale ≤ 5) (hn : ∀ d : Int, 9497 - stale ≤ d → d ≤ 9497 → atO xs k [98] acme d = none) : cands xs k (oneP stale) acme 9497 = [] := by
  unfold cands
  rw [if_pos (one_c0 hc h1 h2)]
  unfold candL
  show [[98]].filterMap (candOf acme 9497 stale (visQs xs k)) = []
  cases e : candOf acme 9497 stale (visQs xs k) [98] with
  | none => rw [List.filterMap_cons, e]; rfl
  | some q =>
    obtain ⟨g1, g2, g3, g4, g5⟩ := candOf_spec e
    have := hn q.day g5 g4
    unfold atO at this
    rw [List.find?_eq_none] at this
    exact absurd (show atF [98] acme q.day q = true by unfold atF; simp [g2, g3]) (this q g1)
theorem one_some {xs : List QC} {k stale d : Int} {q : QC} (hc : chkQ xs = 0) (h1 : 0 ≤ stale) (h2 : stale ≤ 5) (d1 : 9497 - stale ≤ d) (d2 : d ≤ 9497) (hn : ∀ d' : Int, d < d' → d' ≤ 9497 → atO xs k [98] acme d' = none) (hq : atO xs k [98] acme d = some q) : cands xs k (oneP stale) acme 9497 = [q] := by
  unfold cands
  rw [if_pos (one_c0 hc h1 h2)]
  unfold candL
  show [[98]].filterMap (candOf acme 9497 stale (visQs xs k)) = [q]
  have e : candOf acme 9497 stale (visQs xs k) [98] = some q := by
    unfold candOf
    refine fold_find (d0 := d) d2 d1 (fun b hb => by cases hb) (fun z hz z1 z2 z3 z4 => ?_) hq
    rcases Int.lt_or_le d z.day with h | h
    · have := hn z.day h z3
      unfold atO at this
      rw [List.find?_eq_none] at this
      exact absurd (show atF [98] acme z.day z = true by unfold atF; simp [z1, z2]) (this z hz)
    · exact h
  rw [List.filterMap_cons, e]; rfl
theorem one_ch {q : QC} (hp : payOk q.price = true) : selCh [q] (mkQ 0 1).1 = chOf (some q) ∧ selBad [q] (mkQ 0 1).1 = [] := by
  have hy : yardQ [q] = q.price := by
    unfold yardQ cmpbl curH
    simp [sortR, insR, midR]
  have hg : isGood (curH [q]) (yardQ [q]) (mkQ 0 1).1 q = true := by
    rw [hy]
    unfold isGood curH
    rw [near_self hp (by kernel_rfl) (by kernel_rfl)]
    simp
  unfold selCh selBad
  generalize yardQ [q] = Y at *
  generalize curH [q] = C at *
  simp [hg]
theorem at_facts {xs : List QC} {k d : Int} {q : QC} (h : atO xs k [98] acme d = some q) : payOk q.price = true ∧ q.src = [98] ∧ q.day = d ∧ q ∈ xs := by
  unfold atO at h
  have hm := visQs_mem (List.mem_of_find?_eq_some h)
  have hf := List.find?_some h
  unfold atF at hf
  simp only [Bool.and_eq_true, decide_eq_true_eq] at hf
  exact ⟨(right_price hm.2.1 hm.2.2).1, hf.1, hf.2.2, hm.1⟩
theorem oneP_in {stale : Int} (h : 0 ≤ stale ∧ stale ≤ 5) : (oneP stale).In := ⟨mkQ_in _ _, fun y hy => by
  have hy : y ∈ ([[98]] : List (List UInt8)) := hy
  simp at hy; rw [hy]; decide, by show (-9223372036854775808 : Int) ≤ stale ∧ stale ≤ 9223372036854775807; omega⟩
theorem fill_b : Instr.fill (fun k => some (k * ti9.size, ti9.size)) (madeCells ti9.zero (1 * ti9.size)) [(0, .string (S [98]))] = some (cat strA [[98]]) := by kernel_rfl
set_option smartUnfolding false in
set_option maxRecDepth 100000 in
set_option maxHeartbeats 4000000 in
theorem selectorSingle_f {v : Value} {zs : List Int} (w : World) (hv : Tp (envC Tryz.prog tt Tryz.f9.ntmps w [] []).toEnv v zs) : Calls Tryz.prog 9 #[v] w fun e w' => e = .returned (.bool true) ∧ Below w.heap.size w w' := by
  refine sx_atX [] tt_ok mixed at9 [v] _ w rfl ?_
  have hv0 := hv
  obtain ⟨a, cap, rfl, -⟩ := hv0
  refine ⟨_, fill_tape a zs.length cap rfl, rfl, ?_⟩
  generalize hvv : Value.slice a zs.length cap = v at *
  obtain ⟨r2, k2, a2, b2, ⟨i2, rfl, c2⟩, O2⟩ := next_g (n := 14) (by decide) zs 0 (by omega)
  obtain ⟨n, rfl⟩ : ∃ n : Nat, i2 = n := ⟨i2.toNat, by omega⟩
  refine .inr (.inl ⟨_, _, _, O2 _ v 16 rfl hv, ⟨rfl, trivial⟩, rfl, ?_⟩)
  refine .inr (.inr (.inr ⟨[(1000, 16)], [3000], [_, _, _], [_], _, quotes_z rfl hv (n := n) (by omega) (by omega) (day := 9497) (by decide), rfl, ⟨rfl, trivial⟩, rfl, trivial, ?_⟩))
  rintro x U ⟨xs, k3, last, h1, h2, hx, hxs, hbk, hlast, -, rfl⟩
  refine ⟨rfl, ?_⟩
  have hin : ∀ y ∈ xs, y.In := fun y hy => madeQ_in (hbk.each y hy)
  have hck := book_chk hbk (by omega) (by omega)
  have M0 := made_of (n := 0) (d := 1) (by decide) (by decide) (by decide) (by decide)
  obtain ⟨r4, k4, a4, b4, ⟨stale, rfl, c4⟩, O4⟩ := next_g (n := 6) (by decide) zs k3 (by omega)
  obtain ⟨r5, k5, a5, b5, ⟨k, rfl, c5⟩, O5⟩ := next_g (n := 60) (by decide) zs k4 (by omega)
  refine .inr ⟨by decide, by decide, by decide, _, fill_b, rfl, trivial, fun g => .inl ⟨_, M0, ?_⟩⟩
  refine .inr (.inl ⟨_, _, _, O4 _ v 16 rfl hv, ⟨rfl, trivial⟩, rfl, ?_⟩)
  have PF0 := fill_pol (some ⟨g, 0, none⟩) 1 1 (mkQ 0 1).1 stale [[98]] (pl := [(0, 1), (1, 66), (67, 1)]) rfl
  rw [show (⟨[[98]], (mkQ 0 1).1, stale⟩ : PL) = oneP stale from rfl] at PF0
  have PF := (oneP stale).fits (v := .slice (some ⟨g, 0, none⟩) 1 1) rfl
  have PG := PL.g2 (oneP stale) (.slice (some ⟨g, 0, none⟩) 1 1)
  have S1 := fun (E0 : Env) (h0 : E0.P = Tryz.prog) => select_own (E := E0) h0 (x := x) (y := .slice (some ⟨g, 0, none⟩) 1 1) (xs := xs) (p := oneP stale) (nx := n) (ny := 1) hxs.symm rfl (by omega) (by omega) hin (oneP_in (by omega)) k acme 9497
  generalize hPA : (oneP stale).A (.slice (some ⟨g, 0, none⟩) 1 1) = PA at *
  refine ⟨_, PF0, PF, ?_⟩
  refine .inr (.inl ⟨_, _, _, O5 _ v 16 rfl hv, ⟨rfl, trivial⟩, rfl, ?_⟩)
  refine .inr (.inr (.inr ⟨[(9200, 3000), (9101, 22)], [9000], [_, _, _, _, _], [_, _], _, S1 _ rfl, rfl, ⟨.inl rfl, .inl rfl, trivial⟩, rfl, trivial, ?_⟩))
  rintro r1 U1 ⟨U0, ⟨s1, n1, hn1', rfl, hs1, rfl⟩, rfl⟩
  refine ⟨rfl, ?_⟩
  rw [show (oneP stale).tol = (mkQ 0 1).1 from rfl] at hn1' ⊢
  obtain ⟨sa1, sc1, rfl⟩ := hs1.len
  generalize hCA : cands xs k (oneP stale) acme 9497 = CA at *
  have CF1 := (selCh CA (mkQ 0 1).1).fits (a := sa1) (n := n1) (c := sc1)
  have C0 := CH.g0 (selCh CA (mkQ 0 1).1) (.slice sa1 n1 sc1)
  have C1 := CH.g1 (selCh CA (mkQ 0 1).1) (.slice sa1 n1 sc1)
  have C2 := CH.g2 (selCh CA (mkQ 0 1).1) (.slice sa1 n1 sc1)
  have C3 := CH.g3 (selCh CA (mkQ 0 1).1) (.slice sa1 n1 sc1)
  have C4 := CH.g4 (selCh CA (mkQ 0 1).1) (.slice sa1 n1 sc1)
  generalize (selCh CA (mkQ 0 1).1).A (.slice sa1 n1 sc1) = CH1 at *
  refine ⟨CF1, ?_⟩
  have hse : selE xs k (oneP stale) acme 9497 = if CA = [] then 151 else 0 := by
    unfold selE
    rw [if_neg (by rw [one_c0 hck (by omega) (by omega)]; simp), hCA]
  generalize selE xs k (oneP stale) acme 9497 = SE at *
  generalize hXA : cat QC.A xs = XA at *
  generalize hXB : cat strA (oneP stale).srcs = XB at *
  obtain ⟨st, rfl⟩ : ∃ st : Nat, stale = st := ⟨stale.toNat, by omega⟩
  refine ⟨fun q f m => ∃ (j : Nat), q = st + 1 - j ∧ j ≤ st + 1 ∧ (∀ d : Int, 9497 - (j : Int) < d → d ≤ 9497 → atO xs k [98] acme d = none) ∧ f = [(4, SV.c (.int .i64 9497)), (5, SV.c x), (6, SV.ptr 6 0), (7, SV.c (.int .i64 k)), (8, SV.ptr 8 0), (9, SV.c (.int .i64 SE)), (10, SV.c (.int .i64 (9497 - (j : Int))))] ∧ m = [(3000, Blk.own x 40 72 n XA), (6, Blk.row 31 68 PA), (8, Blk.row 33 70 CH1)], st + 1, ⟨_, _, ⟨0, rfl, by omega, fun d h1 h2 => by omega, rfl, rfl⟩, ⟨rfl, rfl, rfl, rfl, rfl, rfl, rfl, trivial⟩, ⟨.inl rfl, rfl, rfl, trivial⟩, rfl⟩, ?_⟩
  rintro q f m ⟨j, rfl, hj, hno, rfl, rfl⟩
  have ew : IntKind.i64.wrap (9497 - (st : Int)) = 9497 - (st : Int) := i64_in (by omega)
  refine ⟨_, PG, fun h => ?_, fun h => ?_⟩
  · have h : (9497 - (j : Int)) ≥ IntKind.i64.wrap (9497 - (st : Int)) := of_decide_eq_true h
    rw [ew] at h
    have h : j ≤ st := by omega
    have A1 := at_own (E := (envC Tryz.prog tt Tryz.f9.ntmps w [] []).toEnv) rfl (x := x) (k := k) (xs := xs) (nx := n) hxs.symm (by omega) hin [98] acme (9497 - (j : Int))
    rw [hXA] at A1
    cases e : atO xs k [98] acme (9497 - (j : Int)) with
    | none =>
      rw [e] at A1
      refine .inr (.inr (.inl ⟨[(9200, 3000)], [_, _, _, _, _], [_], _, [_], A1, rfl, ⟨.inl rfl, trivial⟩, rfl, rfl, ?_⟩))
      refine ⟨noQ.fits, fun h => absurd h (by decide), fun _ => ?_⟩
      refine ⟨st + 1 - (j + 1), _, _, by omega, ⟨j + 1, rfl, by omega, fun d h1 h2 => ?_, rfl, rfl⟩, ⟨rfl, rfl, rfl, rfl, rfl, rfl, c_int (by rw [i64_in (by omega)]; omega), trivial⟩, ⟨.inl rfl, rfl, rfl, trivial⟩, rfl⟩
      rcases Int.lt_or_le (9497 - (j : Int)) d with h3 | h3
      · exact hno d h3 h2
      · rw [show d = 9497 - (j : Int) by omega]; exact e
    | some q =>
      rw [e] at A1
      refine .inr (.inr (.inl ⟨[(9200, 3000)], [_, _, _, _, _], [_], _, [_], A1, rfl, ⟨.inl rfl, trivial⟩, rfl, rfl, ?_⟩))
      obtain ⟨q1, q2, q3, q4⟩ := at_facts e
      have hc := one_some (stale := (st : Int)) hck (by omega) (by omega) (by omega) (by omega) (fun d' h1 h2 => hno d' h1 h2) e
      rw [hCA] at hc
      subst hc
      obtain ⟨s1, s2⟩ := one_ch q1
      rw [s1] at C0 C1 C2 C3
      rw [s2] at hn1'
      have C0 : CH1[0]? = some (.string (S [98])) := by rw [C0]; show some (Value.string (S q.src)) = _; rw [q2]
      have C1 : CH1[1]? = some (.string (S q.cur)) := C1
      have C2 : CH1[2]? = some (.int .i64 (9497 - (j : Int))) := by rw [C2]; show some (Value.int .i64 q.day) = _; rw [q3]
      have C3 : CH1.extract 3 (3 + 66) = q.price.A := C3
      have hse : SE = 0 := by rw [hse]; rfl
      have qp := (hin q q4).price
      have qf := q.fits
      have qg2 := q.g2
      have qgp := q.gpri
      subst hse
      show _ ∧ _
      rw [show ((some q).getD noQ) = q from rfl, show ((some q).isSome) = true from rfl] 
      generalize q.A = QA at *
      refine ⟨qf, fun _ => ?_, fun h => absurd h (by decide)⟩
      have e1 : ∀ s : ByteArray, (s.toList == s.toList) = true := fun s => by simp
      have e2 : ∀ n : Int, (n == n) = true := fun n => by simp
      have hn0 : n1 = 0 := hn1'
      subst hn0
      refine .inl ⟨_, known_f, ?_⟩
      refine ⟨fun _ => ⟨fun _ => ?_, fun h => absurd h (by decide)⟩, fun h => absurd h (by decide)⟩
      refine ⟨_, C0, fun _ => ?_, fun c => absurd ((s_self [98]).symm.trans c) (by decide)⟩
      refine ⟨_, C2, fun _ => ?_, fun c => absurd ((e2 _).symm.trans c) (by decide)⟩
      refine ⟨by decide, _, C3, by decide, _, qgp, _, eqs_ratio rfl qp, fun _ => ?_, fun c => absurd c (by decide)⟩
      refine ⟨_, C1, _, qg2, fun _ => ?_, fun c => absurd ((e1 _).symm.trans c) (by decide)⟩
      refine ⟨_, C4, _, fun w' _ => run_len_sl Tryz.underlying23 w', rfl, trivial⟩
  · have h : ¬ (9497 - (j : Int)) ≥ IntKind.i64.wrap (9497 - (st : Int)) := of_decide_eq_false h
    rw [ew] at h
    have hc := one_none (stale := (st : Int)) hck (by omega) (by omega) (fun d h1 h2 => hno d (by omega) h2)
    rw [hCA] at hc
    subst hc
    have hse : SE = 151 := by rw [hse]; rfl
    subst hse
    have C0 : CH1[0]? = some (.string (S [])) := C0
    refine .inl ⟨_, known_f, ?_⟩
    refine ⟨fun _ => ⟨fun _ => ?_, fun h => absurd h (by decide)⟩, fun h => absurd h (by decide)⟩
    refine ⟨_, C0, by kernel_rfl, trivial⟩
end Go.Proofs.YtinojijgeabfnaaGreatDoor
