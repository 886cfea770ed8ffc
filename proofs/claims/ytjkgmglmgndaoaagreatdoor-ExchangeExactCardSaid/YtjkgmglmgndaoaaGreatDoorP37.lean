/- rates of exchange: the program. plain laws of converted amounts. rates of exchange: the document; converted amounts; no condition. -/
import Derived.Test.YtjkgmglmgndaoaaGreatDoorP36
import Derived.Test.YtjkgmglmgndaoaaGreatDoorP28
namespace Go.Proofs.YtjkgmglmgndaoaaGreatDoor
open Go Go.RowKit Go.SX
theorem way_eo {E : Env} (hE : E.P = Tryz.prog) {v vp vc : Value} {xs : List QC} {p : PL} (h : MkR E v vp xs p) (hv : v.oneCell' = true) (hvp : vp.oneCell' = true) (k day : Int) {cs : List (List UInt8)} {n : Nat} (hcn : n = cs.length) (hn : n ≤ 100) (hn1 : 2 ≤ n) (hok : ∀ c ∈ cs, curOk c = true) : OwnC E 40 [SV.c (.agg (mktA v vp p k day)), SV.c vc] [(9300, Blk.own vc 9 1 n (cat strA cs))] (fun x U => x = optQ (wayO (legQ xs k p day) oneQ cs) ∧ U = [(9300, Blk.own vc 9 1 n (cat strA cs))]) := by
  subst hcn
  refine (OwnC.with_own2 (k := 9300) (v := vc) (e := 9) (sz := 1) (n := cs.length) (A := cat strA cs) (pre := []) (Q := fun x U => x = optQ (wayO (legQ xs k p day) oneQ cs) ∧ U = []) rfl rfl (Go.SX.cat_all strA_one cs) (by rw [hE]; exact at40.enters) (fun E0 h0 ho hl => way_e (h0.trans hE) (h.of_old ho) hv hvp k day hl hn hn1 hok) (fun x U h => by rw [h.2]; rfl)).mono ?_
  rintro r U ⟨U0, ⟨h1, rfl⟩, rfl⟩
  exact ⟨h1, rfl⟩
theorem fill_str2 (a b : List UInt8) : Instr.fill (fun k => some (k * ti9.size, ti9.size)) (madeCells ti9.zero (2 * ti9.size)) [(0, .string (S a)), (1, .string (S b))] = some (cat strA [a, b]) := by kernel_rfl
theorem fill_str3 (a b c : List UInt8) : Instr.fill (fun k => some (k * ti9.size, ti9.size)) (madeCells ti9.zero (3 * ti9.size)) [(0, .string (S a)), (1, .string (S b)), (2, .string (S c))] = some (cat strA [a, b, c]) := by kernel_rfl
theorem fill_mkt (b : Option Addr) (n d : Nat) (a : Option Addr) (m c : Nat) (p : PL) (k day : Int) {pl : List (Nat × Nat)} (hpl : pl = [(0, 1), (1, 68), (69, 1), (70, 1)]) : Instr.fill (fun k => pl[k]?) ti66.zero [(0, .slice b n d), (1, .agg (p.A (.slice a m c))), (2, .int .i64 k), (3, .int .i64 day)] = some (mktA (.slice b n d) (.slice a m c) p k day) := by
  subst hpl
  have := fill_all (pl := fun k => [(0, 1), (1, 68), (69, 1), (70, 1)][k]?) (vs := [.slice b n d, .agg (p.A (.slice a m c)), .int .i64 k, .int .i64 day]) (Z := ti66.zero) ⟨by simp [Value.cells], by simp [Value.cells, PL.size], by simp [Value.cells, PL.size], by simp [Value.cells, PL.size], trivial⟩ (by simp [catV, Value.cells, PL.size]; rfl)
  rw [show catV [.slice b n d, .agg (p.A (.slice a m c)), .int .i64 k, .int .i64 day] = mktA (.slice b n d) (.slice a m c) p k day by simp [catV, Value.cells, mktA]] at this
  exact this
/-- legs and rates as the program says them -/
def legR (xs : List QC) (k : Int) (p : PL) (day : Int) (a b : List UInt8) : Value := .tuple #[.agg (if mktC xs p day [a, b] = 0 then (legQ xs k p day a b).getD zeroQ else zeroQ).A, .bool (if mktC xs p day [a, b] = 0 then (legQ xs k p day a b).isSome else false), .int .i64 (mktC xs p day [a, b])]
set_option smartUnfolding false in
set_option maxRecDepth 100000 in
theorem Leg_e {E : Env} (hE : E.P = Tryz.prog) {v vp : Value} {xs : List QC} {p : PL} (h : MkR E v vp xs p) (k day : Int) {a b : List UInt8} : OwnC E 11 [SV.c v, SV.c (.agg (p.A vp)), SV.c (.int .i64 k), SV.c (.string (S a)), SV.c (.string (S b)), SV.c (.int .i64 day)] [] (fun x U => x = legR xs k p day a b ∧ U = []) := by
  refine sx_ownC [] tt_ok mixed at11 E hE [SV.c v, SV.c (.agg (p.A vp)), SV.c (.int .i64 k), SV.c (.string (S a)), SV.c (.string (S b)), SV.c (.int .i64 day)] [] _ rfl rfl fun w X β hT => ?_
  have hr := h.of_old hT
  obtain ⟨ap, capp, rfl, hcp, -⟩ := id hr.s.shape
  obtain ⟨av, capv, rfl, hcv, -⟩ := id hr.l.shape
  have F1 := p.size (.slice ap p.srcs.length capp)
  have FM := fill_mkt av xs.length capv ap p.srcs.length capp p k day (pl := [(0, 1), (1, 68), (69, 1), (70, 1)]) rfl
  have MF := mktA_fits (v := .slice av xs.length capv) (vp := .slice ap p.srcs.length capp) p k day rfl rfl
  have CK := fun (g : Nat) => check_eo (E := (envC Tryz.prog tt Tryz.f11.ntmps w X (tiedK [] β)).toEnv) rfl hr k day (cs := [a, b]) (n := 2) (vc := .slice (some ⟨g, 0, none⟩) 2 2) rfl (by decide)
  have LG := fun ha hb => leg_e (E := (envC Tryz.prog tt Tryz.f11.ntmps w X (tiedK [] β)).toEnv) rfl hr rfl rfl k day (a := a) (b := b) ha hb
  generalize mktA (.slice av xs.length capv) (.slice ap p.srcs.length capp) p k day = MA at *
  generalize p.A (.slice ap p.srcs.length capp) = PA at *
  refine ⟨F1, MA, FM, MF, ?_⟩
  refine .inr ⟨by decide, by decide, by decide, _, fill_str2 a b, rfl, trivial, fun g => ?_⟩
  refine .inr (.inr (.inl ⟨[(9300, 27)], [_, _], [_], _, [_], CK g, rfl, ⟨.inl rfl, trivial⟩, rfl, rfl, fun c => ?_, fun c => ?_⟩))
  · have c : (mktC xs p day [a, b] != 0) = true := c
    refine ⟨_, rfl, (RQ.of 0 0).A_fits, [], [], ⟨?_, rfl⟩, trivial, rfl⟩
    rw [legR, if_neg (by simpa using c), if_neg (by simpa using c)]; rfl
  · have c : (mktC xs p day [a, b] != 0) = false := c
    have c : mktC xs p day [a, b] = 0 := by simpa using c
    obtain ⟨-, -, -, -, hall⟩ := mktC_ok c
    have G1 := LG (hall a (by simp)) (hall b (by simp))
    refine .inr (.inr (.inl ⟨[], [_, _, _], [], _, [], G1, rfl, trivial, rfl, rfl, RQ.A_fits _, RQ.A_fits _, [], [], ⟨?_, rfl⟩, trivial, rfl⟩))
    rw [legR, if_pos c, if_pos c, c]; rfl
theorem wayO_2 {f : List UInt8 → List UInt8 → Option RQ} {a b : List UInt8} (hok : ∀ r, f a b = some r → r.ok = true) : wayO f oneQ [a, b] = f a b := by
  show (match f a b with | some s => some (mulQ oneQ s).1 | none => none) = _
  cases e : f a b with
  | none => rfl
  | some s => show some (mulQ oneQ s).1 = _; rw [one_mulQ (hok s e)]
theorem wayO_3 {f : List UInt8 → List UInt8 → Option RQ} {a b c : List UInt8} (hok : ∀ r, f a b = some r → r.ok = true) : wayO f oneQ [a, b, c] = match f a b, f b c with
    | some x, some y => some (mulQ x y).1
    | _, _ => none := by
  show (match f a b with | some s => (match f b c with | some t => some (mulQ (mulQ oneQ s).1 t).1 | none => none) | none => none) = _
  cases e : f a b with
  | none => rfl
  | some s =>
    show (match f b c with | some t => some (mulQ (mulQ oneQ s).1 t).1 | none => none) = _
    rw [one_mulQ (hok s e)]
    cases f b c <;> rfl
theorem legQ_ok {xs : List QC} {k : Int} {p : PL} {day : Int} {a b : List UInt8} (ha : curOk a = true) (hb : curOk b = true) {r : RQ} (h : legQ xs k p day a b = some r) : Leg r := by
  unfold legQ at h
  split at h
  · cases h
  · exact legO_leg (cur_ne ha) (cur_ne hb) h
theorem legQ_ne {xs : List QC} {k : Int} {p : PL} {day : Int} {a b : List UInt8} (h : a ≠ b) : legQ xs k p day a b = legO xs k p day a b := by unfold legQ; rw [if_neg h]
theorem rateQ_1 {xs : List QC} {k : Int} {p : PL} {day : Int} {v a b : List UInt8} (h : mktC xs p day [v, a, b] ≠ 0) : rateQ xs k p day v a b = (zeroQ, mktC xs p day [v, a, b]) := by unfold rateQ; rw [if_pos h]
theorem rateQ_2 {xs : List QC} {k : Int} {p : PL} {day : Int} {v a b : List UInt8} (h : mktC xs p day [v, a, b] = 0) (h2 : a = b) : rateQ xs k p day v a b = (oneQ, 0) := by unfold rateQ; rw [if_neg (fun g => g h), if_pos h2]
theorem rateQ_3 {xs : List QC} {k : Int} {p : PL} {day : Int} {v a b : List UInt8} (h : mktC xs p day [v, a, b] = 0) (h2 : a ≠ b) {r : RQ} (h3 : legO xs k p day a b = some r) : rateQ xs k p day v a b = (r, 0) := by unfold rateQ; rw [if_neg (fun g => g h), if_neg h2, h3]
theorem rateQ_4 {xs : List QC} {k : Int} {p : PL} {day : Int} {v a b : List UInt8} (h : mktC xs p day [v, a, b] = 0) (h2 : a ≠ b) (h3 : legO xs k p day a b = none) (h4 : v = a ∨ v = b) : rateQ xs k p day v a b = (zeroQ, 161) := by unfold rateQ; rw [if_neg (fun g => g h), if_neg h2, h3]; simp only []; rw [if_pos h4]
theorem rateQ_5 {xs : List QC} {k : Int} {p : PL} {day : Int} {v a b : List UInt8} (h : mktC xs p day [v, a, b] = 0) (h2 : a ≠ b) (h3 : legO xs k p day a b = none) (h4 : ¬ (v = a ∨ v = b)) : rateQ xs k p day v a b = (match legO xs k p day a v, legO xs k p day v b with
    | some x, some y => mulQ x y
    | _, _ => (zeroQ, 161)) := by unfold rateQ; rw [if_neg (fun g => g h), if_neg h2, h3]; simp only []; rw [if_neg h4]; rfl
theorem resZ0 (n : Int) : mkRes [.agg ti29.zero, .int .i64 n] = resQ (zeroQ, n) := by kernel_rfl
set_option smartUnfolding false in
set_option maxRecDepth 100000 in
theorem Rate_e {E : Env} (hE : E.P = Tryz.prog) {v vp : Value} {xs : List QC} {p : PL} (h : MkR E v vp xs p) (k day : Int) {u a b : List UInt8} : OwnC E 13 [SV.c v, SV.c (.agg (p.A vp)), SV.c (.int .i64 k), SV.c (.string (S u)), SV.c (.string (S a)), SV.c (.string (S b)), SV.c (.int .i64 day)] [] (fun x U => x = resQ (rateQ xs k p day u a b) ∧ U = []) := by
  refine sx_ownC [] tt_ok mixed at13 E hE [SV.c v, SV.c (.agg (p.A vp)), SV.c (.int .i64 k), SV.c (.string (S u)), SV.c (.string (S a)), SV.c (.string (S b)), SV.c (.int .i64 day)] [] _ rfl rfl fun w X β hT => ?_
  have hr := h.of_old hT
  obtain ⟨ap, capp, rfl, hcp, -⟩ := id hr.s.shape
  obtain ⟨av, capv, rfl, hcv, -⟩ := id hr.l.shape
  have F1 := p.size (.slice ap p.srcs.length capp)
  have FM := fill_mkt av xs.length capv ap p.srcs.length capp p k day (pl := [(0, 1), (1, 68), (69, 1), (70, 1)]) rfl
  have MF := mktA_fits (v := .slice av xs.length capv) (vp := .slice ap p.srcs.length capp) p k day rfl rfl
  have CK := fun (g : Nat) => check_eo (E := (envC Tryz.prog tt Tryz.f13.ntmps w X (tiedK [] β)).toEnv) rfl hr k day (cs := [u, a, b]) (n := 3) (vc := .slice (some ⟨g, 0, none⟩) 3 3) rfl (by decide)
  have W2 := fun (g : Nat) hok => way_eo (E := (envC Tryz.prog tt Tryz.f13.ntmps w X (tiedK [] β)).toEnv) rfl hr rfl rfl k day (cs := [a, b]) (n := 2) (vc := .slice (some ⟨g, 0, none⟩) 2 2) rfl (by decide) (by decide) hok
  have W3 := fun (g : Nat) hok => way_eo (E := (envC Tryz.prog tt Tryz.f13.ntmps w X (tiedK [] β)).toEnv) rfl hr rfl rfl k day (cs := [a, u, b]) (n := 3) (vc := .slice (some ⟨g, 0, none⟩) 3 3) rfl (by decide) (by decide) hok
  generalize mktA (.slice av xs.length capv) (.slice ap p.srcs.length capp) p k day = MA at *
  generalize p.A (.slice ap p.srcs.length capp) = PA at *
  refine ⟨F1, MA, FM, MF, ?_⟩
  refine .inr ⟨by decide, by decide, by decide, _, fill_str3 u a b, rfl, trivial, fun g => ?_⟩
  refine .inr (.inr (.inl ⟨[(9300, 31)], [_, _], [_], _, [_], CK g, rfl, ⟨.inl rfl, trivial⟩, rfl, rfl, fun c => ?_, fun c => ?_⟩))
  · have c : (mktC xs p day [u, a, b] != 0) = true := c
    refine ⟨_, rfl, (RQ.of 0 0).A_fits, [], [], ⟨?_, rfl⟩, trivial, rfl⟩
    rw [rateQ_1 (by simpa using c)]; exact resZ0 _
  · have c : (mktC xs p day [u, a, b] != 0) = false := c
    have c : mktC xs p day [u, a, b] = 0 := by simpa using c
    obtain ⟨-, -, -, -, hall⟩ := mktC_ok c
    have hu := hall u (by simp)
    have ha := hall a (by simp)
    have hb := hall b (by simp)
    refine ⟨fun d => ?_, fun d => ?_⟩
    · have d := str_eq d
      refine .inl ⟨_, whole1_z (n := 1) (by decide) (by decide), RQ.A_fits _, [], [], ⟨?_, rfl⟩, trivial, rfl⟩
      rw [rateQ_2 c d]; rfl
    · have d := str_ne d
      refine .inr ⟨by decide, by decide, by decide, _, fill_str2 a b, rfl, trivial, fun g2 => ?_⟩
      have G2 := W2 g2 (by intro z hz; simp at hz; rcases hz with rfl | rfl; exact ha; exact hb)
      rw [wayO_2 (fun r hr => (legQ_ok ha hb hr).ok), legQ_ne d] at G2
      cases e : legO xs k p day a b with
      | some r =>
        rw [e] at G2
        refine .inr (.inr (.inl ⟨[(9300, 45)], [_, _], [_], _, [_], G2, rfl, ⟨.inl rfl, trivial⟩, rfl, rfl, RQ.A_fits _, fun c1 => ?_, fun c1 => absurd (show true = false from c1) (by decide)⟩))
        refine ⟨RQ.A_fits _, [], [], ⟨?_, rfl⟩, trivial, rfl⟩
        rw [rateQ_3 c d e]; rfl
      | none =>
        rw [e] at G2
        refine .inr (.inr (.inl ⟨[(9300, 45)], [_, _], [_], _, [_], G2, rfl, ⟨.inl rfl, trivial⟩, rfl, rfl, RQ.A_fits _, fun c1 => absurd (show false = true from c1) (by decide), fun c1 => ?_⟩))
        refine ⟨fun z1 => ?_, fun z1 => ?_⟩
        · have z1 : (!((S u).toList == (S a).toList)) = true := z1
          have z1 : u ≠ a := str_ne (by simpa using z1)
          refine ⟨fun z2 => ?_, fun z2 => ?_⟩
          · have z2 : (!((S u).toList == (S b).toList)) = true := z2
            have z2 : u ≠ b := str_ne (by simpa using z2)
            have hq := rateQ_5 c d e (by rintro (h | h); exact z1 h; exact z2 h)
            refine .inr ⟨by decide, by decide, by decide, _, fill_str3 a u b, rfl, trivial, fun g3 => ?_⟩
            have G3 := W3 g3 (by intro z hz; simp at hz; rcases hz with rfl | rfl | rfl; exact ha; exact hu; exact hb)
            have W := wayO_3 (f := legQ xs k p day) (a := a) (b := u) (c := b) (fun r hr => (legQ_ok ha hu hr).ok)
            rw [legQ_ne (fun h => z1 h.symm), legQ_ne z2] at W
            cases e1 : legO xs k p day a u with
            | none =>
              rw [e1] at W hq
              have W : wayO (legQ xs k p day) oneQ [a, u, b] = none := W
              rw [W] at G3
              have hq : rateQ xs k p day u a b = (zeroQ, 161) := hq
              refine .inr (.inr (.inl ⟨[(9300, 64)], [_, _], [_], _, [_], G3, rfl, ⟨.inl rfl, trivial⟩, rfl, rfl, RQ.A_fits _, fun c1 => absurd (show false = true from c1) (by decide), fun _ => ?_⟩))
              refine ⟨_, rfl, (RQ.of 0 0).A_fits, [], [], ⟨?_, rfl⟩, trivial, rfl⟩
              rw [hq]; exact resZ0 _
            | some x =>
              cases e2 : legO xs k p day u b with
              | none =>
                rw [e1, e2] at W hq
                have W : wayO (legQ xs k p day) oneQ [a, u, b] = none := W
                rw [W] at G3
                have hq : rateQ xs k p day u a b = (zeroQ, 161) := hq
                refine .inr (.inr (.inl ⟨[(9300, 64)], [_, _], [_], _, [_], G3, rfl, ⟨.inl rfl, trivial⟩, rfl, rfl, RQ.A_fits _, fun c1 => absurd (show false = true from c1) (by decide), fun _ => ?_⟩))
                refine ⟨_, rfl, (RQ.of 0 0).A_fits, [], [], ⟨?_, rfl⟩, trivial, rfl⟩
                rw [hq]; exact resZ0 _
              | some y =>
                rw [e1, e2] at W hq
                have W : wayO (legQ xs k p day) oneQ [a, u, b] = some (mulQ x y).1 := W
                have hq : rateQ xs k p day u a b = mulQ x y := hq
                have lx := legO_leg (cur_ne ha) (cur_ne hu) e1
                have ly := legO_leg (cur_ne hu) (cur_ne hb) e2
                obtain ⟨t, m1, -, -, -, -⟩ := mul_leg lx ly
                rw [m1] at W hq
                rw [W] at G3
                refine .inr (.inr (.inl ⟨[(9300, 64)], [_, _], [_], _, [_], G3, rfl, ⟨.inl rfl, trivial⟩, rfl, rfl, RQ.A_fits _, fun _ => ?_, fun c1 => absurd (show true = false from c1) (by decide)⟩))
                refine ⟨RQ.A_fits _, [], [], ⟨?_, rfl⟩, trivial, rfl⟩
                rw [hq]; rfl
          · have z2 : (!((S u).toList == (S b).toList)) = false := z2
            have z2 : u = b := str_eq (by simpa using z2)
            refine ⟨_, rfl, (RQ.of 0 0).A_fits, [], [], ⟨?_, rfl⟩, trivial, rfl⟩
            rw [rateQ_4 c d e (.inr z2)]; exact resZ0 _
        · have z1 : (!((S u).toList == (S a).toList)) = false := z1
          have z1 : u = a := str_eq (by simpa using z1)
          refine ⟨fun h => absurd h (by decide), fun _ => ?_⟩
          refine ⟨_, rfl, (RQ.of 0 0).A_fits, [], [], ⟨?_, rfl⟩, trivial, rfl⟩
          rw [rateQ_4 c d e (.inl z1)]; exact resZ0 _
end Go.Proofs.YtjkgmglmgndaoaaGreatDoor
namespace Go.Proofs.YtjkgmglmgndaoaaGreatDoor
open Go Go.RowKit Go.SX
/-- an amount in another currency -/
def convQ (a : Int) (r : RQ) (mode : Int) : Int × Int :=
  if a < -1000000000000000 ∨ a > 1000000000000000 then (0, 33) else if !r.ok then (0, 20) else if mode < 1 ∨ mode > 6 then (0, 31) else
  if (mulQ r (.of a 1)).2 ≠ 0 then (0, (mulQ r (.of a 1)).2) else rndI (rndQ (mulQ r (.of a 1)).1 0 mode)
end Go.Proofs.YtjkgmglmgndaoaaGreatDoor
namespace Go.Proofs.YtjkgmglmgndaoaaGreatDoor
open Go Go.RowKit Go.SX
set_option smartUnfolding false in
set_option maxRecDepth 100000 in
theorem Leg_r {E : Env} (hE : E.P = Tryz.prog) {v vp : Value} {xs : List QC} {p : PL} (h : MkR E v vp xs p) (k day : Int) {a b : List UInt8} : OwnC E 12 [SV.c v, SV.c (.agg (p.A vp)), SV.c (.int .i64 k), SV.c (.string (S a)), SV.c (.string (S b)), SV.c (.int .i64 day)] [] (fun x U => x = legR xs k p day a b ∧ U = []) := by
  refine sx_ownC [] tt_ok mixed at12 E hE [SV.c v, SV.c (.agg (p.A vp)), SV.c (.int .i64 k), SV.c (.string (S a)), SV.c (.string (S b)), SV.c (.int .i64 day)] [] _ rfl rfl fun w X β hT => ?_
  have hr := h.of_old hT
  obtain ⟨ap, capp, rfl, hcp, -⟩ := id hr.s.shape
  have F1 := p.size (.slice ap p.srcs.length capp)
  have CK := fun (g : Nat) => check_ero (E := (envC Tryz.prog tt Tryz.f12.ntmps w X (tiedK [] β)).toEnv) rfl hr day (cs := [a, b]) (n := 2) (vc := .slice (some ⟨g, 0, none⟩) 2 2) rfl (by decide)
  have LG := fun ha hb => leg_er (E := (envC Tryz.prog tt Tryz.f12.ntmps w X (tiedK [] β)).toEnv) rfl hr k day (a := a) (b := b) ha hb
  generalize p.A (.slice ap p.srcs.length capp) = PA at *
  refine ⟨F1, ?_⟩
  refine .inr ⟨by decide, by decide, by decide, _, fill_str2 a b, rfl, trivial, fun g => ?_⟩
  refine .inr (.inr (.inl ⟨[(9300, 23)], [_, _, _, _], [_], _, [_], CK g, rfl, ⟨.inl rfl, trivial⟩, rfl, rfl, fun c => ?_, fun c => ?_⟩))
  · have c : (mktC xs p day [a, b] != 0) = true := c
    refine ⟨_, rfl, (RQ.of 0 0).A_fits, [], [], ⟨?_, rfl⟩, trivial, rfl⟩
    rw [legR, if_neg (by simpa using c), if_neg (by simpa using c)]; rfl
  · have c : (mktC xs p day [a, b] != 0) = false := c
    have c : mktC xs p day [a, b] = 0 := by simpa using c
    obtain ⟨-, -, -, -, hall⟩ := mktC_ok c
    refine ⟨fun d => ?_, fun d => ?_⟩
    · have d := str_eq d
      refine ⟨_, rfl, (RQ.of 0 0).A_fits, [], [], ⟨?_, rfl⟩, trivial, rfl⟩
      rw [legR, if_pos c, if_pos c, c, show legQ xs k p day a b = none from if_pos d]; rfl
    · have d := str_ne d
      have G1 := LG (hall a (by simp)) (hall b (by simp))
      refine .inr (.inr (.inl ⟨[], [_, _, _, _, _, _], [], _, [], G1, rfl, trivial, rfl, rfl, RQ.A_fits _, RQ.A_fits _, [], [], ⟨?_, rfl⟩, trivial, rfl⟩))
      rw [legR, if_pos c, if_pos c, c, legQ_ne d]; rfl
set_option smartUnfolding false in
set_option maxRecDepth 100000 in
theorem Rate_r {E : Env} (hE : E.P = Tryz.prog) {v vp : Value} {xs : List QC} {p : PL} (h : MkR E v vp xs p) (k day : Int) {u a b : List UInt8} : OwnC E 14 [SV.c v, SV.c (.agg (p.A vp)), SV.c (.int .i64 k), SV.c (.string (S u)), SV.c (.string (S a)), SV.c (.string (S b)), SV.c (.int .i64 day)] [] (fun x U => x = resQ (rateQ xs k p day u a b) ∧ U = []) := by
  refine sx_ownC [] tt_ok mixed at14 E hE [SV.c v, SV.c (.agg (p.A vp)), SV.c (.int .i64 k), SV.c (.string (S u)), SV.c (.string (S a)), SV.c (.string (S b)), SV.c (.int .i64 day)] [] _ rfl rfl fun w X β hT => ?_
  have hr := h.of_old hT
  obtain ⟨ap, capp, rfl, hcp, -⟩ := id hr.s.shape
  have F1 := p.size (.slice ap p.srcs.length capp)
  have CK := fun (g : Nat) => check_ero (E := (envC Tryz.prog tt Tryz.f14.ntmps w X (tiedK [] β)).toEnv) rfl hr day (cs := [u, a, b]) (n := 3) (vc := .slice (some ⟨g, 0, none⟩) 3 3) rfl (by decide)
  have LG := fun a b ha hb => leg_er (E := (envC Tryz.prog tt Tryz.f14.ntmps w X (tiedK [] β)).toEnv) rfl hr k day (a := a) (b := b) ha hb
  generalize p.A (.slice ap p.srcs.length capp) = PA at *
  refine ⟨F1, ?_⟩
  refine .inr ⟨by decide, by decide, by decide, _, fill_str3 u a b, rfl, trivial, fun g => ?_⟩
  refine .inr (.inr (.inl ⟨[(9300, 29)], [_, _, _, _], [_], _, [_], CK g, rfl, ⟨.inl rfl, trivial⟩, rfl, rfl, fun c => ?_, fun c => ?_⟩))
  · have c : (mktC xs p day [u, a, b] != 0) = true := c
    refine ⟨_, rfl, (RQ.of 0 0).A_fits, [], [], ⟨?_, rfl⟩, trivial, rfl⟩
    rw [rateQ_1 (by simpa using c)]; exact resZ0 _
  · have c : (mktC xs p day [u, a, b] != 0) = false := c
    have c : mktC xs p day [u, a, b] = 0 := by simpa using c
    obtain ⟨-, -, -, -, hall⟩ := mktC_ok c
    have hu := hall u (by simp)
    have ha := hall a (by simp)
    have hb := hall b (by simp)
    refine ⟨fun d => ?_, fun d => ?_⟩
    · have d := str_eq d
      refine .inl ⟨_, one_r, RQ.A_fits _, [], [], ⟨?_, rfl⟩, trivial, rfl⟩
      rw [rateQ_2 c d]; rfl
    · have d := str_ne d
      have G1 := LG a b ha hb
      cases e : legO xs k p day a b with
      | some r =>
        rw [e] at G1
        refine .inr (.inr (.inl ⟨[], [_, _, _, _, _, _], [], _, [], G1, rfl, trivial, rfl, rfl, RQ.A_fits _, fun _ => ?_, fun c1 => absurd (show true = false from c1) (by decide)⟩))
        refine ⟨RQ.A_fits _, [], [], ⟨?_, rfl⟩, trivial, rfl⟩
        rw [rateQ_3 c d e]; rfl
      | none =>
        rw [e] at G1
        refine .inr (.inr (.inl ⟨[], [_, _, _, _, _, _], [], _, [], G1, rfl, trivial, rfl, rfl, RQ.A_fits _, fun c1 => absurd (show false = true from c1) (by decide), fun _ => ?_⟩))
        refine ⟨fun z1 => ?_, fun z1 => ?_⟩
        · have z1 := str_ne z1
          refine ⟨fun z2 => ?_, fun z2 => ?_⟩
          · have z2 : u = b := str_eq z2
            refine ⟨_, rfl, (RQ.of 0 0).A_fits, [], [], ⟨?_, rfl⟩, trivial, rfl⟩
            rw [rateQ_4 c d e (.inr z2)]; exact resZ0 _
          · have z2 : u ≠ b := str_ne z2
            have hq := rateQ_5 c d e (by rintro (h | h); exact z1 h; exact z2 h)
            have G2 := LG a u ha hu
            have G3 := LG u b hu hb
            cases e1 : legO xs k p day a u with
            | none =>
              rw [e1] at G2 hq
              have hq : rateQ xs k p day u a b = (zeroQ, 161) := hq
              refine .inr (.inr (.inl ⟨[], [_, _, _, _, _, _], [], _, [], G2, rfl, trivial, rfl, rfl, RQ.A_fits _, ?_⟩))
              refine .inr (.inr (.inl ⟨[], [_, _, _, _, _, _], [], _, [], G3, rfl, trivial, rfl, rfl, RQ.A_fits _, ?_⟩))
              refine ⟨fun c1 => absurd (show true = false from c1) (by decide), fun _ => ⟨fun _ => ?_, fun c1 => absurd (show true = false from c1) (by decide)⟩⟩
              refine ⟨_, rfl, (RQ.of 0 0).A_fits, [], [], ⟨?_, rfl⟩, trivial, rfl⟩
              rw [hq]; exact resZ0 _
            | some x =>
              rw [e1] at G2
              have lx := legO_leg (cur_ne ha) (cur_ne hu) e1
              refine .inr (.inr (.inl ⟨[], [_, _, _, _, _, _], [], _, [], G2, rfl, trivial, rfl, rfl, RQ.A_fits _, ?_⟩))
              cases e2 : legO xs k p day u b with
              | none =>
                rw [e1, e2] at hq
                rw [e2] at G3
                have hq : rateQ xs k p day u a b = (zeroQ, 161) := hq
                refine .inr (.inr (.inl ⟨[], [_, _, _, _, _, _], [], _, [], G3, rfl, trivial, rfl, rfl, RQ.A_fits _, ?_⟩))
                refine ⟨fun _ => ⟨fun _ => ?_, fun c1 => absurd (show true = false from c1) (by decide)⟩, fun c1 => absurd (show false = true from c1) (by decide)⟩
                refine ⟨_, rfl, (RQ.of 0 0).A_fits, [], [], ⟨?_, rfl⟩, trivial, rfl⟩
                rw [hq]; exact resZ0 _
              | some y =>
                rw [e1, e2] at hq
                rw [e2] at G3
                have hq : rateQ xs k p day u a b = mulQ x y := hq
                have ly := legO_leg (cur_ne hu) (cur_ne hb) e2
                refine .inr (.inr (.inl ⟨[], [_, _, _, _, _, _], [], _, [], G3, rfl, trivial, rfl, rfl, RQ.A_fits _, ?_⟩))
                refine ⟨fun _ => ⟨fun c1 => absurd (show false = true from c1) (by decide), fun _ => ?_⟩, fun c1 => absurd (show false = true from c1) (by decide)⟩
                refine .inl ⟨_, mulR_r lx.in_ ly.in_, RQ.A_fits _, [], [], ⟨?_, rfl⟩, trivial, rfl⟩
                rw [hq]; rfl
        · have z1 := str_eq z1
          refine ⟨fun _ => ?_, fun h => absurd h (by decide)⟩
          refine ⟨_, rfl, (RQ.of 0 0).A_fits, [], [], ⟨?_, rfl⟩, trivial, rfl⟩
          rw [rateQ_4 c d e (.inl z1)]; exact resZ0 _
theorem convQ_1 {a : Int} {r : RQ} {mode : Int} (h : a < -1000000000000000 ∨ a > 1000000000000000) : convQ a r mode = (0, 33) := by unfold convQ; rw [if_pos h]
theorem convQ_2 {a : Int} {r : RQ} {mode : Int} (h : ¬ (a < -1000000000000000 ∨ a > 1000000000000000)) (h2 : r.ok = false) : convQ a r mode = (0, 20) := by unfold convQ; rw [if_neg h, h2]; rfl
theorem convQ_3 {a : Int} {r : RQ} {mode : Int} (h : ¬ (a < -1000000000000000 ∨ a > 1000000000000000)) (h2 : r.ok = true) (h3 : mode < 1 ∨ mode > 6) : convQ a r mode = (0, 31) := by unfold convQ; rw [if_neg h, h2, if_neg (by simp), if_pos h3]
theorem convQ_4 {a : Int} {r : RQ} {mode : Int} (h : ¬ (a < -1000000000000000 ∨ a > 1000000000000000)) (h2 : r.ok = true) (h3 : ¬ (mode < 1 ∨ mode > 6)) (h4 : (mulQ r (.of a 1)).2 ≠ 0) : convQ a r mode = (0, (mulQ r (.of a 1)).2) := by unfold convQ; rw [if_neg h, h2, if_neg (by simp), if_neg h3, if_pos h4]
theorem convQ_5 {a : Int} {r : RQ} {mode : Int} (h : ¬ (a < -1000000000000000 ∨ a > 1000000000000000)) (h2 : r.ok = true) (h3 : ¬ (mode < 1 ∨ mode > 6)) (h4 : ¬ (mulQ r (.of a 1)).2 ≠ 0) : convQ a r mode = rndI (rndQ (mulQ r (.of a 1)).1 0 mode) := by unfold convQ; rw [if_neg h, h2, if_neg (by simp), if_neg h3, if_neg h4]
set_option smartUnfolding false in
set_option maxRecDepth 100000 in
theorem Convert_e {r : RQ} (hr : r.In) {a : Int} (ha : -9223372036854775808 ≤ a ∧ a ≤ 9223372036854775807) (mode : Int) : Pure Tryz.prog 29 [SV.c (.int .i64 a), SV.c (.agg r.A), SV.c (.int .i64 mode)] (resI (convQ a r mode)) := by
  refine sx_pure tt_ok mixed at29 _ _ rfl rfl fun w => ?_
  have hof : (RQ.of a 1).In := RQ.of_in (by have := two64; omega) (by have := two64; show (1 : Int).natAbs < _; omega)
  refine ⟨r.A_size, fun c => ?_, fun c => ?_⟩
  · have c := of_decide_eq_false (show decide (a < -1000000000000000) = false from c)
    refine ⟨fun d => ?_, fun d => ?_⟩
    · have d := of_decide_eq_true (show decide (a > 1000000000000000) = true from d)
      refine ⟨?_, trivial⟩
      rw [convQ_1 (.inr d)]; rfl
    · have d := of_decide_eq_false (show decide (a > 1000000000000000) = false from d)
      have hN : ¬ (a < -1000000000000000 ∨ a > 1000000000000000) := by omega
      refine .inl ⟨_, valid_raw hr, fun v => ?_, fun v => ?_⟩
      · have v : (!r.ok) = true := v
        have v : r.ok = false := by simpa using v
        refine ⟨?_, trivial⟩
        rw [convQ_2 hN v]; rfl
      · have v : (!r.ok) = false := v
        have v : r.ok = true := by simpa using v
        have tail : ¬ (mode < 1 ∨ mode > 6) → True := fun _ => trivial
        refine ⟨fun m1 => ?_, fun m1 => ?_⟩
        · have m1 := of_decide_eq_false (show decide (mode < 1) = false from m1)
          refine ⟨fun m2 => ?_, fun m2 => ?_⟩
          · have m2 := of_decide_eq_true (show decide (mode > 6) = true from m2)
            refine ⟨?_, trivial⟩
            rw [convQ_3 hN v (.inr m2)]; rfl
          · have m2 := of_decide_eq_false (show decide (mode > 6) = false from m2)
            have hM : ¬ (mode < 1 ∨ mode > 6) := by omega
            refine .inl ⟨_, whole1_z (n := a) ha.1 ha.2, .inl ⟨_, mulR_z hr hof, RQ.A_fits _, by kernel_rfl, fun e => ?_, fun e => ?_⟩⟩
            · have e : ((mulQ r (.of a 1)).2 != 0) = true := e
              have e : (mulQ r (.of a 1)).2 ≠ 0 := by simpa using e
              refine ⟨?_, trivial⟩
              rw [convQ_4 hN v hM e]; rfl
            · have e : ((mulQ r (.of a 1)).2 != 0) = false := e
              have e : ¬ (mulQ r (.of a 1)).2 ≠ 0 := by simpa using e
              refine .inl ⟨_, roundInt_z (mulQ_in _ _) 0 mode, ?_, trivial⟩
              rw [convQ_5 hN v hM e]; rfl
        · have m1 := of_decide_eq_true (show decide (mode < 1) = true from m1)
          refine ⟨fun _ => ?_, fun h => absurd h (by decide)⟩
          refine ⟨?_, trivial⟩
          rw [convQ_3 hN v (.inl m1)]; rfl
  · have c := of_decide_eq_true (show decide (a < -1000000000000000) = true from c)
    refine ⟨fun _ => ?_, fun h => absurd h (by decide)⟩
    refine ⟨?_, trivial⟩
    rw [convQ_1 (.inl c)]; rfl
end Go.Proofs.YtjkgmglmgndaoaaGreatDoor
