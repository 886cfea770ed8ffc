/- walks: texts of decimals; no condition. -/
import Derived.Test.YtnfmpddhcjkjbaaGreatDoorV13
import Derived.Laws.Slices
import Derived.Laws.Strings3
namespace Go.Proofs.YtnfmpddhcjkjbaaGreatDoor
open Go Go.RowKit Go.SX
/-- a string by its bytes -/
def S (l : List UInt8) : ByteArray := ⟨l.toArray⟩
theorem S_size (l : List UInt8) : (S l).size = l.length := by show l.toArray.size = _; simp
theorem S_inj {a b : List UInt8} : S a = S b ↔ a = b := by
  constructor
  · intro h
    have : (S a).data = (S b).data := by rw [h]
    exact List.toArray_inj this
  · intro h; rw [h]
theorem S_of (s : ByteArray) : s = S s.data.toList := by simp [S]
theorem S_data (l : List UInt8) : (S l).data.toList = l := rfl
theorem S_beq (a b : List UInt8) : ((S a).toList == (S b).toList) = decide (a = b) := by
  rw [ByteArray.toList_eq, ByteArray.toList_eq]
  show (a == b) = _
  rw [Bool.eq_iff_iff]; simp
theorem S_add (a b : List UInt8) : S a ++ S b = S (a ++ b) := by
  apply ByteArray.ext
  show (S a ++ S b).data = _
  rw [ByteArray.data_append]
  simp [S]
theorem S_ext (l : List UInt8) (a b : Nat) : (S l).extract a b = S ((l.take b).drop a) := by
  apply ByteArray.ext
  rw [ByteArray.data_extract]
  apply Array.ext'
  simp [S, List.drop_take]
theorem run_len_S {P : Program} {t ty : TypeId} (hu : P.underlying t = some .string) {cs : Array Bool} {l : List UInt8} (w : World) : (builtin .len #[t] ty cs #[.string (S l)]).run P w = .ok (.value (.int .i64 (l.length : Nat))) w := by
  simp [builtin, Builtin.len_, Sem.run_bind, run_underlying hu, goInt, S_size]
theorem runs_hi {E : Env} {t : TypeId} (hu : E.P.underlying t = some .string) {l : List UInt8} {k : IntKind} {x : Int} (n : Nat) (hx : x = n) (hn : n ≤ l.length) : Runs E (Instr.sliceAt t (.string (S l)) none (some (.int k x)) none) (.string (S (l.take n))) := fun w _ => by
  subst hx
  have h := run_slice_string_h (P := E.P) w t (S l) hu k n (by omega) (by rw [S_size]; omega)
  simp only [Instr.sliceAt, Sem.run_bind, run_underlying hu, Result.andThen_ok]
  rw [h, S_ext]
  simp
theorem runs_lo {E : Env} {t : TypeId} (hu : E.P.underlying t = some .string) {l : List UInt8} {k : IntKind} {x : Int} (n : Nat) (hx : x = n) (hn : n ≤ l.length) : Runs E (Instr.sliceAt t (.string (S l)) (some (.int k x)) none none) (.string (S (l.drop n))) := fun w _ => by
  subst hx
  have h := run_slice_string_l (P := E.P) w t (S l) hu k n (by omega) (by rw [S_size]; omega)
  simp only [Instr.sliceAt, Sem.run_bind, run_underlying hu, Result.andThen_ok]
  rw [h, S_ext, S_size]
  simp
theorem runs_idx {E : Env} {t : TypeId} (hu : E.P.underlying t = some .string) {l : List UInt8} {k : IntKind} {x : Int} (n : Nat) (hx : x = n) (hn : n < l.length) : Runs E (Instr.index t (.string (S l)) (.int k x)) (.int .u8 ((l.getD n 0).toNat : Nat)) := by
  subst hx
  refine runs_index hu (by omega) (b := l.getD n 0) ?_
  show l.toArray[(n : Int).toNat]? = _
  rw [Int.toNat_natCast, List.getElem?_toArray, List.getD_eq_getElem?_getD, List.getElem?_eq_getElem hn]
  rfl
theorem run_lenE {P : Program} {t ty : TypeId} (hu : P.underlying t = some .string) {cs : Array Bool} {s : ByteArray} {l : List UInt8} (hs : s = S l) (w : World) : (builtin .len #[t] ty cs #[.string s]).run P w = .ok (.value (.int .i64 (l.length : Nat))) w := by subst hs; exact run_len_S hu w
theorem runs_hiE {E : Env} {t : TypeId} (hu : E.P.underlying t = some .string) {s : ByteArray} {l : List UInt8} (hs : s = S l) {k : IntKind} {x : Int} (n : Nat) (hx : x = n) (hn : n ≤ l.length) : Runs E (Instr.sliceAt t (.string s) none (some (.int k x)) none) (.string (S (l.take n))) := by subst hs; exact runs_hi hu n hx hn
theorem runs_loE {E : Env} {t : TypeId} (hu : E.P.underlying t = some .string) {s : ByteArray} {l : List UInt8} (hs : s = S l) {k : IntKind} {x : Int} (n : Nat) (hx : x = n) (hn : n ≤ l.length) : Runs E (Instr.sliceAt t (.string s) (some (.int k x)) none none) (.string (S (l.drop n))) := by subst hs; exact runs_lo hu n hx hn
theorem sv {a b : ByteArray} (h : a = b) : Value.string a = .string b := by rw [h]
theorem c_str {a b : ByteArray} (h : a = b) : SV.c (.string a) = SV.c (.string b) := by rw [h]
set_option smartUnfolding false in
set_option maxRecDepth 100000 in
theorem hasPre_z (l p : List UInt8) : Pure Tryz.prog 193 [SV.c (.string (S l)), SV.c (.string (S p))] (.bool (decide (p.length ≤ l.length ∧ l.take p.length = p))) := by
  refine sx_pure tt_ok mixed at193 _ _ rfl rfl fun w => ?_
  refine ⟨_, fun w _ => run_len_S Tryz.underlying9 w, _, fun w _ => run_len_S Tryz.underlying9 w, fun h => ?_, fun h => ?_⟩
  · have h : p.length ≤ l.length := by have := of_decide_eq_true h; omega
    refine ⟨_, fun w _ => run_len_S Tryz.underlying9 w, _, runs_hi Tryz.underlying9 p.length rfl h, bv ?_, trivial⟩
    rw [S_beq, Bool.eq_iff_iff]
    simp [h]
  · have h : ¬ (p.length ≤ l.length) := by have := of_decide_eq_false h; omega
    refine ⟨bv ?_, trivial⟩
    rw [Bool.eq_iff_iff]
    simp [h]
set_option smartUnfolding false in
set_option maxRecDepth 100000 in
theorem hasPre2_z (l p : List UInt8) : Pure Tryz.prog 195 [SV.c (.string (S l)), SV.c (.string (S p))] (.bool (decide (p.length ≤ l.length ∧ l.take p.length = p))) := by
  refine sx_pure tt_ok mixed at195 _ _ rfl rfl fun w => ?_
  exact .inl ⟨_, hasPre_z l p, rfl, trivial⟩
/-- without the prefix, if it is there -/
def cutP (l p : List UInt8) : List UInt8 × Bool := if p.length ≤ l.length ∧ l.take p.length = p then (l.drop p.length, true) else (l, false)
set_option smartUnfolding false in
set_option maxRecDepth 100000 in
theorem cutPre_z (l p : List UInt8) : Pure Tryz.prog 186 [SV.c (.string (S l)), SV.c (.string (S p))] (.tuple #[.string (S (cutP l p).1), .bool (cutP l p).2]) := by
  refine sx_pure tt_ok mixed at186 _ _ rfl rfl fun w => ?_
  refine .inl ⟨_, hasPre_z l p, fun h => ?_, fun h => ?_⟩
  · have h := of_decide_eq_false (bnt h)
    refine ⟨?_, trivial⟩
    rw [cutP, if_neg h]; rfl
  · have h := of_decide_eq_true (bnf h)
    refine ⟨_, fun w _ => run_len_S Tryz.underlying9 w, _, runs_lo Tryz.underlying9 p.length rfl h.1, ?_, trivial⟩
    rw [cutP, if_pos h]; rfl
set_option smartUnfolding false in
set_option maxRecDepth 100000 in
theorem cutPre2_z (l p : List UInt8) : Pure Tryz.prog 173 [SV.c (.string (S l)), SV.c (.string (S p))] (.tuple #[.string (S (cutP l p).1), .bool (cutP l p).2]) := by
  refine sx_pure tt_ok mixed at173 _ _ rfl rfl fun w => ?_
  exact .inl ⟨_, cutPre_z l p, rfl, trivial⟩
/-- without the last bytes that are c -/
def trimR (c : UInt8) (l : List UInt8) : List UInt8 := (l.reverse.dropWhile (· == c)).reverse
theorem trimR_snoc (c x : UInt8) (l : List UInt8) : trimR c (l ++ [x]) = if x = c then trimR c l else l ++ [x] := by
  unfold trimR
  by_cases h : x = c
  · simp [h]
  · simp [h]
theorem trimR_len (c : UInt8) (l : List UInt8) : (trimR c l).length ≤ l.length := by
  unfold trimR
  rw [List.length_reverse]
  have := (List.dropWhile_sublist (· == c) (l := l.reverse)).length_le
  simpa using this
theorem trimR_nil (c : UInt8) : trimR c [] = [] := rfl
theorem snoc_of {l : List UInt8} (h : 0 < l.length) : l = l.take (l.length - 1) ++ [l.getD (l.length - 1) 0] := by
  rw [List.getD_eq_getElem?_getD, List.getElem?_eq_getElem (by omega)]
  simp only [Option.getD_some]
  rw [List.take_append_getElem (by omega), Nat.sub_add_cancel h, List.take_length]
set_option smartUnfolding false in
set_option maxRecDepth 100000 in
theorem trimB_z (l : List UInt8) (c : UInt8) (hl : l.length ≤ 9223372036854775807) : Pure Tryz.prog 188 [SV.c (.string (S l)), SV.c (.int .u8 (c.toNat : Nat))] (.string (S (trimR c l))) := by
  refine sx_pure tt_ok mixed at188 _ _ rfl rfl fun w => ?_
  refine ⟨fun q f m => ∃ k : List UInt8, q = k.length ∧ k.length ≤ 9223372036854775807 ∧ trimR c k = trimR c l ∧ f = [(0, SV.c (.string (S k))), (1, SV.c (.int .u8 (c.toNat : Nat)))] ∧ m = [], l.length, ⟨_, _, ⟨l, rfl, hl, rfl, rfl, rfl⟩, ⟨rfl, rfl, trivial⟩, trivial, rfl⟩, ?_⟩
  rintro q f m ⟨k, rfl, h63, hk, rfl, rfl⟩
  have hn : 0 < k.length → IntKind.i64.wrap ((k.length : Int) - 1) = ((k.length - 1 : Nat) : Int) := fun h => by rw [i64_in (by omega)]; omega
  refine ⟨_, fun w _ => run_len_S Tryz.underlying9 w, fun h => ?_, fun h => ?_⟩
  · have h : 0 < k.length := by have := of_decide_eq_true h; omega
    have hs := snoc_of h
    refine ⟨_, fun w _ => run_len_S Tryz.underlying9 w, _, runs_idx Tryz.underlying9 (k.length - 1) (hn h) (by omega), fun h2 => ?_, fun h2 => ?_⟩
    · have h2 : k.getD (k.length - 1) 0 = c := by
        have : (((k.getD (k.length - 1) 0).toNat : Nat) : Int) = (c.toNat : Nat) := by simpa using h2
        exact UInt8.toNat_inj.1 (by omega)
      refine ⟨_, fun w _ => run_len_S Tryz.underlying9 w, _, runs_hi Tryz.underlying9 (k.length - 1) (hn h) (by omega), ?_⟩
      refine ⟨k.length - 1, _, _, by omega, ⟨k.take (k.length - 1), by simp, by simp; omega, ?_, rfl, rfl⟩, ⟨rfl, rfl, trivial⟩, trivial, rfl⟩
      rw [hs, trimR_snoc, if_pos h2] at hk
      exact hk
    · have h2 : k.getD (k.length - 1) 0 ≠ c := by
        intro e
        rw [e] at h2; simp at h2
      refine ⟨?_, trivial⟩
      rw [hs, trimR_snoc, if_neg h2, ← hs] at hk
      rw [← hk]; rfl
  · have h : k.length = 0 := by have := of_decide_eq_false h; omega
    have h : k = [] := List.length_eq_zero_iff.1 h
    subst h
    refine ⟨nofun, fun _ => ⟨?_, trivial⟩⟩
    rw [← hk]; rfl
set_option smartUnfolding false in
set_option maxRecDepth 100000 in
theorem trim_z (l : List UInt8) (c : UInt8) (hl : l.length ≤ 9223372036854775807) (hc : c.toNat < 128) : Pure Tryz.prog 176 [SV.c (.string (S l)), SV.c (.string (S [c]))] (.string (S (trimR c l))) := by
  refine sx_pure tt_ok mixed at176 _ _ rfl rfl fun w => ?_
  have e1 : ((S l).toList == (S []).toList) = decide (l = []) := S_beq l []
  have e2 : ((S [c]).toList == (S []).toList) = false := by rw [S_beq]; simp
  refine ⟨fun h => ⟨fun h2 => ?_, fun h2 => ?_⟩, fun h => ?_⟩
  · exact absurd (e2.symm.trans h2) (by simp)
  · refine ⟨_, fun w _ => run_len_S Tryz.underlying9 w, fun _ => ⟨_, runs_idx Tryz.underlying9 0 rfl (by simp), fun h3 => ⟨_, runs_idx Tryz.underlying9 0 rfl (by simp), .inl ⟨_, trimB_z l c hl, rfl, trivial⟩⟩, fun h3 => ?_⟩, nofun⟩
    exfalso
    have h3 := of_decide_eq_false h3
    apply h3
    show ((c.toNat : Nat) : Int) < 128
    omega
  · have h : l = [] := of_decide_eq_true (e1.symm.trans h)
    subst h
    exact ⟨fun _ => ⟨rfl, trivial⟩, nofun⟩
set_option smartUnfolding false in
set_option maxRecDepth 100000 in
theorem mul64_z (n : Nat) (h : n ≤ 10) : Pure Tryz.prog 204 [SV.c (.int .u64 1), SV.c (.int .u64 (n : Nat))] (.tuple #[.int .u64 0, .int .u64 (n : Nat)]) := by
  obtain rfl | rfl | rfl | rfl | rfl | rfl | rfl | rfl | rfl | rfl | rfl : n = 0 ∨ n = 1 ∨ n = 2 ∨ n = 3 ∨ n = 4 ∨ n = 5 ∨ n = 6 ∨ n = 7 ∨ n = 8 ∨ n = 9 ∨ n = 10 := by omega
  all_goals
    refine sx_pure tt_ok mixed at204 _ _ rfl rfl fun w => ?_
    exact ⟨by decide, by decide, by decide, by decide, by decide, by kernel_rfl, trivial⟩
set_option smartUnfolding false in
set_option maxRecDepth 100000 in
theorem mulU_z (n : Nat) (h : n ≤ 10) : Pure Tryz.prog 194 [SV.c (.int .u64 1), SV.c (.int .u64 (n : Nat))] (.tuple #[.int .u64 0, .int .u64 (n : Nat)]) := by
  refine sx_pure tt_ok mixed at194 _ _ rfl rfl fun w => ?_
  exact ⟨nofun, fun _ => .inl ⟨_, mul64_z n h, rfl, trivial⟩⟩
/-- 64 zeros -/
def zeros64 : List UInt8 := List.replicate 64 48
set_option smartUnfolding false in
set_option maxRecDepth 100000 in
theorem repeat_z (n : Nat) (h0 : 0 < n) (h : n ≤ 10) : Pure Tryz.prog 187 [SV.c (.string (S [48])), SV.c (.int .i64 (n : Nat))] (.string (S (List.replicate n 48))) := by
  refine sx_pure tt_ok mixed at187 _ _ rfl rfl fun w => ?_
  have hp : Pure Tryz.prog 195 [SV.c (.string (S zeros64)), SV.c (.string (S [48]))] (.bool true) := hasPre2_z zeros64 [48]
  have e1 : IntKind.u64.wrap ((n : Nat) : Int) = (n : Nat) := u64_in (by omega)
  have hm := mulU_z n h
  have ht : zeros64.take n = List.replicate n 48 := by rw [zeros64, List.take_replicate]; congr 1; omega
  refine ⟨fun h1 => ?_, fun h1 => ⟨fun h2 => ?_, fun h2 => ⟨fun h3 => ?_, fun h3 => ⟨_, fun w _ => run_len_S Tryz.underlying9 w, ?_⟩⟩⟩⟩
  · exfalso
    have : (n : Int) = 0 := by simpa using h1
    omega
  · have h2 : n = 1 := by have : (n : Int) = 1 := by simpa using h2
                          omega
    subst h2
    exact ⟨rfl, trivial⟩
  · exfalso
    have := of_decide_eq_true h3
    omega
  · have hm' : Pure Tryz.prog 194 [SV.c (.int .u64 1), SV.c (.int .u64 (IntKind.u64.wrap ((n : Nat) : Int)))] (.tuple #[.int .u64 0, .int .u64 (n : Nat)]) := by rw [e1]; exact hm
    have e2 : IntKind.i64.wrap ((n : Nat) : Int) = (n : Nat) := i64_in (by omega)
    refine .inl ⟨_, hm', fun _ => ⟨fun h4 => ?_, fun h4 => ?_⟩, nofun⟩
    · exfalso
      have := of_decide_eq_true h4
      have : ((n : Nat) : Int) > 9223372036854775807 := this
      omega
    · refine ⟨_, fun w _ => run_len_S Tryz.underlying9 w, nofun, fun _ => ⟨_, runs_idx Tryz.underlying9 0 rfl (by decide), nofun, fun _ => ⟨nofun, fun _ => ⟨fun _ => ?_, nofun⟩⟩⟩⟩
      refine ⟨fun _ => ⟨fun h5 => .inl ⟨_, hasPre2_z _ [48], fun h6 => absurd h6 (by decide), fun _ => ⟨fun h7 => .inl ⟨_, hasPre2_z _ [48], fun h6 => absurd h6 (by decide), fun _ => ⟨fun h8 => ?_, fun h8 => ?_⟩⟩, fun h7 => ?_⟩⟩, fun h5 => ?_⟩, nofun⟩
      · refine .inl ⟨_, hasPre2_z zeros64 [48], fun _ => ⟨_, runs_hi (l := zeros64) Tryz.underlying9 n e2 (by show n ≤ 64; omega), ?_, trivial⟩, fun h6 => absurd h6 (by decide)⟩
        rw [ht]; rfl
      · exfalso
        have h8 := of_decide_eq_false h8
        rw [e2] at h8; omega
      · exfalso
        have h7 := of_decide_eq_false h7
        rw [e2] at h7; omega
      · exfalso
        have h5 := of_decide_eq_false h5
        rw [e2] at h5; omega
/-- with zeros in front, so that there are more than k digits -/
def padZ (k : Nat) (l : List UInt8) : List UInt8 := if l.length ≤ k then List.replicate (k + 1 - l.length) 48 ++ l else l
theorem padZ_len (k : Nat) (l : List UInt8) : k < (padZ k l).length := by
  unfold padZ; split
  · simp; omega
  · omega
set_option smartUnfolding false in
set_option maxRecDepth 100000 in
theorem point_z (l : List UInt8) (k : Nat) (hk : k ≤ 9) (h0 : 0 < l.length) (hl : l.length ≤ 1000) : Pure Tryz.prog 175 [SV.c (.string (S l)), SV.c (.int .i64 (k : Nat))] (.tuple #[.string (S ((padZ k l).take ((padZ k l).length - k))), .string (S ((padZ k l).drop ((padZ k l).length - k)))]) := by
  refine sx_pure tt_ok mixed at175 _ _ rfl rfl fun w => ?_
  refine ⟨_, fun w _ => run_len_S Tryz.underlying9 w, fun h => ?_, fun h => ?_⟩
  · have h : l.length ≤ k := by have := of_decide_eq_true h; omega
    have ep : padZ k l = List.replicate (k + 1 - l.length) 48 ++ l := if_pos h
    have e1 : IntKind.i64.wrap (IntKind.i64.wrap ((k : Int) + 1) - (l.length : Nat)) = ((k + 1 - l.length : Nat) : Int) := by rw [i64_in (x := (k : Int) + 1) (by omega), i64_in (by omega)]; omega
    have hr := repeat_z (k + 1 - l.length) (by omega) (by omega)
    rw [← e1] at hr
    have es : S (List.replicate (k + 1 - l.length) 48) ++ S l = S (padZ k l) := by rw [S_add, ep]
    have el := padZ_len k l
    have el2 : (padZ k l).length ≤ 1000 := by rw [ep]; simp; omega
    have e2 : IntKind.i64.wrap (((padZ k l).length : Int) - (k : Nat)) = (((padZ k l).length - k : Nat) : Int) := by rw [i64_in (by omega)]; omega
    exact ⟨_, fun w _ => run_len_S Tryz.underlying9 w, .inl ⟨_, hr, by rw [S_size, S_size]; simp; omega, _, fun w _ => run_lenE Tryz.underlying9 es w, _, runs_hiE Tryz.underlying9 es _ e2 (by omega), _, fun w _ => run_lenE Tryz.underlying9 es w, _, runs_loE Tryz.underlying9 es _ e2 (by omega), by kernel_rfl, rfl, trivial⟩⟩
  · have h : ¬ l.length ≤ k := by have := of_decide_eq_false h; omega
    have ep : padZ k l = l := if_neg h
    rw [ep]
    have e1 : IntKind.i64.wrap ((l.length : Int) - (k : Nat)) = ((l.length - k : Nat) : Int) := by rw [i64_in (by omega)]; omega
    exact ⟨_, fun w _ => run_len_S Tryz.underlying9 w, _, runs_hi Tryz.underlying9 (l.length - k) e1 (by omega), _, fun w _ => run_len_S Tryz.underlying9 w, _, runs_lo Tryz.underlying9 (l.length - k) e1 (by omega), by kernel_rfl, rfl, trivial⟩
/-- the shortest decimal of z / 10^k, or the error -/
def txtZ (z : Int) (k : Nat) : List UInt8 × Int :=
  let s := padZ k (fmtN z.natAbs)
  let p := trimR 48 (s.drop (s.length - k))
  if 15 < s.length - k then ([], 32) else ((if z < 0 then [45] else []) ++ s.take (s.length - k) ++ (if p = [] then [] else 46 :: p), 0)
def txtQ (r : RQ) (n : Int) : List UInt8 × Int := if !r.ok then ([], 20) else if n < 0 ∨ n > 9 then ([], 30) else if r.p * (tp n.toNat : Nat) % r.q ≠ 0 then ([], 32) else txtZ (r.p * (tp n.toNat : Nat) / r.q) n.toNat
def resS (x : List UInt8 × Int) : Value := .tuple #[.string (S x.1), .int .i64 x.2]
theorem fmtN_dig {N : Nat} : ∀ b ∈ fmtN N, 48 ≤ b.toNat ∧ b.toNat ≤ 57 := by
  intro b hb
  unfold fmtN at hb
  split at hb
  · simp at hb; subst hb; decide
  · exact rdig_isdig b (List.mem_reverse.1 hb)
theorem fmtN_pos (N : Nat) : 0 < (fmtN N).length := by
  unfold fmtN
  split
  · simp
  · rename_i h; rw [rdig_pos h]; simp
theorem fmtN_len {k N : Nat} (hk : 0 < k) (h : N < 10 ^ k) : (fmtN N).length ≤ k := by
  unfold fmtN
  split
  · simp; omega
  · rw [List.length_reverse]; exact rdig_len k N h
theorem cut_minus (z : Int) : cutP (fmtZ z) [45] = (fmtN z.natAbs, decide (z < 0)) := by
  unfold fmtZ cutP
  by_cases h : z < 0
  · simp [h]
  · rw [if_neg h]
    have h0 := fmtN_pos z.natAbs
    cases hl : fmtN z.natAbs with
    | nil => rw [hl] at h0; simp at h0
    | cons a r =>
      have := fmtN_dig a (by rw [hl]; simp)
      rw [if_neg]
      · simp [h]
      · rintro ⟨-, h2⟩
        simp at h2
        subst h2
        simp at this
set_option exponentiation.threshold 2000 in
theorem bits_dec {N : Nat} (h : N < 2 ^ 960) : N < 10 ^ 309 := Nat.lt_trans h (by decide)
set_option exponentiation.threshold 2000 in
set_option smartUnfolding false in
set_option maxRecDepth 100000 in
set_option maxHeartbeats 2000000 in
theorem text_z {r : RQ} (hr : r.In) (n : Int) : Pure Tryz.prog 144 [SV.c (.agg r.A), SV.c (.int .i64 n)] (resS (txtQ r n)) := by
  refine sx_pure tt_ok mixed at144 _ _ rfl rfl fun w => ?_
  have hc := check_z hr n
  rcases Decidable.em (r.ok = true) with hk | hk
  case inr =>
    have hk : r.ok = false := by simpa using hk
    rw [hk, Bool.not_false, if_pos rfl] at hc
    refine ⟨r.A_size, .inl ⟨_, hc, fun _ => ⟨?_, trivial⟩, nofun⟩⟩
    rw [txtQ, hk, Bool.not_false, if_pos rfl]; rfl
  rw [hk] at hc
  rcases Decidable.em (n < 0 ∨ n > 9) with hn | hn
  · rw [Bool.not_true, if_neg Bool.false_ne_true, if_pos hn] at hc
    refine ⟨r.A_size, .inl ⟨_, hc, fun _ => ⟨?_, trivial⟩, nofun⟩⟩
    rw [txtQ, hk, Bool.not_true, if_neg Bool.false_ne_true, if_pos hn]; rfl
  rw [Bool.not_true, if_neg Bool.false_ne_true, if_neg hn] at hc
  obtain ⟨k, rfl⟩ : ∃ k : Nat, n = k := ⟨n.toNat, by omega⟩
  have hk9 : k ≤ 9 := by omega
  obtain ⟨k1, k2, k3, k4, k5⟩ := RQ.ok_bits hk
  have hs := scaled_z hr hk hk9
  have hl := scale_lt2 k1 hk9
  have hrl : (r.p * ((tp k : Nat) : Int) % r.q).natAbs < BB ^ 32 := by
    have h1 := Int.emod_lt_of_pos (r.p * ((tp k : Nat) : Int)) k3
    have h2 := Int.emod_nonneg (r.p * ((tp k : Nat) : Int)) (show r.q ≠ 0 by omega)
    have h3 : r.q.natAbs < 2 ^ 480 := Nat.lt_of_lt_of_le (bl_bits _).1 (Nat.pow_le_pow_right (by omega) k2)
    have := hp480
    omega
  have hlow : (r.p * ((tp k : Nat) : Int) / r.q).natAbs < 2 ^ 960 := Nat.lt_of_le_of_lt (Int.natAbs_ediv_le_natAbs _ _) hl
  rw [txtQ, hk, Bool.not_true, if_neg Bool.false_ne_true, if_neg hn, Int.toNat_natCast]
  generalize r.p * ((tp k : Nat) : Int) / r.q = low at *
  generalize r.p * ((tp k : Nat) : Int) % r.q = rest at *
  have hlb : low.natAbs < BB ^ 32 := Nat.lt_trans hlow hp960
  have hlen := fmtN_len (by omega) (bits_dec hlow)
  have hfmt : Pure Tryz.prog 174 [SV.c (.agg (eA low))] (.string (S (fmtZ low))) := format_z (isI_e hlb)
  have hcut := cutPre2_z (fmtZ low) [45]
  rw [cut_minus] at hcut
  have hpt := point_z (fmtN low.natAbs) k hk9 (fmtN_pos _) (by omega)
  unfold txtZ
  dsimp only
  have hpl := padZ_len k (fmtN low.natAbs)
  have hpl2 : (padZ k (fmtN low.natAbs)).length ≤ 1000 := by
    unfold padZ; split
    · simp only [List.length_append, List.length_replicate]; omega
    · omega
  generalize padZ k (fmtN low.natAbs) = s at *
  have htr := trim_z (s.drop (s.length - k)) 48 (by simp; omega) (by decide)
  have hpz : (trimR 48 (s.drop (s.length - k))).length ≤ 1000 := Nat.le_trans (trimR_len _ _) (by simp; omega)
  have ht : (s.take (s.length - k)).length ≤ 1000 := by simp; omega
  have hemp : ((S (trimR 48 (s.drop (s.length - k)))).toList == (S []).toList) = decide (trimR 48 (s.drop (s.length - k)) = []) := S_beq _ []
  generalize trimR 48 (s.drop (s.length - k)) = p at *
  have s1 : (S [46] : ByteArray).size + (S p).size ≤ 9223372036854775807 := by rw [S_size, S_size]; simp; omega
  have s2 : (S (s.take (s.length - k))).size + (S [46] ++ S p).size ≤ 9223372036854775807 := by rw [S_add, S_size, S_size]; simp only [List.length_append, List.length_cons, List.length_nil]; omega
  have s3 : (S [45] : ByteArray).size + (S (s.take (s.length - k)) ++ (S [46] ++ S p)).size ≤ 9223372036854775807 := by rw [S_add, S_add, S_size, S_size]; simp only [List.length_append, List.length_cons, List.length_nil]; omega
  have s4 : (S [45] : ByteArray).size + (S (s.take (s.length - k))).size ≤ 9223372036854775807 := by rw [S_size, S_size]; simp only [List.length_cons, List.length_nil]; omega
  have htl : (s.take (s.length - k)).length = s.length - k := by simp
  refine ⟨r.A_size, .inl ⟨_, hc, nofun, fun _ => .inl ⟨_, hs, eA_fits _, eA_fits _, .inl ⟨_, sign_z (isI_e hrl), fun h1 => ?_, fun h1 => .inl ⟨_, hfmt, .inl ⟨_, hcut, .inl ⟨_, hpt, _, fun w _ => run_len_S Tryz.underlying9 w, fun h2 => ?_, fun h2 => .inl ⟨_, htr, fun h3 => ⟨s1, s2, fun h4 => ⟨s3, ?_, trivial⟩, fun h4 => ⟨?_, trivial⟩⟩, fun h3 => ⟨fun h4 => ⟨s4, ?_, trivial⟩, fun h4 => ⟨?_, trivial⟩⟩⟩⟩⟩⟩⟩⟩⟩⟩
  · have h1 : rest ≠ 0 := by
      intro e; subst e; simp [sgn] at h1
    refine ⟨?_, trivial⟩
    rw [if_pos h1]; rfl
  all_goals
    have h1 : ¬ (rest ≠ 0) := by
      intro e
      have e2 := sgn_zero (y := rest)
      rw [decide_eq_false e] at e2
      have : (!(sgn rest == 0)) = false := h1
      rw [e2] at this
      cases this
    rw [if_neg h1]
  · have h2 := of_decide_eq_true h2
    refine ⟨?_, trivial⟩
    rw [if_pos (by omega)]; rfl
  all_goals
    have h2 := of_decide_eq_false h2
    have h4 : decide (low < 0) = _ := h4
    rw [if_neg (by omega)]
  · have h3 := bnt (hemp ▸ h3)
    rw [if_pos (of_decide_eq_true h4), if_neg (of_decide_eq_false h3)]
    refine tup2 (sv ?_) rfl
    show S [45] ++ (S (s.take (s.length - k)) ++ (S [46] ++ S p)) = _
    rw [S_add, S_add, S_add, List.append_assoc]; rfl
  · have h3 := bnt (hemp ▸ h3)
    rw [if_neg (of_decide_eq_false h4), if_neg (of_decide_eq_false h3)]
    refine tup2 (sv ?_) rfl
    show (S (s.take (s.length - k)) ++ (S [46] ++ S p)) = _
    rw [S_add, S_add]; rfl
  · have h3 := of_bnf (hemp ▸ h3)
    rw [if_pos (of_decide_eq_true h4), if_pos (of_decide_eq_true h3)]
    refine tup2 (sv ?_) rfl
    show S [45] ++ S (s.take (s.length - k)) = _
    rw [S_add, List.append_nil]
  · have h3 := of_bnf (hemp ▸ h3)
    rw [if_neg (of_decide_eq_false h4), if_pos (of_decide_eq_true h3)]
    refine tup2 (sv ?_) rfl
    rw [List.append_nil]; rfl
end Go.Proofs.YtnfmpddhcjkjbaaGreatDoor
