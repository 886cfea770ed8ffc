/- Plain: which parts are grounded; no condition. -/
import Derived.Test.YtfnjcjoomaeapaaParts
namespace Go.Proofs.Ytfnjcjoomaeapaa

def hsum (hs : List (List Int)) (part : List Int) (j : Nat) : Nat → Int
  | 0 => 0
  | k + 1 => hsum hs part j k + Hd hs (gI part k).toNat j
def gndTo (us : List Int) (hs : List (List Int)) (part : List Int) : Nat → Bool
  | 0 => false
  | k + 1 => gndTo us hs part k || decide (hsum hs part (gI part k).toNat part.length < gI us (gI part k).toNat)
def gndB (us : List Int) (hs : List (List Int)) (part : List Int) : Bool := gndTo us hs part part.length

theorem partTo_bd {R : Nat → Nat → Bool} (i : Nat) : ∀ j x, x < (partTo R i j).length → 0 ≤ gI (partTo R i j) x ∧ gI (partTo R i j) x < j
  | 0, x, h => by simp [partTo] at h
  | j + 1, x, h => by
    unfold partTo at h ⊢
    split at h
    · rename_i hc
      rw [if_pos hc]
      by_cases e : x < (partTo R i j).length
      · have := partTo_bd i j x e
        have e2 : gI (partTo R i j ++ [(j : Int)]) x = gI (partTo R i j) x := by simp [gI, List.getElem?_append_left e]
        rw [e2]; omega
      · have hx : x = (partTo R i j).length := by simp at h; omega
        subst hx
        have e2 : gI (partTo R i j ++ [(j : Int)]) (partTo R i j).length = j := by simp [gI]
        rw [e2]; omega
    · rename_i hc
      rw [if_neg hc]
      have := partTo_bd i j x h
      omega

theorem partsS_mem {R : Nat → Nat → Bool} {n : Nat} : ∀ (k : Nat) (lst : Nat → Bool) (p : List Int), p ∈ partsS R n k lst → ∃ i, i < n ∧ lst i = false ∧ p = partTo R i n
  | 0, _, p, h => by simp [partsS] at h
  | k + 1, lst, p, h => by
    unfold partsS at h
    cases hn : nextS R n lst with
    | none => rw [hn] at h; simp at h
    | some i =>
      rw [hn] at h
      have hs := nextS_spec hn
      rcases List.mem_cons.1 h with rfl | h
      · exact ⟨i, hs.1, readyTo_lst hs.2, rfl⟩
      · obtain ⟨q, h1, h2, h3⟩ := partsS_mem k _ p h
        exact ⟨q, h1, by simp [lstTo] at h2; exact h2.1, h3⟩

theorem hsum_bd {us : List Int} {hs : List (List Int)} (hS : Shape us hs) {part : List Int} (hp : ∀ x, x < part.length → 0 ≤ gI part x ∧ gI part x < us.length) {j : Nat} (hj : j < us.length) :
    ∀ k, k ≤ part.length → 0 ≤ hsum hs part j k ∧ hsum hs part j k ≤ k * M15
  | 0, _ => by simp [hsum]
  | k + 1, hk => by
    have ih := hsum_bd hS hp hj k (by omega)
    have hb := hp k (by omega)
    have hh := (hS.2.2 (gI part k).toNat (by omega)).2.2.2 j hj
    simp only [hsum]
    unfold M15 at *
    omega

end Go.Proofs.Ytfnjcjoomaeapaa
