/- what At returns is valid: plain law. sums of entries: plain law; no condition. -/
import Derived.Test.YtekfkdddadcalaaGreatDoorPositionBentQ26
set_option maxRecDepth 100000
set_option maxHeartbeats 4000000
namespace Go.Proofs.YtekfkdddadcalaaGreatDoor
open Go Go.RowKit Go.SX
structure KOk (g:Led):Prop where
 ok:LedOk g
 h:∀ x∈g.h,insOk x.1=true
 c:∀ x∈g.c,curOk x.1.1=true∧x.1.2=0
 p:∀ x∈g.p,curOk x.1.1=true∧inB x.1.2 0 73048=true
theorem KOk.zero:KOk .zero:=⟨.zero,(fun _ h=>by cases h),(fun _ h=>by cases h),(fun _ h=>by cases h)⟩
structure NOk (x:EC):Prop where
 e:EOk x
 i:x.qty≠0→insOk x.ins=true
 c:x.amt≠0→curOk x.cur=true
 s:inB x.settle 0 73048=true
theorem NOk.of {x:EC} (h:validE x=true):NOk x:=by
 have he:=EOk.of h
 unfold validE at h
 simp only [Bool.and_eq_true] at h
 obtain ⟨-,h⟩:=h
 split at h
 ·obtain ⟨h1,h2,h3,h4⟩:=EC.beq_nil h
  have h5:x.settle=0:=by
   unfold EC.beq EC.nil at h
   simp only [Bool.and_eq_true,beq_iff_eq] at h
   exact h.2.2.2.1
  exact ⟨he,fun h=>absurd h3 h,fun h=>absurd h4 h,inB_iff.2 (by omega)⟩
 ·simp only [Bool.and_eq_true,bodyE,inB_iff,decide_eq_true_eq] at h
  obtain ⟨⟨h1,h2,h3,h5⟩,h4⟩:=h
  refine ⟨he,fun hq=>?_,fun _=>h5,inB_iff.2 (by omega)⟩
  unfold kindE at h4
  split at h4
  ·simp only [Bool.and_eq_true] at h4
   exact h4.1
  ·split at h4
   ·simp only [Bool.and_eq_true,beq_iff_eq] at h4
    exact absurd h4.2 hq
   ·cases h4
theorem srt_at {κ:Type} {lt:κ→κ→Bool} {l:List (κ×Int)} (h:SrtA lt l) {i:Nat} {x y:κ×Int} (hi:0 < i) (hx:l[i]? = some x) (hy:l[i - 1]? = some y):lt y.1 x.1=true:=by
 obtain ⟨h1,e1⟩:=List.getElem?_eq_some_iff.1 hx
 obtain ⟨h2,e2⟩:=List.getElem?_eq_some_iff.1 hy
 have:=List.pairwise_iff_getElem.1 h (i - 1) i h2 h1 (by omega)
 rw [e1,e2] at this
 exact this
theorem okK_all {f:List (Ky×Int)} (hs:SrtA ltK2 f∧NzA f) (hc:∀ x∈f,curOk x.1.1=true∧inB x.1.2 0 73048=true) (ha:amtB f=true):allAt (okK f) f.length=true:=by
 refine allAt_good fun i hi=>?_
 obtain ⟨x,hx⟩:∃ x,f[i]? = some x:=⟨_,List.getElem?_eq_getElem hi⟩
 have hm:=List.mem_of_getElem? hx
 unfold okK
 rw [hx]
 simp only [Bool.and_eq_true]
 refine ⟨(hc x hm).1,(hc x hm).2,by simpa using hs.2 x hm,List.all_eq_true.1 ha x hm,?_⟩
 rw [Bool.or_eq_true]
 by_cases h0:i=0
 ·exact .inl (decide_eq_true h0)
 ·obtain ⟨y,hy⟩:∃ y,f[i - 1]? = some y:=⟨_,List.getElem?_eq_getElem (by omega)⟩
  rw [hy]
  exact .inr (srt_at hs.1 (by omega) hx hy)
def sumBy (f:EC→Int):List EC→Int
 | []=>0
 | x :: r=>f x+sumBy f r
structure ZOk (x:EC):Prop where
 e:EOk x
 z:x.kind≠1→x.qty=0
 a : -1000000000000000≤x.amt∧x.amt≤1000000000000000
theorem ZOk.of {x:EC} (h:validE x=true):ZOk x:=by
 have he:=EOk.of h
 unfold validE at h
 simp only [Bool.and_eq_true] at h
 obtain ⟨-,h⟩:=h
 split at h
 ·obtain ⟨h1,h2,h3,h4⟩:=EC.beq_nil h
  exact ⟨he,fun _=>h3,by omega⟩
 ·simp only [Bool.and_eq_true,bodyE,inB_iff,decide_eq_true_eq] at h
  obtain ⟨⟨h1,h2,h3,h5⟩,h4⟩:=h
  refine ⟨he,fun hk=>?_,by omega⟩
  unfold kindE at h4
  rw [if_neg hk] at h4
  split at h4
  ·simp only [Bool.and_eq_true,beq_iff_eq] at h4
   exact h4.2
  ·cases h4
def AmB (n:Nat) (f:List (Ky×Int)):Prop:=∀ k,-(1000000000000000*(n:Int))≤getA f k∧getA f k≤1000000000000000*(n:Int)
theorem AmB.nil (n:Nat):AmB n []:=fun k=>by show _≤(0:Int)∧(0:Int)≤_;omega
theorem AmB.mono {n m:Nat} {f:List (Ky×Int)} (h:AmB n f) (hm:n≤m):AmB m f:=fun k=>by have:=h k;omega
end Go.Proofs.YtekfkdddadcalaaGreatDoor
