/- the reference: a day put into a list of days. the reference: the days. the reference: finish. the reference: act. the reference: At. entries, holdings and balances that came in. which portfolios are valid: the program and the reference. what At returns is valid: plain law. sums of entries: plain law; no condition. -/
import Derived.Test.YtekfkdddadcalaaGreatDoorPositionLaterQ27
set_option maxRecDepth 100000
set_option maxHeartbeats 4000000
namespace Go.Proofs.YtekfkdddadcalaaGreatDoor
open Go Go.RowKit Go.SX
def finN (g:Led):Led×Int:=pfL ⟨nzf g.h,nzf g.c,nzf g.p⟩
def FinQ (g:Led) (vh vc vp:Value) (r:Value) (U:MemL):Prop:=∃ xh xc xp,IsL xh (finN g).1.h.length∧IsL xc (finN g).1.c.length∧IsL xp (finN g).1.p.length∧r=.tuple #[.agg #[xh,xc,xp],.int .i64 (finN g).2]∧U=[(9701,Blk.own vh 66 2 g.h.length (cat sumA g.h)),(9702,Blk.own vc 49 3 g.c.length (cat sumK g.c)),(9703,Blk.own vp 49 3 g.p.length (cat sumK g.p)),(9506,Blk.own xh 66 2 (finN g).1.h.length (cat sumA (finN g).1.h)),(9507,Blk.own xc 49 3 (finN g).1.c.length (cat sumK (finN g).1.c)),(9508,Blk.own xp 49 3 (finN g).1.p.length (cat sumK (finN g).1.p))]
theorem FinQ.bad {g:Led} {vh vc vp:Value} {e:Int} (h:finN g=(.zero,e)):FinQ g vh vc vp (.tuple #[.agg #[.slice none 0 0,.slice none 0 0,.slice none 0 0],.int .i64 e]) [(9701,Blk.own vh 66 2 g.h.length (cat sumA g.h)),(9702,Blk.own vc 49 3 g.c.length (cat sumK g.c)),(9703,Blk.own vp 49 3 g.p.length (cat sumK g.p)),(9506,Blk.own (.slice none 0 0) 66 2 0 #[]),(9507,Blk.own (.slice none 0 0) 49 3 0 #[]),(9508,Blk.own (.slice none 0 0) 49 3 0 #[])]:=by
 refine ⟨.slice none 0 0,.slice none 0 0,.slice none 0 0,by rw [h];exact .nil,by rw [h];exact .nil,by rw [h];exact .nil,by rw [h],by rw [h];rfl⟩
end Go.Proofs.YtekfkdddadcalaaGreatDoor
namespace Go.Proofs.YtekfkdddadcalaaGreatDoor
open Go Go.RowKit Go.SX
section
variable {H:Type} {enc:TypeId×Value→H} {w:World} {base:Nat} {sp:Nat→Bool} {held:Bool}
end
end Go.Proofs.YtekfkdddadcalaaGreatDoor
namespace Go.Proofs.YtekfkdddadcalaaGreatDoor
open Go Go.RowKit Go.SX
structure KOk (g:Led):Prop where
 ok:LedOk g
 h:∀ x∈g.h,insOk x.1=true
 c:∀ x∈g.c,curOk x.1.1=true∧x.1.2=0
 p:∀ x∈g.p,curOk x.1.1=true∧inB x.1.2 0 73048=true
theorem KOk.zero:KOk .zero:=⟨.zero,(fun _ h=>by cases h),(fun _ h=>by cases h),(fun _ h=>by cases h)⟩
structure NOk (x:EC):Prop where
 e:EOk x
 i:x.qty≠0→insOk x.ins=true
 c:x.amt≠0→curOk x.cur=true
 s:inB x.settle 0 73048=true
theorem NOk.of {x:EC} (h:validE x=true):NOk x:=by
 have he:=EOk.of h
 unfold validE at h
 simp only [Bool.and_eq_true] at h
 obtain ⟨-,h⟩:=h
 split at h
 ·obtain ⟨h1,h2,h3,h4⟩:=EC.beq_nil h
  have h5:x.settle=0:=by
   unfold EC.beq EC.nil at h
   simp only [Bool.and_eq_true,beq_iff_eq] at h
   exact h.2.2.2.1
  exact ⟨he,fun h=>absurd h3 h,fun h=>absurd h4 h,inB_iff.2 (by omega)⟩
 ·simp only [Bool.and_eq_true,bodyE,inB_iff,decide_eq_true_eq] at h
  obtain ⟨⟨h1,h2,h3,h5⟩,h4⟩:=h
  refine ⟨he,fun hq=>?_,fun _=>h5,inB_iff.2 (by omega)⟩
  unfold kindE at h4
  split at h4
  ·simp only [Bool.and_eq_true] at h4
   exact h4.1
  ·split at h4
   ·simp only [Bool.and_eq_true,beq_iff_eq] at h4
    exact absurd h4.2 hq
   ·cases h4
def sumBy (f:EC→Int):List EC→Int
 | []=>0
 | x :: r=>f x+sumBy f r
structure ZOk (x:EC):Prop where
 e:EOk x
 z:x.kind≠1→x.qty=0
 a : -1000000000000000≤x.amt∧x.amt≤1000000000000000
theorem ZOk.of {x:EC} (h:validE x=true):ZOk x:=by
 have he:=EOk.of h
 unfold validE at h
 simp only [Bool.and_eq_true] at h
 obtain ⟨-,h⟩:=h
 split at h
 ·obtain ⟨h1,h2,h3,h4⟩:=EC.beq_nil h
  exact ⟨he,fun _=>h3,by omega⟩
 ·simp only [Bool.and_eq_true,bodyE,inB_iff,decide_eq_true_eq] at h
  obtain ⟨⟨h1,h2,h3,h5⟩,h4⟩:=h
  refine ⟨he,fun hk=>?_,by omega⟩
  unfold kindE at h4
  rw [if_neg hk] at h4
  split at h4
  ·simp only [Bool.and_eq_true,beq_iff_eq] at h4
   exact h4.2
  ·cases h4
def AmB (n:Nat) (f:List (Ky×Int)):Prop:=∀ k,-(1000000000000000*(n:Int))≤getA f k∧getA f k≤1000000000000000*(n:Int)
theorem AmB.nil (n:Nat):AmB n []:=fun k=>by show _≤(0:Int)∧(0:Int)≤_;omega
theorem AmB.mono {n m:Nat} {f:List (Ky×Int)} (h:AmB n f) (hm:n≤m):AmB m f:=fun k=>by have:=h k;omega
end Go.Proofs.YtekfkdddadcalaaGreatDoor
