/- what At returns is valid: plain law. sums of entries: plain ; no condition. -/
import Derived.Test.YtekfkdddadcalaaGreatDoorPositionPlaysQ30
set_option maxRecDepth 100000
set_option maxHeartbeats 4000000
namespace Go.Proofs.YtekfkdddadcalaaGreatDoor
open Go Go.RowKit Go.SX
theorem jA {κ:Type} {lt:κ->κ->Bool} (O:StrictO lt) {l:List (κ×Int)} (hs:SrtA lt l) {k:κ} {v:Int} {x:κ×Int} (h:x∈cS lt l k v):x∈l\/(x=(k,v)/\v≠0):=by
 obtain ⟨p,s,e,-,-,-,h4⟩:=gE O k v hs
 have hm:∀ x∈p++s,x∈l:=fun x hx=>by
  rcases h4 with e | ⟨n,e⟩<;>rw [e]
  ·exact hx
  ·rcases List.mem_append.1 hx with hx | hx<;>simp [hx]
 rw [e] at h
 split at h
 ·exact .inl (hm x h)
 ·rename_i hv
  rcases List.mem_append.1 h with h | h
  ·exact .inl (hm x (by simp [h]))
  ·rcases List.mem_cons.1 h with rfl | h
   ·exact .inr ⟨rfl,hv⟩
   ·exact .inl (hm x (by simp [h]))
structure KOk (g:Led):Prop where
 ok:LedOk g
 h:∀ x∈g.h,bp x.1=true
 c:∀ x∈g.c,bH x.1.1=true/\x.1.2=0
 p:∀ x∈g.p,bH x.1.1=true/\inB x.1.2 0 73048=true
theorem KOk.zero:KOk .zero:=⟨.zero,(fun _ h=>by cases h),(fun _ h=>by cases h),(fun _ h=>by cases h)⟩
theorem BG {a:AC} (h:fi a=true):bp a.ins=true/\bp (fT a)=true/\bH a.cur=true:=by
 unfold fi bk at h
 simp only [Bool.and_eq_true,Bool.not_eq_true'] at h
 obtain ⟨hv,-,h⟩:=h
 rw [hv,if_neg Bool.false_ne_true] at h
 simp only [Bool.and_eq_true,cv] at h
 obtain ⟨⟨h1,-,-,-,h2⟩,h3⟩:=h
 refine ⟨h1,?_,h2⟩
 unfold fT
 split
 ·rename_i hk
  unfold bz at h3
  rw [if_neg (by omega),if_neg (by omega),if_pos hk] at h3
  simp only [Bool.and_eq_true] at h3
  exact h3.1
 ·exact h1
theorem GC {g g':Led} (h:KOk g) {a:AC} (e:iE g a=.ok g'):KOk g':=by
 have hl:=(pg h.ok e).1
 unfold iE at e
 split at e
 ·cases e
 rename_i h0
 obtain ⟨-,-,-,-,ha,hi⟩:=qV (Classical.not_not.1 h0)
 obtain ⟨n1,n2,n3⟩:=BG ha
 split at e
 ·cases e
 rename_i H hH
 cases e
 obtain ⟨-,eH,-,-⟩:=(h.ok.hok.set a.ins (v:=0) (by decide)).hold hH
 have s0:=(dY cd h.ok.h.1 a.ins 0).srt
 refine ⟨hl,fun x hx=>?_,fun x hx=>?_,h.p⟩
 ·have hx:x∈H:=hx
  rw [eH] at hx
  rcases jA cd s0 hx with hx | ⟨rfl,-⟩
  ·rcases jA cd h.ok.h.1 hx with hx | ⟨-,h'⟩
   ·exact h.h x hx
   ·exact absurd rfl h'
  ·show bp (aG a (az g.h a.ins)).1.ins=true
   rw [hi];exact n2
 ·rcases jA bu h.ok.c.1 hx with hx | ⟨rfl,-⟩
  ·exact h.c x hx
  ·exact ⟨n3,rfl⟩
structure NOk (x:EC):Prop where
 e:EOk x
 i:x.qty≠0->bp x.ins=true
 c:x.amt≠0->bH x.cur=true
 s:inB x.settle 0 73048=true
theorem NOk.of {x:EC} (h:aY x=true):NOk x:=by
 have he:=EOk.of h
 unfold aY at h
 simp only [Bool.and_eq_true] at h
 obtain ⟨-,h⟩:=h
 split at h
 ·obtain ⟨h1,h2,h3,h4⟩:=EC.beq_nil h
  have h5:x.settle=0:=by
   unfold EC.beq EC.nil at h
   simp only [Bool.and_eq_true,beq_iff_eq] at h
   exact h.2.2.2.1
  exact ⟨he,fun h=>absurd h3 h,fun h=>absurd h4 h,ef.2 (by omega)⟩
 ·simp only [Bool.and_eq_true,dq,ef,decide_eq_true_eq] at h
  obtain ⟨⟨h1,h2,h3,h5⟩,h4⟩:=h
  refine ⟨he,fun hq=>?_,fun _=>h5,ef.2 (by omega)⟩
  unfold dO at h4
  split at h4
  ·simp only [Bool.and_eq_true] at h4
   exact h4.1
  ·split at h4
   ·simp only [Bool.and_eq_true,beq_iff_eq] at h4
    exact absurd h4.2 hq
   ·cases h4
theorem yL {f:List (Ky×Int)} (hs:SrtA bh f/\NzA f) {P:Ky->Prop} (h:∀ x∈f,P x.1) {k:Ky} {n:Int} (hn:w64 n=n) (hk:n≠0->P k):∀ x∈kj f k n,P x.1:=fun x hx=>by
 rcases jA bu hs.1 hx with hx | ⟨rfl,hv⟩
 ·exact h x hx
 ·by_cases h0:n=0
  ·subst h0
   rw [Int.add_zero] at hv
   have hg:az f k≠0:=fun h=>hv (by rw [h];rfl)
   exact h (k,az f k) (iQ hg)
  ·exact hk h0
theorem Gi {day:Int} {g g':Led} (h:KOk g) {x:EC} (hx:NOk x) (e:iz day g x=.ok g'):KOk g':=by
 have hl:=(o7 h.ok e).1
 have hC:∀ y∈(aK day g x).c,bH y.1.1=true/\y.1.2=0:=by
  unfold aK
  split
  ·exact yL (P:=fun k=>bH k.1=true/\k.2=0) h.ok.c h.c hx.e.m fun hn=>⟨hx.c hn,rfl⟩
  ·exact h.c
 have hP:∀ y∈(aK day g x).p,bH y.1.1=true/\inB y.1.2 0 73048=true:=by
  unfold aK
  split
  ·exact h.p
  ·exact yL (P:=fun k=>bH k.1=true/\inB k.2 0 73048=true) h.ok.p h.p hx.e.m fun hn=>⟨hx.c hn,hx.s⟩
 unfold iz at e
 split at e
 ·cases e
  exact ⟨hl,by rw [lB];exact h.h,hC,hP⟩
 ·split at e
  ·cases e
  ·rename_i H hH
   cases e
   obtain ⟨-,eH,-,-⟩:=h.ok.hok.hold hH
   refine ⟨hl,fun y hy=>?_,hC,hP⟩
   have hy:y∈H:=hy
   rw [eH] at hy
   rcases jA cd h.ok.h.1 hy with hy | ⟨rfl,hv⟩
   ·exact h.h y hy
   ·show bp x.ins=true
    by_cases hq:x.qty=0
    ·rw [hq,Int.add_zero] at hv
     exact h.h _ (iQ hv)
    ·exact hx.i hq
theorem yy {day:Int}:∀ (ops:List Ev) {g g':Led},KOk g->(∀ x,Sum.inr x∈ops->NOk x)->ff day g ops=.ok g'->KOk g'
 | [],g,g',h,_,e=>by cases e;exact h
 | o :: l,g,g',h,hx,e=>by
  rw [ff] at e
  cases e1:rz day g o with
  | error e'=>rw [e1] at e;cases e
  | ok g1 =>
   rw [e1] at e
   have h1:KOk g1:=by
    cases o with
    | inl a=>exact GC h e1
    | inr x=>exact Gi h (hx x (by simp)) e1
   exact yy l h1 (fun x hx'=>hx x (by simp [hx'])) e
theorem Ct {κ:Type} {lt:κ->κ->Bool} {l:List (κ×Int)} (h:SrtA lt l) {i:Nat} {x y:κ×Int} (hi:0 < i) (hx:l[i]? = some x) (hy:l[i - 1]? = some y):lt y.1 x.1=true:=by
 obtain ⟨h1,e1⟩:=List.getElem?_eq_some_iff.1 hx
 obtain ⟨h2,e2⟩:=List.getElem?_eq_some_iff.1 hy
 have:=List.pairwise_iff_getElem.1 h (i - 1) i h2 h1 (by omega)
 rw [e1,e2] at this
 exact this
theorem yN {f:List (Ky×Int)} (hs:SrtA bh f/\NzA f) (hc:∀ x∈f,bH x.1.1=true/\inB x.1.2 0 73048=true) (ha:da f=true):cR (okK f) f.length=true:=by
 refine fx fun i hi=>?_
 obtain ⟨x,hx⟩:∃ x,f[i]? = some x:=⟨_,List.getElem?_eq_getElem hi⟩
 have hm:=List.mem_of_getElem? hx
 unfold okK
 rw [hx]
 simp only [Bool.and_eq_true]
 refine ⟨(hc x hm).1,(hc x hm).2,by simpa using hs.2 x hm,List.all_eq_true.1 ha x hm,?_⟩
 rw [Bool.or_eq_true]
 by_cases h0:i=0
 ·exact .inl (decide_eq_true h0)
 ·obtain ⟨y,hy⟩:∃ y,f[i - 1]? = some y:=⟨_,List.getElem?_eq_getElem (by omega)⟩
  rw [hy]
  exact .inr (Ct hs.1 (by omega) hx hy)
theorem Ar {g:Led} (h:KOk g) (e:(pfL g).2=0):ct (pfL g).1=true:=by
 unfold pfL at e ⊢
 split at e
 ·rename_i hf
  rw [if_pos hf]
  show ct g=true
  unfold la at hf
  split at hf
  ·cases hf
  rename_i h1
  split at hf
  ·rename_i h2
   simp only [Bool.and_eq_true] at h2
   unfold ct
   rw [decide_eq_false (by omega),decide_eq_false (by omega)]
   simp only [Bool.not_false,Bool.and_eq_true,Bool.true_and]
   refine ⟨?_,yN h.ok.c (fun x hx=>⟨(h.c x hx).1,by rw [(h.c x hx).2];rfl⟩) h2.1,yN h.ok.p h.p h2.2,?_⟩
   ·refine fx fun i hi=>?_
    obtain ⟨x,hx⟩:∃ x,g.h[i]? = some x:=⟨_,List.getElem?_eq_getElem hi⟩
    have hm:=List.mem_of_getElem? hx
    have hb:=h.ok.b x hm
    have hz:=h.ok.h.2 x hm
    unfold okH
    rw [hx]
    simp only [Bool.and_eq_true]
    refine ⟨h.h x hm,ef.2 (by omega),?_⟩
    rw [Bool.or_eq_true]
    by_cases h0:i=0
    ·exact .inl (decide_eq_true h0)
    ·obtain ⟨y,hy⟩:∃ y,g.h[i - 1]? = some y:=⟨_,List.getElem?_eq_getElem (by omega)⟩
     rw [hy]
     exact .inr (Ct h.ok.h.1 (by omega) hx hy)
   ·exact List.all_eq_true.2 fun x hx=>by rw [(h.c x hx).2];rfl
  ·cases hf
 ·rename_i hf
  exact absurd e hf
theorem BQ {xs:List EC} {k:Int}:∀ x∈dQ xs k,NOk x:=fun x hx=>by
 unfold dQ at hx
 split at hx
 ·rename_i h
  obtain ⟨i,-,hi⟩:=List.mem_filterMap.1 hx
  have hm:=List.mem_of_getElem? hi
  refine .of ?_
  unfold cT at h
  split at h
  ·rename_i h';exact List.all_eq_true.1 h' x hm
  ·cases h
 ·cases hx
theorem ED {xs:List EC} {al:List AC} {k day:Int} (e:(atP xs al k day).2=0):ct (atP xs al k day).1=true:=by
 unfold atP at e ⊢
 split at e
 ·rename_i h;exact absurd e h
 rename_i h1
 rw [if_neg h1]
 split at e
 ·rename_i h;exact absurd e h
 rename_i h2
 rw [if_neg h2]
 split at e
 ·cases e
 rename_i h3
 rw [if_neg h3]
 cases hr:ff day .zero (km (eJ al k) (dQ xs k) day) with
 | error e' =>
  show ct Led.zero=true
  rfl
 | ok g =>
  rw [hr] at e
  refine Ar (yy _ .zero (fun x hx=>?_) hr) e
  rcases yM hx with ⟨a,-,h⟩ | ⟨x',hx',h⟩
  ·cases h
  ·cases h;exact BQ x hx'
def GP (f:EC->Int):List EC->Int
 | []=>0
 | x :: r=>f x+GP f r
structure ZOk (x:EC):Prop where
 e:EOk x
 z:x.kind≠1->x.qty=0
 a : -1000000000000000<=x.amt/\x.amt<=1000000000000000
theorem ZOk.of {x:EC} (h:aY x=true):ZOk x:=by
 have he:=EOk.of h
 unfold aY at h
 simp only [Bool.and_eq_true] at h
 obtain ⟨-,h⟩:=h
 split at h
 ·obtain ⟨h1,h2,h3,h4⟩:=EC.beq_nil h
  exact ⟨he,fun _=>h3,by omega⟩
 ·simp only [Bool.and_eq_true,dq,ef,decide_eq_true_eq] at h
  obtain ⟨⟨h1,h2,h3,h5⟩,h4⟩:=h
  refine ⟨he,fun hk=>?_,by omega⟩
  unfold dO at h4
  rw [if_neg hk] at h4
  split at h4
  ·simp only [Bool.and_eq_true,beq_iff_eq] at h4
   exact h4.2
  ·cases h4
def AmB (n:Nat) (f:List (Ky×Int)):Prop:=∀ k,-(1000000000000000*(n:Int))<=az f k/\az f k<=1000000000000000*(n:Int)
theorem AmB.nil (n:Nat):AmB n []:=fun k=>by show _<=(0:Int)/\(0:Int)<=_;omega
theorem AmB.mono {n m:Nat} {f:List (Ky×Int)} (h:AmB n f) (hm:n<=m):AmB m f:=fun k=>by have:=h k;omega
end Go.Proofs.YtekfkdddadcalaaGreatDoor
