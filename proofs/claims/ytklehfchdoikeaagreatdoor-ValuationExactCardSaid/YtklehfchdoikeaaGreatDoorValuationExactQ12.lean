/- Lists that came in, read by the row; no condition. -/
import Derived.Deep.Slices
import Derived.Test.YtklehfchdoikeaaGreatDoorValuationExactQ9
set_option maxRecDepth 100000
set_option maxHeartbeats 4000000
namespace Go.SX
open Go Go.RowKit
theorem nE (b o i:Nat):(⟨b,o,none⟩:Addr).add i=⟨b,o+i,none⟩:=by simp [Addr.add]
theorem Cv {w:World} {b o:Nat} {v:Value} (h:w.cell? ⟨b,o,none⟩=some v):b < w.heap.size:=by
 by_cases hb:b < w.heap.size
 ·exact hb
 ·have:w.heap[b]? = none:=Array.getElem?_eq_none (by omega)
  simp [World.cell?,this] at h
theorem Cu {w w':World} {b o:Nat} (h:w'.heap[b]? = w.heap[b]?):w'.cell? ⟨b,o,none⟩=w.cell? ⟨b,o,none⟩:=by
 simp only [World.cell?,h]
section
variable {α:Type} {g:α->Array Value} {s:Nat}
theorem Kc {E:Env} (hX:E.X=[]) (hs:0 < s) (hg:∀ x,(g x).size=s) (h1:∀ x,(g x).all (·.oneCell')=true) {a:Addr} {cap:Nat} {xs:List α} (hc:xs.length<=cap) (hm:cap<=maxLen)
    (h:∀ (i:Nat) (x:α),xs[i]? = some x->∀ j,j < s->E.w0.cell? ((a.add (i*s)).add j)=(g x)[j]?):Lst E (.slice (some a) xs.length cap) s xs.length (cat g xs):=by
 refine ⟨cat_size hg xs,by omega,cat_all h1 xs,some a,cap,rfl,hc,fun hn=>?_⟩
 have hz:∃ z,xs[0]? = some z:=⟨_,List.getElem?_eq_getElem hn⟩
 obtain ⟨z,hz⟩:=hz
 have h0:=h 0 z hz 0 hs
 have hu:∃ u,(g z)[0]? = some u:=⟨_,Array.getElem?_eq_getElem (by rw [hg];exact hs)⟩
 obtain ⟨u0,hu0⟩:=hu
 rw [hu0] at h0
 have hsp:=World.cell?_spot h0
 obtain ⟨b,o,sp⟩:=a
 have hsp:sp=none:=by simpa [Addr.add] using hsp
 subst hsp
 rw [nE,nE] at h0
 have hb:=Cv h0
 refine ⟨b,o,rfl,fun w hw j u hj=>?_⟩
 rw [Cu (hw.old b hb (by rw [hX];simp))]
 have hjs:j < xs.length*s:=by rw [<- cat_size hg xs];exact (Array.getElem?_eq_some_iff.1 hj).1
 have hi:j / s < xs.length:=Nat.div_lt_of_lt_mul (by rw [Nat.mul_comm];exact hjs)
 have hx:∃ x,xs[j / s]? = some x:=⟨_,List.getElem?_eq_getElem hi⟩
 obtain ⟨x,hx⟩:=hx
 have hr:=Nat.mod_lt j hs
 have h2:=h (j / s) x hx (j % s) hr
 rw [nE,nE] at h2
 have e1:o+j / s*s+j % s=o+j:=by
  have:=Nat.div_add_mod j s
  rw [Nat.mul_comm] at this
  omega
 rw [e1] at h2
 rw [h2,<- fC hg xs (j / s) x (j % s) hx hr,<- hj]
 congr 1
 have:=Nat.div_add_mod j s
 rw [Nat.mul_comm] at this
 omega
theorem jl [Inhabited α] {H:Type} {enc:TypeId×Value->H} {P:Program} {E:Env} (hX:E.X=[]) {base:Nat} {spare:Nat->Bool} {held:Bool} {t e:TypeId} (ht:P.underlying t=some (.slice e)) (hce:P.cellsOf e=s) (hs:0 < s) {In:α->Prop}
    (hg:∀ x,(g x).size=s) (h1:∀ x,(g x).all (·.oneCell')=true) (hrd:∀ (fuel:Nat) (cs:List Value) (x:DataW H×List MemPlace),DataW.trod enc P E.w0 base spare held fuel e cs=some x->∃ a,In a/\cs=(g a).toList)
    {fuel:Nat} {v:Value} {x:DataW H×List MemPlace} (h:DataW.trod enc P E.w0 base spare held fuel t [v]=some x) :
    ∃ xs:List α,(∀ a∈xs,In a)/\Lst E v s xs.length (cat g xs)/\(xs=[]\/∃ el sp,x.1=.slice el sp/\el.length=xs.length):=by
 rcases Go.Deep.open_slice ht h with ⟨hcs,_⟩ | ⟨a,len,cap,m,n,D,Pl,hcs,_,hl,hm,hmm,rfl,hx⟩
 ·simp only [List.cons.injEq,and_true] at hcs
  subst hcs
  exact ⟨[],fun a h=>by simp at h,Lst.nil E s,.inl rfl⟩
 ·simp only [List.cons.injEq,and_true] at hcs
  subst hcs
  have hlm:len<=m:=by rw [hmm];split<;>omega
  obtain ⟨V,hV⟩:=Go.Deep.choose_lt (α:=α) (n:=len) (p:=fun i y=>In y/\E.w0.cells? base (a.add (i*P.cellsOf e)) (P.cellsOf e)=some (g y).toList) (fun i hi=>by
   obtain ⟨cs',h2,h3⟩:=hx i (by omega)
   obtain ⟨y,h4,rfl⟩:=hrd _ _ _ h3
   exact ⟨y,h4,h2⟩)
  have hlen:((List.range len).map V).length=len:=by simp
  have hL:=Kc (E:=E) (g:=g) (s:=s) (a:=a) (cap:=cap) (xs:=(List.range len).map V) hX hs hg h1 (by rw [hlen];exact hl) hm (fun i y hy j hj=>by
   have hi:i < len:=by rw [<- hlen];exact (List.getElem?_eq_some_iff.1 hy).1
   have hy:V i=y:=by simpa [hi] using hy
   subst hy
   have h2:=(hV i hi).2
   rw [hce] at h2
   have:=(World.cells?_some h2).2.2 j hj
   rw [this,Array.getElem?_toList])
  rw [hlen] at hL
  refine ⟨(List.range len).map V,fun y hy=>?_,by rw [hlen];exact hL,.inr ⟨_,_,rfl,by simp⟩⟩
  obtain ⟨i,hi,rfl⟩:=List.mem_map.1 hy
  exact (hV i (List.mem_range.1 hi)).1
end
end Go.SX
