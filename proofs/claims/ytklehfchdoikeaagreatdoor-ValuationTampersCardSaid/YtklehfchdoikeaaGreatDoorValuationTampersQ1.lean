/- Made lists of actions; a cell turned in a list; the law Acti; no condition. -/
import Derived.Test.YtklehfchdoikeaaGreatDoorP23
import Derived.Test.YtklehfchdoikeaaGreatDoorP21
set_option maxRecDepth 100000
set_option maxHeartbeats 4000000
namespace Go.Proofs.YtklehfchdoikeaaGreatDoor
open Go Go.RowKit Go.SX
theorem vQ {P Q:Array Value} {off:Nat} {vs:List Value} (h:off+vs.length<=P.size):aM (P++Q) off vs=aM P off vs++Q:=by
 apply Array.ext_getElem?
 intro t
 rw [ct,Array.getElem?_append,Array.getElem?_append,ct,co]
 have hs:(P++Q).size=P.size+Q.size:=Array.size_append
 by_cases h1:t < off\/off+vs.length<=t
 ·rw [if_pos h1,if_pos h1]
 ·rw [if_neg h1,if_neg h1]
  have h2:t < P.size:=by omega
  rw [if_pos h2]
  simp only [hs]
  rw [if_pos (by omega),if_pos h2]
theorem tW {P Q:Array Value} {off:Nat} {vs:List Value}:aM (P++Q) (P.size+off) vs=P++aM Q off vs:=by
 apply Array.ext_getElem?
 intro t
 rw [ct,Array.getElem?_append,Array.getElem?_append,ct]
 have hs:(P++Q).size=P.size+Q.size:=Array.size_append
 by_cases h2:t < P.size
 ·rw [if_pos h2,if_pos h2,if_pos (by omega)]
 ·rw [if_neg h2,if_neg h2]
  by_cases h1:t - P.size < off\/off+vs.length<=t - P.size
  ·rw [if_pos h1,if_pos (by omega)]
  ·rw [if_neg h1,if_neg (by omega)]
   rw [show t - (P.size+off)=t - P.size - off by omega]
   simp only [hs]
   by_cases h3:t - P.size < Q.size
   ·rw [if_pos h3,if_pos (by omega)]
   ·rw [if_neg h3,if_neg (by omega)]
theorem ll {α:Type} {g:α->Array Value} {s:Nat} (hg:∀ x,(g x).size=s) {x':α} {j:Nat} {vs:List Value}:∀ {l:List α} {i:Nat} {x:α},l[i]? = some x->j+vs.length<=s->aM (g x) j vs=g x'->aM (cat g l) (i*s+j) vs=cat g (l.set i x')
 | [],i,x,h,_,_=>by simp at h
 | y :: r,0,x,h,hj,he=>by
  simp only [List.getElem?_cons_zero,Option.some.injEq] at h
  subst h
  rw [cat,List.set_cons_zero,cat,Nat.zero_mul,Nat.zero_add,vQ (by rw [hg];exact hj),he]
 | y :: r,i+1,x,h,hj,he=>by
  rw [cat,List.set_cons_succ,cat,show (i+1)*s+j=(g y).size+(i*s+j) by rw [hg,Nat.add_mul];omega,tW,ll hg (by simpa using h) hj he]
theorem qY {α:Type} {g:α->Array Value} {s:Nat} (hg:∀ x,(g x).size=s) {x':α} {j:Nat} {v:Value} {l:List α} {i:Nat} {x:α} (h:l[i]? = some x) (hj:j < s) (he:(g x).setIfInBounds j v=g x'):(cat g l).setIfInBounds (i*s+j) v=cat g (l.set i x') :=
 ll (vs:=[v]) hg h (show j+1<=s from hj) he
end Go.Proofs.YtklehfchdoikeaaGreatDoor
