/- walks: what an action makes, the reference. walks: the law o; no condition. -/
import Derived.Test.YtekfkdddadcalaaGreatDoorPositionSpoiltQ17
set_option maxRecDepth 100000
set_option maxHeartbeats 4000000
namespace Go.Proofs.YtekfkdddadcalaaGreatDoor
open Go Go.RowKit Go.SX
theorem Da (l:List UInt8) (q:Int) {pl:List (Nat×Nat)} (hpl:pl=[(0,1),(1,1),(2,1)]):Instr.fill (fun k=>pl[k]?) eB.zero [(0,.string (S l)),(1,.int .i64 q)]=some (EF.A ⟨l,q,0⟩):=by
 subst hpl;rfl
theorem FB {a:AC} (ha:a.In) (q:Int):ax Tryz.prog 105 [SV.c (.agg a.A),SV.c (.int .i64 q)] (GR (aF a q)):=by
 refine aj af ah Lr _ _ rfl rfl fun w=>?_
 have bad:fA a=false->GR (aF a q)=dW [.agg eB.zero,.int .i64 170]:=fun h=>by rw [aF,if_pos h];rfl
 refine ⟨a.size,.inl ⟨_,tz ha,fun h1=>⟨_,a.g75,fun h2=>?_,fun h2=>?_⟩,fun h1=>⟨fun _=>?_,nofun⟩⟩⟩
 ·have h2:a.void=true:=h2
  refine ⟨eB.zero,rfl,EF.zero.fits,?_,trivial⟩
  rw [bad (by rw [fA,h2];rfl)]
 ·have h1:bh a=true:=bR h1
  have h2:a.void=false:=h2
  have hk:fA a=true:=by rw [fA,h1,h2];rfl
  rw [aF,if_neg (by rw [hk];simp)]
  refine ⟨fun h1=>⟨fun h2=>⟨eB.zero,rfl,EF.zero.fits,?_,trivial⟩,fun h2=>?_⟩,fun h1=>⟨fun _=>⟨eB.zero,rfl,EF.zero.fits,?_,trivial⟩,nofun⟩⟩
  ·have h2:=ab h2
   rw [if_pos (.inr h2)];rfl
  ·have h1:=ae h1
   have h2:=ae h2
   rw [if_neg (by omega)]
   have hkk:a.kind=2\/(1<=a.num/\a.num<=1000000/\1<=a.den/\a.den<=1000000):=by
    rcases qo hk with h | h
    ·exact .inl h.1
    ·exact .inr h.2
   obtain ⟨b1,b2⟩:=sk (a:=a) (q:=q) (by omega) (by omega) hkk
   have hpi:=uq a (q:=q) (by omega) (by omega)
   have big:1000000000000000000000 < BB ^ 32:=Nat.lt_of_lt_of_le (by decide:1000000000000000000000 < BB ^ 3) (Nat.pow_le_pow_right bz (by omega))
   have ht:=xI (aJ (z:=ig a q) (by omega))
   have hm:=GZ hpi ha.cash
   have hr:=wy (ym (dV a q) a.cash) 2 6
   have hwh:=li (n:=q) (by omega) (by omega)
   generalize lC (fD (jZ (dV a q) a.cash).1 2 6)=x at *
   obtain ⟨c,e⟩:=x
   have hr:ax Tryz.prog 138 [SV.c (.agg (jZ (dV a q) a.cash).1.A),SV.c (.int .i64 2),SV.c (.int .i64 6)] (.tuple #[.int .i64 c,.int .i64 e]):=hr
   refine ⟨_,a.g2,_,Da a.ins q rfl,EF.fits _,.inl ⟨_,hwh,RQ.A_fits _,_,a.g0,fun k=>?_,fun k=>?_⟩⟩
   ·have k:¬ a.kind=2:=by intro e;rw [e] at k;simp at k
    obtain ⟨n1,n2,d1,d2⟩:=hkk.resolve_left k
    have hqn:0<=q*a.num/\q*a.num<=1000000000000000*1000000:=⟨Int.mul_nonneg (by omega) (by omega),Int.mul_le_mul (by omega) n2 (by omega) (by omega)⟩
    have hfq:=cE q (by omega) (by omega)
    have hfn:=cE a.num (by omega) (by omega)
    have hfd:=cE a.den (by omega) (by omega)
    have hmu:=yj (aJ (cW (n:=q) (by omega) (by omega))) (aJ (cW (n:=a.num) (by omega) (by omega)))
    rw [eY,if_pos (by omega)] at hmu
    have hdd:=aJ (cW (n:=a.den) (by omega) (by omega))
    have hdm:=im (aJ (z:=q*a.num) (by omega)) hdd (by omega)
    have hrr:(q*a.num % a.den).natAbs < BB ^ 32:=by
     have:=Int.emod_nonneg (q*a.num) (show a.den≠0 by omega)
     have:=Int.emod_lt_of_pos (q*a.num) (show 0 < a.den by omega)
     omega
    have hmk:=sD (aJ hrr) hdd
    have ep:ig a q=q*a.num / a.den:=by rw [ig,if_neg k]
    have er:dV a q=(mkQ (q*a.num % a.den) a.den).1:=by rw [dV,if_neg k]
    rw [ep] at ht ⊢
    rw [er] at hm hr hpi
    refine .inl ⟨_,hfq,_,a.g5,.inl ⟨_,hfn,.inl ⟨_,hmu,ak _,by kernel_rfl,_,a.g6,.inl ⟨_,hfd,.inl ⟨_,hdm,ak _,ak _,by kernel_rfl,?_⟩⟩⟩⟩⟩
    by_cases hn:q*a.num / a.den > 1000000000000000
    ·rw [if_pos hn]
     by_cases hz : -9223372036854775808<=q*a.num / a.den/\q*a.num / a.den<=9223372036854775807
     ·rw [cn,if_pos hz] at ht
      refine .inl ⟨_,ht,fun _=>⟨fun _=>⟨eB.zero,rfl,EF.zero.fits,rfl,trivial⟩,fun h=>?_⟩,nofun⟩
      exact absurd hn (ae h)
     ·rw [cn,if_neg hz] at ht
      exact .inl ⟨_,ht,nofun,fun _=>⟨fun _=>⟨eB.zero,rfl,EF.zero.fits,rfl,trivial⟩,nofun⟩⟩
    ·rw [if_neg hn]
     rw [ep] at b1
     rw [cn,if_pos (by omega)] at ht
     refine .inl ⟨_,ht,fun _=>⟨fun h=>absurd (ab h) hn,fun _=>⟨by decide,rfl,EF.A ⟨a.ins,q*a.num / a.den,0⟩,rfl,?_⟩⟩,nofun⟩
     refine ⟨_,a.g6,.inl ⟨_,hfd,.inl ⟨_,hmk,RQ.A_fits _,by kernel_rfl,_,a.g0,fun m=>?_,fun m=>?_⟩⟩⟩
     ·have m:a.kind=3:=by simpa using m
      rw [show gB a=a.into by rw [gB,if_pos m]]
      refine ⟨_,a.g3,by decide,rfl,EF.A ⟨a.into,q*a.num / a.den,0⟩,rfl,by decide,_,a.gcash,.inl ⟨_,hm,RQ.A_fits _,.inl ⟨_,hr,fun h3=>⟨eB.zero,rfl,EF.zero.fits,?_,trivial⟩,fun h3=>?_⟩⟩⟩
      ·have h3:e≠0:=by simpa using h3
       rw [if_pos (show (c,e).2≠0 from h3)];rfl
      ·have h3:¬ (e≠0):=by simpa using h3
       rw [if_neg (show ¬ (c,e).2≠0 from h3)]
       exact ⟨by decide,rfl,EF.A ⟨a.into,q*a.num / a.den,c⟩,rfl,EF.fits _,rfl,trivial⟩
     ·have m:¬ a.kind=3:=by intro e;rw [e] at m;simp at m
      rw [show gB a=a.ins by rw [gB,if_neg m]]
      refine ⟨by decide,_,a.gcash,.inl ⟨_,hm,RQ.A_fits _,.inl ⟨_,hr,fun h3=>⟨eB.zero,rfl,EF.zero.fits,?_,trivial⟩,fun h3=>?_⟩⟩⟩
      ·have h3:e≠0:=by simpa using h3
       rw [if_pos (show (c,e).2≠0 from h3)];rfl
      ·have h3:¬ (e≠0):=by simpa using h3
       rw [if_neg (show ¬ (c,e).2≠0 from h3)]
       exact ⟨by decide,rfl,EF.A ⟨a.ins,q*a.num / a.den,c⟩,rfl,EF.fits _,rfl,trivial⟩
   ·have k:a.kind=2:=by simpa using k
    have ep:ig a q=q:=by rw [ig,if_pos k]
    have er:dV a q=.of q 1:=by rw [dV,if_pos k]
    rw [ep,if_neg (by omega)]
    rw [er] at hm hr
    have k3:gB a=a.ins:=by rw [gB,if_neg (by omega)]
    rw [k3]
    refine ⟨_,a.g0,fun m=>absurd m (by rw [k];simp),fun _=>⟨by decide,_,a.gcash,.inl ⟨_,hm,RQ.A_fits _,.inl ⟨_,hr,fun h3=>⟨eB.zero,rfl,EF.zero.fits,?_,trivial⟩,fun h3=>?_⟩⟩⟩⟩
    ·have h3:e≠0:=by simpa using h3
     rw [if_pos (show (c,e).2≠0 from h3)];rfl
    ·have h3:¬ (e≠0):=by simpa using h3
     rw [if_neg (show ¬ (c,e).2≠0 from h3)]
     exact ⟨by decide,rfl,EF.A ⟨a.ins,q,c⟩,rfl,EF.fits _,rfl,trivial⟩
  ·have h1:=ab h1
   rw [if_pos (.inl h1)];rfl
 ·have h1:bh a=false:=bnt h1
  refine ⟨eB.zero,rfl,EF.zero.fits,?_,trivial⟩
  rw [bad (by rw [fA,h1,Bool.and_false])]
def EF.beq (x y:EF):Bool:=decide (x.ins=y.ins) && ((x.qty == y.qty) && ((x.cash == y.cash) && true))
theorem EF.beq_self (x:EF):x.beq x=true:=by simp [EF.beq]
theorem RQ.beq_self (r:RQ):r.beq r=true:=(r.beq_iff r).mpr rfl
theorem EN {n d:Int} (h1 : -9223372036854775808<=n) (h2:n<=9223372036854775807) (h3 : -9223372036854775808<=d) (h4:d<=9223372036854775807):ax Tryz.prog 36 [SV.c (.int .i64 n),SV.c (.int .i64 d)] (.agg (mkQ n d).1.A):=by
 refine aj af ah Nq _ _ rfl rfl fun w=>?_
 exact .inl ⟨_,Mm h1 h2 h3 h4,RQ.A_fits _,RQ.A_fits _,rfl,trivial⟩
end Go.Proofs.YtekfkdddadcalaaGreatDoor
