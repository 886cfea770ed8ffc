/- walks: what an action makes, the reference; no condition. -/
import Derived.Test.YtkaakbpeegpnkaaGreatDoorP18
set_option maxRecDepth 100000
set_option maxHeartbeats 4000000
namespace Go.Proofs.YtkaakbpeegpnkaaGreatDoor
open Go Go.RowKit Go.SX
theorem fill_ef2 (l:List UInt8) (q:Int) {pl:List (Nat×Nat)} (hpl:pl=[(0,1),(1,1),(2,1)]):Instr.fill (fun k=>pl[k]?) ti113.zero [(0,.string (S l)),(1,.int .i64 q)]=some (EF.A ⟨l,q,0⟩):=by
 subst hpl;rfl
theorem apply_r {a:AC} (ha:a.In) (q:Int):Pure Tryz.prog 72 [SV.c (.agg a.A),SV.c (.int .i64 q)] (resE (applyA a q)):=by
 refine sx_pure tt_ok mixed at72 _ _ rfl rfl fun w=>?_
 have bad:actOk a=false→resE (applyA a q)=mkRes [.agg ti113.zero,.int .i64 170]:=fun h=>by rw [applyA,if_pos h];rfl
 refine ⟨a.size,.inl ⟨_,valid_ra ha,fun h1=>⟨_,a.g75,fun h2=>?_,fun h2=>?_⟩,fun h1=>⟨fun _=>?_,nofun⟩⟩⟩
 ·have h2:a.void=true:=h2
  refine ⟨ti113.zero,rfl,EF.zero.fits,?_,trivial⟩
  rw [bad (by rw [actOk,h2];rfl)]
 ·have h1:validA a=true:=of_bnf h1
  have h2:a.void=false:=h2
  have hk:actOk a=true:=by rw [actOk,h1,h2];rfl
  rw [applyA,if_neg (by rw [hk];simp)]
  refine ⟨fun h1=>⟨fun h2=>⟨ti113.zero,rfl,EF.zero.fits,?_,trivial⟩,fun h2=>?_⟩,fun h1=>⟨fun _=>⟨ti113.zero,rfl,EF.zero.fits,?_,trivial⟩,nofun⟩⟩
  ·have h2:=of_decide_eq_true h2
   rw [if_pos (.inr h2)];rfl
  ·have h1:=of_decide_eq_false h1
   have h2:=of_decide_eq_false h2
   rw [if_neg (by omega)]
   have hkk:a.kind=2∨(1≤a.num∧a.num≤1000000∧1≤a.den∧a.den≤1000000):=by
    rcases act_kind hk with h | h
    ·exact .inl h.1
    ·exact .inr h.2
   obtain ⟨b1,b2⟩:=pieQ_bd (a:=a) (q:=q) (by omega) (by omega) hkk
   have hpi:=paidQ_in a (q:=q) (by omega) (by omega)
   have big:1000000000000000000000 < BB ^ 32:=Nat.lt_of_lt_of_le (by decide:1000000000000000000000 < BB ^ 3) (Nat.pow_le_pow_right BB_pos (by omega))
   have ht:=toInt_r (isI_e (z:=pieQ a q) (by omega))
   have hm:=mulR_r hpi ha.cash
   have hr:=roundInt_r (mulQ_in (paidQ a q) a.cash) 2 6
   have hwh:=whole_r (n:=q) (by omega) (by omega)
   generalize rndI (rndQ (mulQ (paidQ a q) a.cash).1 2 6)=x at *
   obtain ⟨c,e⟩:=x
   have hr:Pure Tryz.prog 113 [SV.c (.agg (mulQ (paidQ a q) a.cash).1.A),SV.c (.int .i64 2),SV.c (.int .i64 6)] (.tuple #[.int .i64 c,.int .i64 e]):=hr
   refine ⟨_,a.g2,_,fill_ef2 a.ins q rfl,EF.fits _,.inl ⟨_,hwh,RQ.A_fits _,_,a.g0,fun k=>?_,fun k=>?_⟩⟩
   ·have k:¬ a.kind=2:=by intro e;rw [e] at k;simp at k
    obtain ⟨n1,n2,d1,d2⟩:=hkk.resolve_left k
    have hqn:0≤q*a.num∧q*a.num≤1000000000000000*1000000:=⟨Int.mul_nonneg (by omega) (by omega),Int.mul_le_mul (by omega) n2 (by omega) (by omega)⟩
    have hfq:=fromInt_r q (by omega) (by omega)
    have hfn:=fromInt_r a.num (by omega) (by omega)
    have hfd:=fromInt_r a.den (by omega) (by omega)
    have hmu:=mul_r (isI_e (i64_lt (n:=q) (by omega) (by omega))) (isI_e (i64_lt (n:=a.num) (by omega) (by omega)))
    rw [fitR,if_pos (by omega)] at hmu
    have hdd:=isI_e (i64_lt (n:=a.den) (by omega) (by omega))
    have hdm:=divmod_r (isI_e (z:=q*a.num) (by omega)) hdd (by omega)
    have hrr:(q*a.num % a.den).natAbs < BB ^ 32:=by
     have:=Int.emod_nonneg (q*a.num) (show a.den≠0 by omega)
     have:=Int.emod_lt_of_pos (q*a.num) (show 0 < a.den by omega)
     omega
    have hmk:=make_r (isI_e hrr) hdd
    have ep:pieQ a q=q*a.num / a.den:=by rw [pieQ,if_neg k]
    have er:paidQ a q=(mkQ (q*a.num % a.den) a.den).1:=by rw [paidQ,if_neg k]
    rw [ep] at ht ⊢
    rw [er] at hm hr hpi
    refine .inl ⟨_,hfq,_,a.g5,.inl ⟨_,hfn,.inl ⟨_,hmu,eA_fits _,by kernel_rfl,_,a.g6,.inl ⟨_,hfd,.inl ⟨_,hdm,eA_fits _,eA_fits _,by kernel_rfl,?_⟩⟩⟩⟩⟩
    by_cases hn:q*a.num / a.den > 1000000000000000
    ·rw [if_pos hn]
     by_cases hz : -9223372036854775808≤q*a.num / a.den∧q*a.num / a.den≤9223372036854775807
     ·rw [toIntR,if_pos hz] at ht
      refine .inl ⟨_,ht,fun _=>⟨fun _=>⟨ti113.zero,rfl,EF.zero.fits,rfl,trivial⟩,fun h=>?_⟩,nofun⟩
      exact absurd hn (of_decide_eq_false h)
     ·rw [toIntR,if_neg hz] at ht
      exact .inl ⟨_,ht,nofun,fun _=>⟨fun _=>⟨ti113.zero,rfl,EF.zero.fits,rfl,trivial⟩,nofun⟩⟩
    ·rw [if_neg hn]
     rw [ep] at b1
     rw [toIntR,if_pos (by omega)] at ht
     refine .inl ⟨_,ht,fun _=>⟨fun h=>absurd (of_decide_eq_true h) hn,fun _=>⟨by decide,rfl,EF.A ⟨a.ins,q*a.num / a.den,0⟩,rfl,?_⟩⟩,nofun⟩
     refine ⟨_,a.g6,.inl ⟨_,hfd,.inl ⟨_,hmk,RQ.A_fits _,by kernel_rfl,_,a.g0,fun m=>?_,fun m=>?_⟩⟩⟩
     ·have m:a.kind=3:=by simpa using m
      rw [show intoA a=a.into by rw [intoA,if_pos m]]
      refine ⟨_,a.g3,by decide,rfl,EF.A ⟨a.into,q*a.num / a.den,0⟩,rfl,by decide,_,a.gcash,.inl ⟨_,hm,RQ.A_fits _,.inl ⟨_,hr,fun h3=>⟨ti113.zero,rfl,EF.zero.fits,?_,trivial⟩,fun h3=>?_⟩⟩⟩
      ·have h3:e≠0:=by simpa using h3
       rw [if_pos (show (c,e).2≠0 from h3)];rfl
      ·have h3:¬ (e≠0):=by simpa using h3
       rw [if_neg (show ¬ (c,e).2≠0 from h3)]
       exact ⟨by decide,rfl,EF.A ⟨a.into,q*a.num / a.den,c⟩,rfl,EF.fits _,rfl,trivial⟩
     ·have m:¬ a.kind=3:=by intro e;rw [e] at m;simp at m
      rw [show intoA a=a.ins by rw [intoA,if_neg m]]
      refine ⟨by decide,_,a.gcash,.inl ⟨_,hm,RQ.A_fits _,.inl ⟨_,hr,fun h3=>⟨ti113.zero,rfl,EF.zero.fits,?_,trivial⟩,fun h3=>?_⟩⟩⟩
      ·have h3:e≠0:=by simpa using h3
       rw [if_pos (show (c,e).2≠0 from h3)];rfl
      ·have h3:¬ (e≠0):=by simpa using h3
       rw [if_neg (show ¬ (c,e).2≠0 from h3)]
       exact ⟨by decide,rfl,EF.A ⟨a.ins,q*a.num / a.den,c⟩,rfl,EF.fits _,rfl,trivial⟩
   ·have k:a.kind=2:=by simpa using k
    have ep:pieQ a q=q:=by rw [pieQ,if_pos k]
    have er:paidQ a q=.of q 1:=by rw [paidQ,if_pos k]
    rw [ep,if_neg (by omega)]
    rw [er] at hm hr
    have k3:intoA a=a.ins:=by rw [intoA,if_neg (by omega)]
    rw [k3]
    refine ⟨_,a.g0,fun m=>absurd m (by rw [k];simp),fun _=>⟨by decide,_,a.gcash,.inl ⟨_,hm,RQ.A_fits _,.inl ⟨_,hr,fun h3=>⟨ti113.zero,rfl,EF.zero.fits,?_,trivial⟩,fun h3=>?_⟩⟩⟩⟩
    ·have h3:e≠0:=by simpa using h3
     rw [if_pos (show (c,e).2≠0 from h3)];rfl
    ·have h3:¬ (e≠0):=by simpa using h3
     rw [if_neg (show ¬ (c,e).2≠0 from h3)]
     exact ⟨by decide,rfl,EF.A ⟨a.ins,q,c⟩,rfl,EF.fits _,rfl,trivial⟩
  ·have h1:=of_decide_eq_true h1
   rw [if_pos (.inl h1)];rfl
 ·have h1:validA a=false:=bnt h1
  refine ⟨ti113.zero,rfl,EF.zero.fits,?_,trivial⟩
  rw [bad (by rw [actOk,h1,Bool.and_false])]
end Go.Proofs.YtkaakbpeegpnkaaGreatDoor
