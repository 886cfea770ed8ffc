/- plain laws on made ratios, and the walks of the laws ActionValue, ActionDividend, ActionMonotone, ActionInverse; no condition. -/
import Derived.Test.YtnfmpddhcjkjbaaGreatDoorP22
set_option maxRecDepth 100000
set_option maxHeartbeats 4000000
namespace Go.Proofs.YtnfmpddhcjkjbaaGreatDoor
open Go Go.RowKit Go.SX
theorem mkQ_val {x y:Int} (hy:0 < y) (hx:x.natAbs < 2 ^ e480) (hy2:y.natAbs < 2 ^ e480):∃ r:RQ,mkQ x y=(r,0)∧r.ok=true∧r.p*y=x*r.q∧r.p.natAbs≤x.natAbs∧r.q≤y:=by
 have hg:0 < Int.gcd x y:=Int.gcd_pos_of_ne_zero_right x (by omega)
 have hs:sgn y=1:=by unfold sgn;rw [if_neg (by omega),if_neg (by omega)]
 obtain ⟨p,hp⟩:((Int.gcd x y:Nat):Int) ∣ x:=Int.gcd_dvd_left x y
 obtain ⟨q,hq⟩:((Int.gcd x y:Nat):Int) ∣ y:=Int.gcd_dvd_right x y
 have hg0:((Int.gcd x y:Nat):Int)≠0:=by omega
 have ex:x / ((Int.gcd x y:Nat):Int)=p:=by conv=>lhs;lhs;rw [hp]
                                           exact Int.mul_ediv_cancel_left p hg0
 have ey:y / ((Int.gcd x y:Nat):Int)=q:=by conv=>lhs;lhs;rw [hq]
                                           exact Int.mul_ediv_cancel_left q hg0
 have hgcd:Int.gcd p q=1:=by
  have h1:Int.gcd x y=Int.gcd (((Int.gcd x y:Nat):Int)*p) (((Int.gcd x y:Nat):Int)*q):=by rw [← hp,← hq]
  rw [Int.gcd_mul_left,Int.natAbs_natCast] at h1
  exact Nat.eq_of_mul_eq_mul_left hg (by rw [← h1,Nat.mul_one])
 have hg1:0 < ((Int.gcd x y:Nat):Int):=by omega
 have hmk:mkQ x y=if bl p.natAbs≤480∧bl q.natAbs≤480 then (.of p q,0) else (.of 0 0,10):=by
  unfold mkQ
  rw [if_neg (by omega),hs,Int.one_mul,ex,ey]
 generalize ((Int.gcd x y:Nat):Int)=g at *
 have hq0:0 < q:=by
  rcases Int.lt_trichotomy q 0 with h | h | h
  ·have:=Int.mul_neg_of_pos_of_neg hg1 h;omega
  ·subst h;simp at hq;omega
  ·exact h
 have hpx:p.natAbs≤x.natAbs:=by
  rw [hp,Int.natAbs_mul];exact Nat.le_mul_of_pos_left _ (by omega)
 have hqy:q.natAbs≤y.natAbs:=by
  rw [hq,Int.natAbs_mul];exact Nat.le_mul_of_pos_left _ (by omega)
 have b1:bl p.natAbs≤480:=bl_le (k:=e480) (Nat.lt_of_le_of_lt hpx hx)
 have b2:bl q.natAbs≤480:=bl_le (k:=e480) (Nat.lt_of_le_of_lt hqy hy2)
 refine ⟨.of p q,by rw [hmk,if_pos ⟨b1,b2⟩],?_,?_,?_,?_⟩
 ·unfold RQ.ok RQ.of
  refine decide_eq_true ⟨b1,b2,fun h=>?_,?_,by show 0 < q.natAbs;omega,hgcd⟩
  ·have h:=of_decide_eq_true h
   show p.natAbs≠0
   omega
  ·show decide (q < 0)=false
   exact decide_eq_false (by omega)
 ·rw [RQ.of_p,RQ.of_q]
  conv=>lhs;rw [hq]
  conv=>rhs;rw [hp]
  rw [Int.mul_comm p,Int.mul_assoc,Int.mul_assoc,Int.mul_comm q p]
 ·rw [RQ.of_p];exact hpx
 ·rw [RQ.of_q];omega
theorem price_val {n d:Int} (h1:0≤n) (h2:n≤200000) (h3:1≤d) (h4:d≤1000000) (h5:d ∣ 1000000):payOk (mkQ n d).1=true∧(mkQ n d).1.ok=true∧0≤(mkQ n d).1.p∧(mkQ n d).1.p.natAbs≤200000∧(mkQ n d).1.q.natAbs≤1000000∧(mkQ n d).1.p*d=n*(mkQ n d).1.q:=by
 have p480:1000000 < 2 ^ e480:=Nat.lt_of_lt_of_le (by decide:1000000 < 2 ^ 20) (Nat.pow_le_pow_right (by omega) (by decide))
 obtain ⟨r,m1,m2,m3,m4,m5⟩:=mkQ_val (x:=n) (y:=d) (by omega) (Nat.lt_of_le_of_lt (by omega) p480) (Nat.lt_of_le_of_lt (by omega) p480)
 rw [m1]
 show payOk r=true∧r.ok=true∧0≤r.p∧r.p.natAbs≤200000∧r.q.natAbs≤1000000∧r.p*d=n*r.q
 obtain ⟨-,-,q1,hg,-⟩:=RQ.ok_bits m2
 have hp0:0≤r.p:=by
  rcases Int.lt_or_le r.p 0 with h | h
  ·have a1:r.p*d < 0:=Int.mul_neg_of_neg_of_pos h (by omega)
   have a2:0≤n*r.q:=Int.mul_nonneg h1 (by omega)
   omega
  ·exact h
 have hqd:r.q ∣ d:=by
  have a1:r.q ∣ r.p*d:=⟨n,by rw [m3,Int.mul_comm]⟩
  have a2:r.q.natAbs ∣ r.p.natAbs*d.natAbs:=by rw [← Int.natAbs_mul];exact Int.natAbs_dvd_natAbs.2 a1
  have a3:Nat.Coprime r.q.natAbs r.p.natAbs:=by rw [Nat.Coprime,Nat.gcd_comm];exact hg
  exact Int.natAbs_dvd_natAbs.1 (Nat.Coprime.dvd_of_dvd_mul_left a3 a2)
 have hq6:r.q ∣ r.p*1000000:=Int.dvd_trans (Int.dvd_trans hqd h5) (Int.dvd_mul_left _ _)
 refine ⟨?_,m2,hp0,by omega,by omega,m3⟩
 unfold payOk
 rw [m2,Bool.true_and,decide_eq_true (Int.emod_eq_zero_of_dvd hq6),Bool.true_and,decide_eq_true hp0,Bool.true_and]
 exact decide_eq_true (by omega)
theorem rnd_half {x y:Int} (hy:0 < y) : -y≤2*(rndZ 6 x y*y - x)∧2*(rndZ 6 x y*y - x)≤y:=by
 have h1:=Int.emod_nonneg x (show y≠0 by omega)
 have h2:=Int.emod_lt_of_pos x hy
 have h3:=Int.mul_ediv_add_emod x y
 unfold rndZ
 generalize x / y=q at *
 generalize x % y=m at *
 have e1:y*q=q*y:=Int.mul_comm _ _
 have e2:(q+1)*y=q*y+y:=by rw [Int.add_mul,Int.one_mul]
 split
 ·generalize q*y=z at *
  omega
 ·split
  ·rename_i h4 h5
   have h6:y≤m+m:=by
    unfold upM at h5
    simp only [show ¬ (6:Int)=1 by decide,show ¬ (6:Int)=2 by decide,show ¬ (6:Int)=3 by decide,show ¬ (6:Int)=4 by decide,show ¬ (6:Int)=5 by decide,if_false] at h5
    unfold cmpI at h5
    by_cases h7:m+m < y
    ·rw [if_pos h7] at h5;simp at h5
    ·omega
   rw [e2]
   generalize q*y=z at *
   omega
  ·rename_i h4 h5
   have h6:m+m≤y:=by
    unfold upM at h5
    simp only [show ¬ (6:Int)=1 by decide,show ¬ (6:Int)=2 by decide,show ¬ (6:Int)=3 by decide,show ¬ (6:Int)=4 by decide,show ¬ (6:Int)=5 by decide,if_false] at h5
    unfold cmpI at h5
    by_cases h7:m+m < y
    ·omega
    ·rw [if_neg h7] at h5
     by_cases h8:y < m+m
     ·rw [if_pos h8] at h5;simp at h5
     ·omega
   generalize q*y=z at *
   omega
theorem rq_eq {r s:RQ} (hr:r.ok=true) (hs:s.ok=true) (h:r.p*s.q=s.p*r.q):r=s:=by
 obtain ⟨-,-,q1,g1,-⟩:=RQ.ok_bits hr
 obtain ⟨-,-,q2,g2,-⟩:=RQ.ok_bits hs
 have hh:r.N*s.D=s.N*r.D:=by
  have:=congrArg Int.natAbs h
  rw [Int.natAbs_mul,Int.natAbs_mul] at this
  simpa [RQ.p,RQ.q,zN_abs] using this
 have hg1:Nat.gcd r.N r.D=1:=by rw [← gcd_zN r.a r.N r.b r.D];exact g1
 have hg2:Nat.gcd s.N s.D=1:=by rw [← gcd_zN s.a s.N s.b s.D];exact g2
 have d1:r.D ∣ s.D:=by
  have:r.D ∣ r.N*s.D:=⟨s.N,by rw [hh,Nat.mul_comm]⟩
  exact (Nat.Coprime.symm hg1).dvd_of_dvd_mul_left this
 have d2:s.D ∣ r.D:=by
  have:s.D ∣ s.N*r.D:=⟨r.N,by rw [← hh,Nat.mul_comm]⟩
  exact (Nat.Coprime.symm hg2).dvd_of_dvd_mul_left this
 have hD:r.D=s.D:=Nat.dvd_antisymm d1 d2
 have hk1:_:=of_decide_eq_true hr
 have hk2:_:=of_decide_eq_true hs
 have hb:r.b=s.b:=by rw [hk1.2.2.2.1,hk2.2.2.2.1]
 have hN:r.N=s.N:=by
  rw [hD] at hh
  exact Nat.eq_of_mul_eq_mul_right hk2.2.2.2.2.1 hh
 have hq:r.q=s.q:=by rw [RQ.q,RQ.q,hb,hD]
 have hp:r.p=s.p:=by
  rw [hq] at h
  exact Int.eq_of_mul_eq_mul_right (by omega) h
 have ha:r.a=s.a:=by
  rw [RQ.p,RQ.p,hN] at hp
  cases h1:r.a<;>cases h2:s.a
  ·rfl
  ·have:=hk2.2.2.1 h2
   rw [h1,h2] at hp;simp [zN] at hp;omega
  ·have:=hk1.2.2.1 h1
   rw [h1,h2] at hp;simp [zN] at hp;omega
  ·rfl
 obtain ⟨a,N,b,D⟩:=r
 obtain ⟨a',N',b',D'⟩:=s
 simp only at ha hN hb hD
 subst ha;subst hN;subst hb;subst hD
 rfl
def Bd (k:Nat) (a:Int):Prop:=a.natAbs≤2 ^ k
theorem Bd.mul {i j:Nat} {a b:Int} (h1:Bd i a) (h2:Bd j b):Bd (i+j) (a*b):=by
 unfold Bd at *
 rw [Int.natAbs_mul,Nat.pow_add]
 exact Nat.mul_le_mul h1 h2
theorem Bd.mono {i j:Nat} {a:Int} (h1:Bd i a) (h:i≤j):Bd j a:=Nat.le_trans h1 (Nat.pow_le_pow_right (by omega) h)
theorem Bd.add {k:Nat} {a b:Int} (h1:Bd k a) (h2:Bd k b):Bd (k+1) (a+b):=by
 unfold Bd at *
 have:=Int.natAbs_add_le a b
 rw [Nat.pow_succ];omega
theorem Bd.neg {k:Nat} {a:Int} (h1:Bd k a):Bd k (-a):=by unfold Bd at *;rw [Int.natAbs_neg];exact h1
theorem Bd.abs {k:Nat} {a:Int} (h1:Bd k a):Bd k (a.natAbs:Int):=by unfold Bd at *;rw [Int.natAbs_natCast];exact h1
theorem bd20 {a:Int} (h1 : -1000000≤a) (h2:a≤1000000):Bd 20 a:=by unfold Bd;omega
theorem Bd.lt {k:Nat} {a:Int} (h1:Bd k a) (h:k < 480):a.natAbs < 2 ^ e480:=Nat.lt_of_le_of_lt h1 (Nat.pow_lt_pow_right (by omega) h)
theorem mkQ_v {k l:Nat} {x y:Int} (hy:0 < y) (hx:Bd k x) (hy2:Bd l y) (hk:k < 480:=by decide) (hl:l < 480:=by decide):∃ r:RQ,mkQ x y=(r,0)∧r.ok=true∧r.p*y=x*r.q∧r.p.natAbs≤x.natAbs∧r.q≤y :=
 mkQ_val hy (hx.lt hk) (hy2.lt hl)
theorem mkQ_ok {k l:Nat} {x y:Int} (hy:0 < y) (hx:Bd k x) (hy2:Bd l y) (hk:k < 480:=by decide) (hl:l < 480:=by decide):(mkQ x y).1.ok=true∧(mkQ x y).2=0:=by
 obtain ⟨r,h1,h2,-⟩:=mkQ_v hy hx hy2 hk hl
 rw [h1];exact ⟨h2,rfl⟩
theorem mkQ_same {k l k' l':Nat} {x y x' y':Int} (hy:0 < y) (hx:Bd k x) (hy2:Bd l y) (hy':0 < y') (hx':Bd k' x') (hy2':Bd l' y') (h:x*y'=x'*y) (hk:k < 480:=by decide) (hl:l < 480:=by decide) (hk':k' < 480:=by decide) (hl':l' < 480:=by decide):mkQ x y=mkQ x' y':=by
 obtain ⟨r,h1,h2,h3,-,-⟩:=mkQ_v hy hx hy2 hk hl
 obtain ⟨s,h4,h5,h6,-,-⟩:=mkQ_v hy' hx' hy2' hk' hl'
 rw [h1,h4]
 have:r=s:=by
  refine rq_eq h2 h5 ?_
  -- r.p y = x r.q ; s.p y' = x' s.q
  have e1:(r.p*s.q)*(y*y')=(s.p*r.q)*(y*y'):=by
   have a1:(r.p*s.q)*(y*y')=(r.p*y)*(s.q*y'):=by ac_rfl
   have a2:(s.p*r.q)*(y*y')=(s.p*y')*(r.q*y):=by ac_rfl
   rw [a1,a2,h3,h6]
   have a3:x*r.q*(s.q*y')=(x*y')*(r.q*s.q):=by ac_rfl
   have a4:x'*s.q*(r.q*y)=(x'*y)*(r.q*s.q):=by ac_rfl
   rw [a3,a4,h]
  exact Int.eq_of_mul_eq_mul_right (by have:=Int.mul_pos hy hy';omega) e1
 rw [this]
theorem bd_of {k:Nat} {r:RQ} {x:Int} (hx:Bd k x) (h:r.p.natAbs≤x.natAbs):Bd k r.p:=Nat.le_trans h hx
theorem bd_of2 {k:Nat} {z y:Int} (hy:Bd k y) (h0:0 < z) (h:z≤y):Bd k z:=by unfold Bd at *;omega
theorem mulQ_mk {i j k l:Nat} {a b c d:Int} (hb:0 < b) (hd:0 < d) (h1:Bd i a) (h2:Bd j b) (h3:Bd k c) (h4:Bd l d) (hik:i+k < 480:=by decide) (hjl:j+l < 480:=by decide):mulQ (mkQ a b).1 (mkQ c d).1=mkQ (a*c) (b*d):=by
 obtain ⟨r,e1,e2,e3,e4,e5⟩:=mkQ_v hb h1 h2 (by omega) (by omega)
 obtain ⟨s,f1,f2,f3,f4,f5⟩:=mkQ_v hd h3 h4 (by omega) (by omega)
 obtain ⟨-,-,q1,-,-⟩:=RQ.ok_bits e2
 obtain ⟨-,-,q2,-,-⟩:=RQ.ok_bits f2
 rw [e1,f1,mulQ]
 rw [show (r,(0:Int)).1=r from rfl,show (s,(0:Int)).1=s from rfl,e2,f2]
 refine mkQ_same (Int.mul_pos q1 q2) ((bd_of h1 e4).mul (bd_of h3 f4)) ((bd_of2 h2 q1 e5).mul (bd_of2 h4 q2 f5)) (Int.mul_pos hb hd) (h1.mul h3) (h2.mul h4) ?_ hik hjl hik hjl
 have a1:r.p*s.p*(b*d)=(r.p*b)*(s.p*d):=by ac_rfl
 rw [a1,e3,f3]
 ac_rfl
theorem sumQ_mk (m:Bool) {i j:Nat} {a b c d:Int} (hb:0 < b) (hd:0 < d) (h1:Bd i a) (h2:Bd j b) (h3:Bd i c) (h4:Bd j d) (hij:i+j+1 < 480:=by decide) (hjl:j+j < 480:=by decide):sumQ m (mkQ a b).1 (mkQ c d).1=mkQ (a*d+sg m (c*b)) (b*d):=by
 obtain ⟨r,e1,e2,e3,e4,e5⟩:=mkQ_v hb h1 h2 (by omega) (by omega)
 obtain ⟨s,f1,f2,f3,f4,f5⟩:=mkQ_v hd h3 h4 (by omega) (by omega)
 obtain ⟨-,-,q1,-,-⟩:=RQ.ok_bits e2
 obtain ⟨-,-,q2,-,-⟩:=RQ.ok_bits f2
 have hsg:∀ {k:Nat} {z:Int},Bd k z→Bd k (sg m z):=fun {k z} h=>by unfold sg;split;exact h.neg;exact h
 rw [e1,f1,sumQ]
 rw [show (r,(0:Int)).1=r from rfl,show (s,(0:Int)).1=s from rfl,e2,f2]
 refine mkQ_same (Int.mul_pos q1 q2) (((bd_of h1 e4).mul (bd_of2 h4 q2 f5)).add (hsg ((bd_of h3 f4).mul (bd_of2 h2 q1 e5)))) ((bd_of2 h2 q1 e5).mul (bd_of2 h4 q2 f5)) (Int.mul_pos hb hd) ((h1.mul h4).add (hsg (h3.mul h2))) (h2.mul h4) ?_ hij hjl hij hjl
 have a1:r.p*s.q*(b*d)=(a*d)*(r.q*s.q):=by
  have:r.p*s.q*(b*d)=(r.p*b)*(s.q*d):=by ac_rfl
  rw [this,e3];ac_rfl
 have a2:s.p*r.q*(b*d)=(c*b)*(r.q*s.q):=by
  have:s.p*r.q*(b*d)=(s.p*d)*(r.q*b):=by ac_rfl
  rw [this,f3];ac_rfl
 have a3:sg m (s.p*r.q)*(b*d)=sg m (c*b)*(r.q*s.q):=by
  unfold sg;split
  ·rw [Int.neg_mul,Int.neg_mul,a2]
  ·exact a2
 rw [Int.add_mul,Int.add_mul,a1,a3]
theorem absQ_mk {i j:Nat} {a b:Int} (hb:0 < b) (h1:Bd i a) (h2:Bd j b) (hi:i < 480:=by decide) (hj:j < 480:=by decide):absQ (mkQ a b).1=mkQ (a.natAbs:Int) b:=by
 obtain ⟨r,e1,e2,e3,e4,e5⟩:=mkQ_v hb h1 h2 hi hj
 obtain ⟨s,f1,f2,f3,f4,f5⟩:=mkQ_v hb h1.abs h2 hi hj
 obtain ⟨n1,n2,q1,g1,-⟩:=RQ.ok_bits e2
 obtain ⟨-,-,q2,g2,-⟩:=RQ.ok_bits f2
 rw [e1,f1,absQ]
 rw [show (r,(0:Int)).1=r from rfl,e2,if_pos rfl]
 refine Prod.ext ?_ rfl
 refine rq_eq ?_ f2 ?_
 ·have hk:=of_decide_eq_true e2
  refine decide_eq_true ⟨?_,?_,?_,?_,?_,?_⟩
  ·show bl ((r.p.natAbs:Int).natAbs)≤480
   rw [Int.natAbs_natCast]
   have:r.p.natAbs=r.N:=by rw [RQ.p,zN_abs]
   rw [this];exact hk.1
  ·show bl (r.q.natAbs)≤480
   have:r.q.natAbs=r.D:=by rw [RQ.q,zN_abs]
   rw [this];exact hk.2.1
  ·show decide ((r.p.natAbs:Int) < 0)=true→_
   intro h;have:=of_decide_eq_true h;omega
  ·show decide (r.q < 0)=false
   exact decide_eq_false (by omega)
  ·show 0 < r.q.natAbs
   omega
  ·show Nat.gcd ((r.p.natAbs:Int).natAbs) r.q.natAbs=1
   rw [Int.natAbs_natCast];exact g1
 ·rw [RQ.of_p,RQ.of_q]
  have e6:(r.p.natAbs:Int)*b=(a.natAbs:Int)*r.q:=by
   have:=congrArg Int.natAbs e3
   rw [Int.natAbs_mul,Int.natAbs_mul] at this
   have e7:((b.natAbs:Nat):Int)=b:=by omega
   have e8:((r.q.natAbs:Nat):Int)=r.q:=by omega
   rw [← e7,← e8]
   exact_mod_cast this
  have:((r.p.natAbs:Int)*s.q)*b=(s.p*r.q)*b:=by
   have b1:((r.p.natAbs:Int)*s.q)*b=((r.p.natAbs:Int)*b)*s.q:=by ac_rfl
   have b2:(s.p*r.q)*b=(s.p*b)*r.q:=by ac_rfl
   rw [b1,b2,e6,f3]
   ac_rfl
  exact Int.eq_of_mul_eq_mul_right (by omega) this
theorem cmpI_scale {x y k:Int} (hk:0 < k):cmpI (x*k) (y*k)=cmpI x y:=by
 unfold cmpI
 rcases Int.lt_trichotomy x y with h | h | h
 ·rw [if_pos h,if_pos (Int.mul_lt_mul_of_pos_right h hk)]
 ·subst h;simp
 ·have:=Int.mul_lt_mul_of_pos_right h hk
  rw [if_neg (show ¬ x*k < y*k by omega),if_neg (show ¬ x < y by omega),if_pos h,if_pos this]
theorem cmp_mk {i j k l:Nat} {a b c d:Int} (hb:0 < b) (hd:0 < d) (h1:Bd i a) (h2:Bd j b) (h3:Bd k c) (h4:Bd l d) (hi:i < 480:=by decide) (hj:j < 480:=by decide) (hk:k < 480:=by decide) (hl:l < 480:=by decide):cmpI ((mkQ a b).1.p*(mkQ c d).1.q) ((mkQ c d).1.p*(mkQ a b).1.q)=cmpI (a*d) (c*b):=by
 obtain ⟨r,e1,e2,e3,e4,e5⟩:=mkQ_v hb h1 h2 hi hj
 obtain ⟨s,f1,f2,f3,f4,f5⟩:=mkQ_v hd h3 h4 hk hl
 obtain ⟨-,-,q1,-,-⟩:=RQ.ok_bits e2
 obtain ⟨-,-,q2,-,-⟩:=RQ.ok_bits f2
 rw [e1,f1]
 show cmpI (r.p*s.q) (s.p*r.q)=_
 rw [← cmpI_scale (x:=r.p*s.q) (Int.mul_pos hb hd),← cmpI_scale (x:=a*d) (Int.mul_pos q1 q2)]
 have a1:r.p*s.q*(b*d)=a*d*(r.q*s.q):=by
  have:r.p*s.q*(b*d)=(r.p*b)*(s.q*d):=by ac_rfl
  rw [this,e3];ac_rfl
 have a2:s.p*r.q*(b*d)=c*b*(r.q*s.q):=by
  have:s.p*r.q*(b*d)=(s.p*d)*(r.q*b):=by ac_rfl
  rw [this,f3];ac_rfl
 rw [a1,a2]
theorem of_mk {n:Int} (hn:Bd 60 n):RQ.of n 1=(mkQ n 1).1:=by
 obtain ⟨r,e1,e2,e3,e4,e5⟩:=mkQ_v (y:=1) (by decide) hn (show Bd 1 1 from by unfold Bd;decide)
 rw [e1]
 obtain ⟨-,-,q1,-,-⟩:=RQ.ok_bits e2
 refine rq_eq ?_ e2 ?_
 ·refine decide_eq_true ⟨bl_le (k:=e480) (hn.lt (by decide)),(show bl (1:Nat)≤480 by decide),?_,rfl,(show 0 < (1:Nat) by decide),?_⟩
  ·show decide (n < 0)=true→_
   intro h;have:=of_decide_eq_true h;show n.natAbs≠0;omega
  ·show Nat.gcd n.natAbs 1=1
   exact Nat.gcd_one_right _
 ·rw [RQ.of_p,RQ.of_q]
  show n*r.q=r.p*1
  omega
theorem rnd_mk {i j:Nat} {a b:Int} (hb:0 < b) (h1:Bd i a) (h2:Bd j b) (hi:i < 480:=by decide) (hj:j < 480:=by decide):∃ c:Int,rndQ (mkQ a b).1 2 6=(c,0)∧-b≤2*(c*b - 100*a)∧2*(c*b - 100*a)≤b:=by
 obtain ⟨r,e1,e2,e3,e4,e5⟩:=mkQ_v hb h1 h2 hi hj
 obtain ⟨-,-,q1,-,-⟩:=RQ.ok_bits e2
 have ht:((tp (2:Int).toNat:Nat):Int)=100:=rfl
 refine ⟨rndZ 6 (r.p*100) r.q,?_,?_⟩
 ·rw [e1,rndQ]
  simp only [e2]
  rw [ht]
  simp
 ·obtain ⟨h3,h4⟩:=rnd_half (x:=r.p*100) q1
  generalize rndZ 6 (r.p*100) r.q=c at *
  have e6:(2*(c*b - 100*a))*r.q=(2*(c*r.q - r.p*100))*b:=by
   have x1:(2*(c*b - 100*a))*r.q=2*(c*b*r.q - 100*(a*r.q)):=by
    rw [Int.mul_assoc,Int.sub_mul,Int.mul_assoc 100 a]
   have x2:(2*(c*r.q - r.p*100))*b=2*(c*b*r.q - 100*(r.p*b)):=by
    rw [Int.mul_assoc,Int.sub_mul]
    congr 1
    congr 1
    ·ac_rfl
    ·ac_rfl
   rw [x1,x2,e3]
  constructor
  ·have:=Int.mul_le_mul_of_nonneg_right h3 (show 0≤b by omega)
   rw [← e6] at this
   have x : -r.q*b=(-b)*r.q:=by rw [Int.neg_mul,Int.neg_mul,Int.mul_comm]
   rw [x] at this
   exact Int.le_of_mul_le_mul_right this q1
  ·have:=Int.mul_le_mul_of_nonneg_right h4 (show 0≤b by omega)
   rw [← e6,Int.mul_comm r.q b] at this
   exact Int.le_of_mul_le_mul_right this q1
theorem bd60 {a:Int} (h1 : -1000000000000000000≤a) (h2:a≤1000000000000000000):Bd 60 a:=by unfold Bd;omega
theorem apply_val {a:AC} (ha:actOk a=true) {q:Int} (h0:0≤q) (h1:q≤1000000000000000) (hp:pieQ a q≤1000000000000000) {x y u v:Int} (hxy:paidQ a q=(mkQ x y).1) (hx:Bd 60 x) (hy:Bd 60 y) (hy0:0 < y)
    (hc:a.cash=(mkQ u v).1) (hu:Bd 60 u) (hv:Bd 60 v) (hv0:0 < v) (hxu:0≤x*u) (hb:100*(x*u)≤999999999999999*(y*v)) :
    ∃ c,applyA a q=(⟨intoA a,pieQ a q,c⟩,0)∧-(y*v)≤2*(c*(y*v) - 100*(x*u))∧2*(c*(y*v) - 100*(x*u))≤y*v:=by
 have hyv:=Int.mul_pos hy0 hv0
 have hm:mulQ (paidQ a q) a.cash=mkQ (x*u) (y*v):=by rw [hxy,hc];exact mulQ_mk hy0 hv0 hx hy hu hv
 obtain ⟨c,h2,h3,h4⟩:=rnd_mk (a:=x*u) (b:=y*v) hyv (hx.mul hu) (hy.mul hv)
 refine ⟨c,?_,h3,h4⟩
 have hk:¬ (actOk a=false):=by rw [ha];simp
 generalize hY:y*v=Y at *
 generalize hX:x*u=X at *
 have c1:c≤999999999999999:=by
  rcases Int.lt_or_le 999999999999999 c with hlt | hle
  ·have:=Int.mul_le_mul_of_nonneg_right (show 1000000000000000≤c by omega) (show 0≤Y by omega)
   omega
  ·exact hle
 have c2:0≤c:=by
  rcases Int.lt_or_le c 0 with hlt | hle
  ·have:=Int.mul_le_mul_of_nonneg_right (show c≤-1 by omega) (show 0≤Y by omega)
   omega
  ·exact hle
 have hr:rndI (rndQ (mulQ (paidQ a q) a.cash).1 2 6)=(c,0):=by
  rw [hm,h2,rndI,if_neg (by simp),if_neg (show ¬ (c < -1000000000000000∨c > 1000000000000000) by omega)]
 rw [applyA,if_neg hk,if_neg (show ¬ (q < 0∨q > 1000000000000000) by omega),if_neg (by omega),hr,if_neg (by simp)]
theorem split_ok {n d:Int} {r:RQ} (hn:facOk n=true) (hd:facOk d=true) (hr:payOk r=true):actOk (splitA n d r)=true:=by
 have:actOk (splitA n d r)=(payOk r && (facOk n && facOk d)):=by
  unfold actOk validA hdrOk bodyOk kindOk
  simp only [splitA]
  cases payOk r<;>cases facOk n<;>cases facOk d<;>kernel_rfl
 rw [this,hn,hd,hr];rfl
theorem facOk_of {n:Int} (h1:1≤n) (h2:n≤1000000):facOk n=true:=by
 unfold facOk;rw [decide_eq_true h1,decide_eq_true h2];rfl
theorem div_ok {r:RQ} (hr:payOk r=true) (hs:0 < r.p):actOk (divA r)=true:=by
 have hs1:sgn r.p=1:=by unfold sgn;rw [if_neg (by omega),if_neg (by omega)]
 have:actOk (divA r)=(payOk r && decide (sgn r.p > 0)):=by
  unfold actOk validA hdrOk bodyOk kindOk
  simp only [divA]
  cases payOk r<;>kernel_rfl
 rw [this,hr,hs1];rfl
theorem price_of {r:RQ} (h:isPrice r):∃ n d:Int,r=(mkQ n d).1∧1≤n∧n≤200000∧1≤d∧d≤1000000∧d ∣ 1000000∧payOk r=true∧r.ok=true∧0 < r.p:=by
 obtain ⟨n,d,rfl,h1,h2,h3⟩:=h
 have hd:1≤d∧d≤1000000∧d ∣ 1000000:=by
  simp at h3
  rcases h3 with rfl | rfl | rfl | rfl | rfl | rfl | rfl<;>exact ⟨by decide,by decide,by decide⟩
 obtain ⟨p1,p2,p3,p4,p5,p6⟩:=price_val (n:=n) (d:=d) (by omega) h2 hd.1 hd.2.1 hd.2.2
 refine ⟨n,d,rfl,h1,h2,hd.1,hd.2.1,hd.2.2,p1,p2,?_⟩
 rcases Int.lt_or_eq_of_le p3 with h | h
 ·exact h
 ·exfalso
  obtain ⟨-,-,q1,-,-⟩:=RQ.ok_bits p2
  rw [← h,Int.zero_mul] at p6
  have:=Int.mul_pos (show 0 < n by omega) q1
  omega
theorem split_val' {num den:Int} (h1:1≤num) (h2:num≤1000) (h3:1≤den) (h4:den≤1000) {r:RQ} {u v:Int} (hu:r=(mkQ u v).1) (u1:0≤u) (u2:u≤200000) (v1:1≤v) (v2:v≤1000000) (p1:payOk r=true) {q:Int} (h0:0≤q) (hq:q≤10000000) :
    ∃ c,applyA (splitA num den r) q=(⟨[65,67,77,69],q*num / den,c⟩,0)∧(q=0→c=0):=by
 have hm:=Int.emod_nonneg (q*num) (show den≠0 by omega)
 have hm2:=Int.emod_lt_of_pos (q*num) (show 0 < den by omega)
 have hpq:pieQ (splitA num den r) q=q*num / den:=by unfold pieQ;rw [if_neg (show ¬ (splitA num den r).kind=2 from (show ¬ (1:Int)=2 by decide))];rfl
 have hpa:paidQ (splitA num den r) q=(mkQ (q*num % den) den).1:=by unfold paidQ;rw [if_neg (show ¬ (splitA num den r).kind=2 from (show ¬ (1:Int)=2 by decide))];rfl
 have hin:intoA (splitA num den r)=[65,67,77,69]:=by unfold intoA;rw [if_neg (show ¬ (splitA num den r).kind=3 from (show ¬ (1:Int)=3 by decide))];rfl
 have b1:0≤q*num∧q*num≤10000000*1000:=⟨Int.mul_nonneg h0 (by omega),Int.mul_le_mul hq h2 (by omega) (by omega)⟩
 have b2:0≤q*num / den∧q*num / den≤q*num:=⟨Int.ediv_nonneg b1.1 (by omega),Int.ediv_le_self den b1.1⟩
 have b3:0≤(q*num % den)*u∧(q*num % den)*u≤1000*200000:=⟨Int.mul_nonneg hm (by omega),Int.mul_le_mul (by omega) u2 (by omega) (by omega)⟩
 have b4:1*1≤den*v:=Int.mul_le_mul h3 v1 (by omega) (by omega)
 obtain ⟨c,hc,i1,i2⟩:=apply_val (split_ok (facOk_of h1 (by omega)) (facOk_of h3 (by omega)) p1) h0 (by omega) (by rw [hpq];omega) hpa (bd60 (by omega) (by omega)) (bd60 (by omega) (by omega)) (by omega) hu (bd60 (by omega) (by omega)) (bd60 (by omega) (by omega)) (by omega) b3.1 (by omega)
 refine ⟨c,by rw [hc,hpq,hin],fun e=>?_⟩
 subst e
 rw [Int.zero_mul,Int.zero_emod,Int.zero_mul] at i1 i2
 generalize den*v=Y at *
 rcases Int.lt_trichotomy c 0 with h | h | h
 ·have:=Int.mul_le_mul_of_nonneg_right (show c≤-1 by omega) (show 0≤Y by omega);omega
 ·exact h
 ·have:=Int.mul_le_mul_of_nonneg_right (show 1≤c by omega) (show 0≤Y by omega);omega
theorem split_val {num den:Int} (h1:1≤num) (h2:num≤1000) (h3:1≤den) (h4:den≤1000) {r:RQ} (hr:isPrice r) {q:Int} (h0:0≤q) (hq:q≤1000000) :
    ∃ c,applyA (splitA num den r) q=(⟨[65,67,77,69],q*num / den,c⟩,0)∧(q=0→c=0):=by
 obtain ⟨u,v,hu,u1,u2,v1,v2,-,p1,p2,p3⟩:=price_of hr
 exact split_val' h1 h2 h3 h4 hu (by omega) u2 v1 v2 p1 h0 (by omega)
theorem floor_sum {a b d:Int} (hd:0 < d) (_h1:0≤a) (_h2:0≤b):(a+b) / d - a / d - b / d=0∨(a+b) / d - a / d - b / d=1:=by
 have e1:=Int.mul_ediv_add_emod a d
 have e2:=Int.mul_ediv_add_emod b d
 have e3:=Int.mul_ediv_add_emod (a+b) d
 have l1:=Int.emod_nonneg a (show d≠0 by omega)
 have l2:=Int.emod_nonneg b (show d≠0 by omega)
 have l3:=Int.emod_nonneg (a+b) (show d≠0 by omega)
 have m1:=Int.emod_lt_of_pos a hd
 have m2:=Int.emod_lt_of_pos b hd
 have m3:=Int.emod_lt_of_pos (a+b) hd
 have e4:d*((a+b) / d - a / d - b / d)=a % d+b % d - (a+b) % d:=by
  rw [Int.mul_sub,Int.mul_sub];omega
 generalize (a+b) / d - a / d - b / d=k at *
 rcases Int.lt_or_le k 0 with h | h
 ·have:=Int.mul_le_mul_of_nonneg_left (show k≤-1 by omega) (show 0≤d by omega);omega
 ·rcases Int.lt_or_le 1 k with h | h
  ·have:=Int.mul_le_mul_of_nonneg_left (show 2≤k by omega) (show 0≤d by omega);omega
  ·omega
theorem actionMonotone_f {v:Value} {zs:List Int} (w:World) (hv:Tp (envP Tryz.prog tt Tryz.f7.ntmps w).toEnv v zs):Calls Tryz.prog 7 #[v] w fun e w'=>e=.returned (.bool true)∧Below w.heap.size w w':=by
 refine sx_at [] tt_ok mixed at7 [v] _ w rfl ?_
 have hv0:=hv
 obtain ⟨a,cap,rfl,-⟩:=hv0
 refine ⟨_,fill_tape a zs.length cap rfl,rfl,?_⟩
 generalize hvv:Value.slice a zs.length cap=v at *
 obtain ⟨r1,k1,a1,b1,⟨i1,rfl,c1⟩,O1⟩:=next_g (n:=20) (by decide) zs 0 (by omega)
 obtain ⟨r2,k2,a2,b2,⟨i2,rfl,c2⟩,O2⟩:=next_g (n:=20) (by decide) zs k1 (by omega)
 obtain ⟨r3,k3,a3,b3,⟨x3,rfl,c3⟩,O3⟩:=price_g zs k2 (by omega)
 obtain ⟨r4,k4,a4,b4,⟨n,rfl,c4⟩,O4⟩:=next_g (n:=3000) (by decide) zs k3 (by omega)
 obtain ⟨r5,k5,a5,b5,⟨m,rfl,c5⟩,O5⟩:=next_g (n:=3000) (by decide) zs k4 (by omega)
 have e1:IntKind.i64.wrap (1+i1)=1+i1:=i64_in (by omega)
 have e2:IntKind.i64.wrap (1+i2)=1+i2:=i64_in (by omega)
 have e3:IntKind.i64.wrap (n+m)=n+m:=i64_in (by omega)
 have sp:=split_f (IntKind.i64.wrap (1+i1)) (IntKind.i64.wrap (1+i2)) x3
 have si:=splitA_in (n:=IntKind.i64.wrap (1+i1)) (d:=IntKind.i64.wrap (1+i2)) (isPrice.in_ c3) (by omega) (by omega) (by omega) (by omega)
 have ap:=fun q=>apply_z si q
 have sv:=fun q h1 h2=>split_val (num:=IntKind.i64.wrap (1+i1)) (den:=IntKind.i64.wrap (1+i2)) (by omega) (by omega) (by omega) (by omega) c3 (q:=q) h1 h2
 have fs:=floor_sum (a:=n*IntKind.i64.wrap (1+i1)) (b:=m*IntKind.i64.wrap (1+i1)) (d:=IntKind.i64.wrap (1+i2)) (by omega) (Int.mul_nonneg (by omega) (by omega)) (Int.mul_nonneg (by omega) (by omega))
 have mo:n*IntKind.i64.wrap (1+i1) / IntKind.i64.wrap (1+i2)≤IntKind.i64.wrap (n+m)*IntKind.i64.wrap (1+i1) / IntKind.i64.wrap (1+i2):=by
  refine Int.ediv_le_ediv (by omega) (Int.mul_le_mul_of_nonneg_right (by omega) (by omega))
 rw [← Int.add_mul,← e3] at fs
 have bd:∀ q,0≤q→q≤6000→0≤q*IntKind.i64.wrap (1+i1) / IntKind.i64.wrap (1+i2)∧q*IntKind.i64.wrap (1+i1) / IntKind.i64.wrap (1+i2)≤6000*20:=fun q h1 h2=>by
  have t1:0≤q*IntKind.i64.wrap (1+i1):=Int.mul_nonneg h1 (by omega)
  have t2:q*IntKind.i64.wrap (1+i1)≤6000*20:=Int.mul_le_mul h2 (by omega) (by omega) (by omega)
  have t3:=Int.ediv_le_self (IntKind.i64.wrap (1+i2)) t1
  exact ⟨Int.ediv_nonneg t1 (by omega),by omega⟩
 obtain ⟨cn,en,-⟩:=sv n (by omega) (by omega)
 obtain ⟨cm,em,-⟩:=sv m (by omega) (by omega)
 obtain ⟨cs,es,-⟩:=sv (IntKind.i64.wrap (n+m)) (by omega) (by omega)
 obtain ⟨c0,e0,z0⟩:=sv 0 (by omega) (by omega)
 have z0:=z0 rfl
 rw [Int.zero_mul,Int.zero_ediv] at e0
 subst z0
 have A1:=ap n
 rw [en] at A1
 have A2:=ap m
 rw [em] at A2
 have A3:=ap (IntKind.i64.wrap (n+m))
 rw [es] at A3
 have A0:=ap 0
 rw [e0] at A0
 have B1:=bd n (by omega) (by omega)
 have B2:=bd m (by omega) (by omega)
 have B3:=bd (IntKind.i64.wrap (n+m)) (by omega) (by omega)
 generalize splitA (IntKind.i64.wrap (1+i1)) (IntKind.i64.wrap (1+i2)) x3=A at *
 generalize n*IntKind.i64.wrap (1+i1) / IntKind.i64.wrap (1+i2)=qn at *
 generalize m*IntKind.i64.wrap (1+i1) / IntKind.i64.wrap (1+i2)=qm at *
 generalize IntKind.i64.wrap (n+m)*IntKind.i64.wrap (1+i1) / IntKind.i64.wrap (1+i2)=qs at *
 have ew:IntKind.i64.wrap (IntKind.i64.wrap (qs - qn) - qm)=qs - qn - qm:=by rw [i64_in (show -9223372036854775808≤qs - qn∧qs - qn≤9223372036854775807 by omega),i64_in (by omega)]
 refine .inr ⟨_,_,_,O1 _ v 18 rfl hv,⟨rfl,trivial⟩,rfl,.inr ⟨_,_,_,O2 _ v 18 rfl hv,⟨rfl,trivial⟩,rfl,.inr ⟨_,_,_,O3 _ v 18 rfl hv,⟨rfl,trivial⟩,rfl,.inl ⟨_,sp,AC.fits _,?_⟩⟩⟩⟩
 refine .inr ⟨_,_,_,O4 _ v 18 rfl hv,⟨rfl,trivial⟩,rfl,.inr ⟨_,_,_,O5 _ v 18 rfl hv,⟨rfl,trivial⟩,rfl,?_⟩⟩
 refine .inl ⟨_,A1,EF.fits _,.inl ⟨_,A2,EF.fits _,.inl ⟨_,A3,EF.fits _,.inl ⟨_,A0,EF.fits _,?_⟩⟩⟩⟩
 refine ⟨_,rfl,_,rfl,_,rfl,.inl ⟨_,known_f,?_⟩⟩
 refine ⟨fun _=>⟨fun _=>⟨fun _=>⟨fun _=>⟨fun _=>⟨_,rfl,fun _=>⟨_,rfl,fun _=>⟨_,rfl,_,rfl,?_⟩,nofun⟩,nofun⟩,nofun⟩,nofun⟩,nofun⟩,nofun⟩,nofun⟩
 have hd:decide (qn≤qs)=true:=decide_eq_true mo
 refine ⟨fun _=>?_,fun h=>absurd (hd.symm.trans h) (by decide)⟩
 rw [ew]
 refine ⟨fun h=>⟨bv ?_,trivial⟩,fun h=>⟨bv rfl,trivial⟩⟩
 have h:¬ (qs - qn - qm=0):=by
  intro e
  have h:(qs - qn - qm == 0)=false:=h
  rw [e] at h;simp at h
 rw [beq_iff_eq]
 omega
theorem pay_zero:payOk (mkQ 0 1).1=true:=by decide
theorem split_zero {num den:Int} (h1:1≤num) (h2:num≤1000) (h3:1≤den) (h4:den≤1000) {q:Int} (h0:0≤q) (hq:q≤10000000) :
    ∃ c,applyA (splitA num den (mkQ 0 1).1) q=(⟨[65,67,77,69],q*num / den,c⟩,0):=by
 obtain ⟨c,h,-⟩:=split_val' h1 h2 h3 h4 (u:=0) (v:=1) rfl (by omega) (by omega) (by omega) (by omega) pay_zero h0 hq
 exact ⟨c,h⟩
theorem adj_split {num den:Int} (h1:1≤num) (h2:num≤1000) (h3:1≤den) (h4:den≤1000) {u v:Int} {i:Nat} (hu:Bd i u) (hv0:0 < v) (hv:Bd i v) (hi:i≤100):adjustA (splitA num den (mkQ 0 1).1) (mkQ u v).1=mkQ (u*den) (v*num):=by
 have hk:¬ (actOk (splitA num den (mkQ 0 1).1)=false):=by rw [split_ok (facOk_of h1 (by omega)) (facOk_of h3 (by omega)) pay_zero];simp
 rw [adjustA,if_neg hk,if_neg (show ¬ (splitA num den (mkQ 0 1).1).kind=2 from (show ¬ (1:Int)=2 by decide))]
 exact mulQ_mk (c:=den) (d:=num) hv0 (by omega) hu hv (bd20 (a:=den) (by omega) (by omega)) (bd20 (a:=num) (by omega) (by omega)) (by omega) (by omega)
theorem back_le {n a b:Int} (_h0:0≤n) (ha:0 < a) (hb:0 < b):(n*a / b)*b / a≤n∧(n*a % b=0→(n*a / b)*b / a=n):=by
 have e1:=Int.mul_ediv_add_emod (n*a) b
 have e2:=Int.emod_nonneg (n*a) (show b≠0 by omega)
 rw [Int.mul_comm b] at e1
 constructor
 ·have:=Int.ediv_le_ediv ha (show n*a / b*b≤n*a by omega)
  rw [Int.mul_ediv_cancel n (by omega)] at this
  exact this
 ·intro h
  have:n*a / b*b=n*a:=by omega
  rw [this,Int.mul_ediv_cancel n (by omega)]
theorem actionInverse_f {v:Value} {zs:List Int} (w:World) (hv:Tp (envP Tryz.prog tt Tryz.f8.ntmps w).toEnv v zs):Calls Tryz.prog 8 #[v] w fun e w'=>e=.returned (.bool true)∧Below w.heap.size w w':=by
 refine sx_at [] tt_ok mixed at8 [v] _ w rfl ?_
 have hv0:=hv
 obtain ⟨a,cap,rfl,-⟩:=hv0
 refine ⟨_,fill_tape a zs.length cap rfl,rfl,?_⟩
 generalize hvv:Value.slice a zs.length cap=v at *
 obtain ⟨r1,k1,a1,b1,⟨i1,rfl,c1⟩,O1⟩:=next_g (n:=30) (by decide) zs 0 (by omega)
 obtain ⟨r2,k2,a2,b2,⟨i2,rfl,c2⟩,O2⟩:=next_g (n:=30) (by decide) zs k1 (by omega)
 obtain ⟨r4,k4,a4,b4,⟨n,rfl,c4⟩,O4⟩:=next_g (n:=100000) (by decide) zs k2 (by omega)
 obtain ⟨r3,k3,a3,b3,⟨x3,rfl,c3⟩,O3⟩:=price_g zs k4 (by omega)
 have e1:IntKind.i64.wrap (1+i1)=1+i1:=i64_in (by omega)
 have e2:IntKind.i64.wrap (1+i2)=1+i2:=i64_in (by omega)
 obtain ⟨num,hnum⟩:∃ num,IntKind.i64.wrap (1+i1)=num:=⟨_,rfl⟩
 obtain ⟨den,hden⟩:∃ den,IntKind.i64.wrap (1+i2)=den:=⟨_,rfl⟩
 have o0:=made_of (n:=0) (d:=1) (by decide) (by decide) (by decide) (by decide)
 have sp1:=split_f num den (mkQ 0 1).1
 have sp2:=split_f den num (mkQ 0 1).1
 have si1:=splitA_in (n:=num) (d:=den) (mkQ_in 0 1) (by omega) (by omega) (by omega) (by omega)
 have si2:=splitA_in (n:=den) (d:=num) (mkQ_in 0 1) (by omega) (by omega) (by omega) (by omega)
 have b1:0≤n*num∧n*num≤100000*30:=⟨Int.mul_nonneg (by omega) (by omega),Int.mul_le_mul (by omega) (by omega) (by omega) (by omega)⟩
 have b2:0≤n*num / den∧n*num / den≤n*num:=⟨Int.ediv_nonneg b1.1 (by omega),Int.ediv_le_self den b1.1⟩
 obtain ⟨cx,ex⟩:=split_zero (num:=num) (den:=den) (by omega) (by omega) (by omega) (by omega) (q:=n) (by omega) (by omega)
 obtain ⟨cy,ey⟩:=split_zero (num:=den) (den:=num) (by omega) (by omega) (by omega) (by omega) (q:=n*num / den) (by omega) (by omega)
 have A1:=apply_z si1 n
 rw [ex] at A1
 have A2:=apply_z si2 (n*num / den)
 rw [ey] at A2
 have bk:=back_le (n:=n) (a:=num) (b:=den) (by omega) (by omega) (by omega)
 have c3:=c3
 obtain ⟨u,t,rfl,u1,u2,t1,t2,-⟩:=price_of c3
 have hu:Bd 20 u:=bd20 (by omega) (by omega)
 have ht:Bd 20 t:=bd20 (by omega) (by omega)
 have hn2:Bd 20 num:=bd20 (by omega) (by omega)
 have hd2:Bd 20 den:=bd20 (by omega) (by omega)
 have J1:=adjust_z si1 (mkQ_in u t)
 rw [adj_split (by omega) (by omega) (by omega) (by omega) hu (by omega) ht (by omega)] at J1
 have J2:=adjust_z si2 (mkQ_in (u*den) (t*num))
 rw [adj_split (by omega) (by omega) (by omega) (by omega) (hu.mul hd2) (Int.mul_pos (by omega) (by omega)) (ht.mul hn2) (by omega),
  mkQ_same (x':=u) (y':=t) (Int.mul_pos (Int.mul_pos (by omega) (by omega)) (by omega)) ((hu.mul hd2).mul hn2) ((ht.mul hn2).mul hd2) (by omega) hu ht (by ac_rfl)] at J2
 obtain ⟨okp,ep⟩:=mkQ_ok (x:=u*den) (y:=t*num) (Int.mul_pos (by omega) (by omega)) (hu.mul hd2) (ht.mul hn2)
 obtain ⟨okq,eq⟩:=mkQ_ok (x:=u) (y:=t) (by omega) hu ht
 have qq:=mkQ_in u t
 have L64:∀ {z:Int},-9223372036854775808≤z→z≤9223372036854775807→z.natAbs < BB ^ 32:=fun {z} h1 h2=>Nat.lt_of_lt_of_le (show z.natAbs < 18446744073709551616 by omega) two64
 have F1:=fromInt_r n (by omega) (by omega)
 have F2:=fromInt_r num (by omega) (by omega)
 have F3:=fromInt_r den (by omega) (by omega)
 have M1:=mul_r (isI_e (z:=n) (L64 (by omega) (by omega))) (isI_e (z:=num) (L64 (by omega) (by omega)))
 rw [fitR,if_pos (L64 (by omega) (by omega))] at M1
 have D1:=divmod_r (isI_e (z:=n*num) (L64 (by omega) (by omega))) (isI_e (z:=den) (L64 (by omega) (by omega))) (by omega)
 have m0:=Int.emod_nonneg (n*num) (show den≠0 by omega)
 have m1:=Int.emod_lt_of_pos (n*num) (show 0 < den by omega)
 have S1:=sign_r (isI_e (z:=n*num % den) (L64 (by omega) (by omega)))
 subst hnum;subst hden
 refine .inr ⟨_,_,_,O1 _ v 23 rfl hv,⟨rfl,trivial⟩,rfl,.inr ⟨_,_,_,O2 _ v 23 rfl hv,⟨rfl,trivial⟩,rfl,?_⟩⟩
 refine .inr ⟨_,_,_,O4 _ v 23 rfl hv,⟨rfl,trivial⟩,rfl,?_⟩
 refine .inl ⟨_,o0,.inl ⟨_,sp1,.inl ⟨_,A1,EF.fits _,?_⟩⟩⟩
 refine .inl ⟨_,o0,.inl ⟨_,sp2,?_⟩⟩
 refine ⟨_,rfl,.inl ⟨_,A2,EF.fits _,by kernel_rfl,?_⟩⟩
 refine .inr ⟨_,_,_,O3 _ v 23 rfl hv,⟨rfl,trivial⟩,rfl,RQ.A_fits _,?_⟩
 refine .inl ⟨_,o0,.inl ⟨_,sp1,.inl ⟨_,J1,RQ.A_fits _,by kernel_rfl,?_⟩⟩⟩
 refine .inl ⟨_,o0,.inl ⟨_,sp2,.inl ⟨_,J2,RQ.A_fits _,by kernel_rfl,?_⟩⟩⟩
 refine .inl ⟨_,F1,.inl ⟨_,F2,.inl ⟨_,M1,eA_fits _,?_⟩⟩⟩
 refine .inl ⟨_,F3,.inl ⟨_,D1,eA_fits _,eA_fits _,by kernel_rfl,?_⟩⟩
 refine .inl ⟨_,known_f,?_⟩
 have hle:=decide_eq_true bk.1
 have hz:=bk.2
 generalize n*IntKind.i64.wrap (1+i1) % IntKind.i64.wrap (1+i2)=z at *
 generalize n*IntKind.i64.wrap (1+i1) / IntKind.i64.wrap (1+i2)*IntKind.i64.wrap (1+i2) / IntKind.i64.wrap (1+i1)=y at *
 have hf1:decide (y≤n)=true:=hle
 have hg1:((mkQ (u*IntKind.i64.wrap (1+i2)) (t*IntKind.i64.wrap (1+i1))).2 == 0)=true:=by rw [ep];rfl
 have hg2:((mkQ u t).2 == 0)=true:=by rw [eq];rfl
 generalize mkQ (u*IntKind.i64.wrap (1+i2)) (t*IntKind.i64.wrap (1+i1))=P at *
 generalize mkQ u t=Q at *
 refine ⟨fun _=>⟨fun _=>⟨fun _=>⟨_,rfl,fun _=>.inl ⟨_,S1,fun h=>⟨_,rfl,?_⟩,fun h=>?_⟩,fun h=>absurd (hf1.symm.trans h) (by decide)⟩,nofun⟩,nofun⟩,nofun⟩
 ·have h:(sgn z != 0)=false:=h
  have h:sgn z=0:=by simpa using h
  have h0:z=0:=by
   unfold sgn at h
   split at h
   ·omega
   ·split at h<;>omega
  have hy:y=n:=hz h0
  subst hy
  refine ⟨fun _=>?_,fun h=>absurd ((beq_self_eq_true y).symm.trans h) (by decide)⟩
  refine ⟨fun _=>⟨fun _=>⟨_,eqs_ratio rfl qq,rfl,trivial⟩,fun h=>absurd (hg2.symm.trans h) (by decide)⟩,fun h=>absurd (hg1.symm.trans h) (by decide)⟩
 ·refine ⟨fun _=>?_,nofun⟩
  refine ⟨fun _=>⟨fun _=>⟨_,eqs_ratio rfl qq,rfl,trivial⟩,fun h=>absurd (hg2.symm.trans h) (by decide)⟩,fun h=>absurd (hg1.symm.trans h) (by decide)⟩
theorem div_val {r:RQ} (hr:isPrice r) {q:Int} (h0:0≤q) (hq:q≤100000):∃ u v c:Int,r=(mkQ u v).1∧1≤u∧u≤200000∧1≤v∧v≤1000000∧actOk (divA r)=true∧applyA (divA r) q=(⟨[65,67,77,69],q,c⟩,0)∧-v≤2*(c*v - 100*(q*u))∧2*(c*v - 100*(q*u))≤v∧0≤c∧c≤10000000000000:=by
 obtain ⟨u,v,hu,u1,u2,v1,v2,-,p1,p2,p3⟩:=price_of hr
 have ha:=div_ok p1 p3
 have hpq:pieQ (divA r) q=q:=by unfold pieQ;rw [if_pos (show (divA r).kind=2 from rfl)]
 have hq60:Bd 60 q:=bd60 (by omega) (by omega)
 have hpa:paidQ (divA r) q=(mkQ q 1).1:=by unfold paidQ;rw [if_pos (show (divA r).kind=2 from rfl)];exact of_mk hq60
 have hin:intoA (divA r)=[65,67,77,69]:=by unfold intoA;rw [if_neg (show ¬ (divA r).kind=3 from (show ¬ (2:Int)=3 by decide))];rfl
 have b1:0≤q*u∧q*u≤100000*200000:=⟨Int.mul_nonneg h0 (by omega),Int.mul_le_mul hq u2 (by omega) (by omega)⟩
 obtain ⟨c,hc,i1,i2⟩:=apply_val ha h0 (by omega) (by rw [hpq];omega) hpa hq60 (bd60 (a:=1) (by omega) (by omega)) (by omega) (show (divA r).cash=(mkQ u v).1 from hu) (bd60 (a:=u) (by omega) (by omega)) (bd60 (a:=v) (by omega) (by omega)) (by omega) b1.1 (by omega)
 rw [Int.one_mul] at i1 i2
 have c0:0≤c:=by
  rcases Int.lt_or_le c 0 with h | h
  ·have:=Int.mul_le_mul_of_nonneg_right (show c≤-1 by omega) (show 0≤v by omega);omega
  ·exact h
 have c1:c≤10000000000000:=by
  have:=Int.mul_le_mul_of_nonneg_left v1 c0
  omega
 exact ⟨u,v,c,hu,u1,u2,v1,v2,ha,by rw [hc,hpq,hin],i1,i2,c0,c1⟩
theorem cmp_le {x y:Int} (h:x≤y):cmpI x y≤0:=by
 unfold cmpI;split
 ·omega
 ·split<;>omega
theorem actionDividend_f {v:Value} {zs:List Int} (w:World) (hv:Tp (envP Tryz.prog tt Tryz.f6.ntmps w).toEnv v zs):Calls Tryz.prog 6 #[v] w fun e w'=>e=.returned (.bool true)∧Below w.heap.size w w':=by
 refine sx_at [] tt_ok mixed at6 [v] _ w rfl ?_
 have hv0:=hv
 obtain ⟨a,cap,rfl,-⟩:=hv0
 refine ⟨_,fill_tape a zs.length cap rfl,rfl,?_⟩
 generalize hvv:Value.slice a zs.length cap=v at *
 obtain ⟨r1,k1,a1,b1,⟨cash,rfl,c1⟩,O1⟩:=price_g zs 0 (by omega)
 obtain ⟨r2,k2,a2,b2,⟨price,rfl,c2⟩,O2⟩:=price_g zs k1 (by omega)
 obtain ⟨r4,k4,a4,b4,⟨n,rfl,c4⟩,O4⟩:=next_g (n:=100000) (by decide) zs k2 (by omega)
 have di:=divA_in (isPrice.in_ c1)
 obtain ⟨u,t,c,hu,u1,u2,t1,t2,ha,hap,i1,i2,d0,d1⟩:=div_val c1 (q:=n) (by omega) (by omega)
 obtain ⟨p,s,hp,p1,p2,s1,s2,-⟩:=price_of c2
 have A1:=apply_z di n
 rw [hap] at A1
 have J1:=adjust_z di (isPrice.in_ c2)
 have hj:adjustA (divA cash) price=mkQ (p*t + -(u*s)) (s*t):=by
  rw [adjustA,if_neg (by rw [ha];simp),if_pos (show (divA cash).kind=2 from rfl)]
  rw [hp,show (divA cash).cash=(mkQ u t).1 from hu]
  exact sumQ_mk true (i:=20) (j:=20) (by omega) (by omega) (bd20 (a:=p) (by omega) (by omega)) (bd20 (a:=s) (by omega) (by omega)) (bd20 (a:=u) (by omega) (by omega)) (bd20 (a:=t) (by omega) (by omega))
 rw [hj] at J1
 subst hu;subst hp
 have bn:Bd 60 n:=bd60 (by omega) (by omega)
 have b1:Bd 60 (1:Int):=bd60 (by omega) (by omega)
 have bp:Bd 20 p:=bd20 (by omega) (by omega)
 have bs:Bd 20 s:=bd20 (by omega) (by omega)
 have bu:Bd 20 u:=bd20 (by omega) (by omega)
 have bt:Bd 20 t:=bd20 (by omega) (by omega)
 have bc:Bd 60 c:=bd60 (by omega) (by omega)
 have b100:Bd 20 (100:Int):=bd20 (by omega) (by omega)
 have W1:=whole_r (n:=n) (by omega) (by omega)
 rw [of_mk bn] at W1
 have M1:=mulR_r (mkQ_in n 1) (mkQ_in p s)
 have hb:0 < s*t:=Int.mul_pos (by omega) (by omega)
 rw [mulQ_mk (by omega) (by omega) bn b1 bp bs] at M1
 have M2:=mulR_r (mkQ_in n 1) (mkQ_in (p*t + -(u*s)) (s*t))
 have bX:Bd 41 (p*t + -(u*s)):=(bp.mul bt).add (bu.mul bs).neg
 rw [mulQ_mk (by omega) hb bn b1 bX (bs.mul bt)] at M2
 have F1:=made_of (n:=c) (d:=100) (by omega) (by omega) (by decide) (by decide)
 have P1:=addR_r (mkQ_in (n*(p*t + -(u*s))) (1*(s*t))) (mkQ_in c 100)
 have y1:0 < 1*(s*t):=by omega
 rw [sumQ_mk false (i:=110) (j:=100) y1 (by omega) ((bn.mul bX).mono (by omega)) ((b1.mul (bs.mul bt)).mono (by omega)) (bc.mono (by omega)) (b100.mono (by omega))] at P1
 have bA:Bd 211 (n*(p*t + -(u*s))*100+sg false (c*(1*(s*t)))):=(((bn.mul bX).mul b100).mono (by omega)).add ((bc.mul (b1.mul (bs.mul bt))).mono (by omega):Bd 210 _)
 have y2:0 < 1*(s*t)*100:=by omega
 have S1:=subR_r (mkQ_in (n*p) (1*s)) (mkQ_in (n*(p*t + -(u*s))*100+sg false (c*(1*(s*t)))) (1*(s*t)*100))
 rw [sumQ_mk true (i:=211) (j:=130) (by omega) y2 ((bn.mul bp).mono (by omega)) ((b1.mul bs).mono (by omega)) bA (((b1.mul (bs.mul bt)).mul b100).mono (by omega))] at S1
 obtain ⟨X,hX⟩:∃ X,n*p*(1*(s*t)*100)+sg true ((n*(p*t + -(u*s))*100+sg false (c*(1*(s*t))))*(1*s))=X:=⟨_,rfl⟩
 obtain ⟨Y,hY⟩:∃ Y,1*s*(1*(s*t)*100)=Y:=⟨_,rfl⟩
 have eX:X=s*s*(100*(n*u) - c*t):=by
  rw [← hX];simp only [sg,if_true,Bool.false_eq_true,if_false];grind
 have eY:Y=s*s*(100*t):=by rw [← hY];grind
 have bXX:Bd 400 X:=by
  rw [← hX]
  exact (Bd.add (((bn.mul bp).mul ((b1.mul (bs.mul bt)).mul b100)).mono (by omega):Bd 390 _) ((bA.mul (b1.mul bs)).neg.mono (by omega):Bd 390 _)).mono (by omega)
 have bYY:Bd 400 Y:=by
  rw [← hY]
  exact ((b1.mul bs).mul ((b1.mul (bs.mul bt)).mul b100)).mono (by omega)
 have ss:0 < s*s:=Int.mul_pos (by omega) (by omega)
 have Y0:0 < Y:=by rw [eY];exact Int.mul_pos ss (by omega)
 rw [hX,hY] at S1
 have B1:=absR_r (mkQ_in X Y)
 rw [absQ_mk Y0 bXX bYY] at B1
 have F2:=made_of (n:=1) (d:=200) (by decide) (by decide) (by decide) (by decide)
 have ok1:=(mkQ_ok Y0 bXX.abs bYY).1
 have ok2:=(mkQ_ok (x:=1) (y:=200) (by decide) b1 (bd60 (a:=200) (by omega) (by omega))).1
 have sl:=sum_lt ok1 ok2 true
 have C1:=compareR_r (mkQ_in (X.natAbs:Int) Y) (mkQ_in 1 200) sl.1 sl.2.1
 rw [cmp_mk Y0 (by decide) bXX.abs bYY b1 (bd60 (a:=200) (by omega) (by omega))] at C1
 have hcmp:cmpI ((X.natAbs:Int)*200) (1*Y)≤0:=by
  refine cmp_le ?_
  have h1 : -(s*s*t)≤2*X∧2*X≤s*s*t:=by
   have e:2*X=s*s*(-(2*(c*t - 100*(n*u)))):=by rw [eX];grind
   have g1:=Int.mul_le_mul_of_nonneg_left (show -t≤-(2*(c*t - 100*(n*u))) by omega) (show 0≤s*s by omega)
   have g2:=Int.mul_le_mul_of_nonneg_left (show -(2*(c*t - 100*(n*u)))≤t by omega) (show 0≤s*s by omega)
   rw [e,← Int.mul_neg]
   exact ⟨g1,g2⟩
  have h2:Y=100*(s*s*t):=by rw [eY];grind
  generalize s*s*t=T at *
  omega
 have hdec:decide (cmpI ((X.natAbs:Int)*200) (1*Y)≤0)=true:=decide_eq_true hcmp
 obtain ⟨-,e0⟩:=mkQ_ok (x:=p*t + -(u*s)) (y:=s*t) hb bX (bs.mul bt)
 have he:((mkQ (p*t + -(u*s)) (s*t)).2 != 0)=false:=by rw [e0];rfl
 refine .inr ⟨_,_,_,O1 _ v 19 rfl hv,⟨rfl,trivial⟩,rfl,_,fill_div _ rfl,AC.fits _,?_⟩
 refine .inr ⟨_,_,_,O2 _ v 19 rfl hv,⟨rfl,trivial⟩,rfl,RQ.A_fits _,.inr ⟨_,_,_,O4 _ v 19 rfl hv,⟨rfl,trivial⟩,rfl,?_⟩⟩
 refine .inl ⟨_,A1,EF.fits _,.inl ⟨_,J1,RQ.A_fits _,?_⟩⟩
 have hnn:(n != n)=false:=by simp
 refine ⟨fun _=>⟨fun _=>⟨_,rfl,fun _=>⟨_,rfl,?_⟩,fun h=>absurd (hnn.symm.trans h) (by decide)⟩,fun h=>absurd (he.symm.trans h) (by decide)⟩,nofun⟩
 have hS:(!((S [65,67,77,69]).toList == (ByteArray.mk #[65,67,77,69]).toList))=false:=by kernel_rfl
 refine ⟨fun h=>absurd (hS.symm.trans h) (by decide),fun _=>?_⟩
 refine .inl ⟨_,W1,.inl ⟨_,M1,RQ.A_fits _,by kernel_rfl,?_⟩⟩
 refine .inl ⟨_,W1,.inl ⟨_,M2,RQ.A_fits _,by kernel_rfl,?_⟩⟩
 refine ⟨_,rfl,.inl ⟨_,F1,.inl ⟨_,P1,RQ.A_fits _,by kernel_rfl,?_⟩⟩⟩
 refine .inl ⟨_,S1,RQ.A_fits _,.inl ⟨_,B1,RQ.A_fits _,.inl ⟨_,known_f,?_⟩⟩⟩
 refine ⟨fun _=>.inl ⟨_,F2,.inl ⟨_,C1,?_⟩⟩,nofun⟩
 exact ⟨by kernel_rfl,bv hdec,trivial⟩
def mergA (n d:Int) (r:RQ):AC:=⟨3,[115],[65,67,77,69],[78,69,87,67,79],5,n,d,r,[85,83,68],1,false⟩
theorem merg_ok {n d:Int} {r:RQ} (hn:facOk n=true) (hd:facOk d=true) (hr:payOk r=true):actOk (mergA n d r)=true:=by
 have:actOk (mergA n d r)=(payOk r && (facOk n && facOk d)):=by
  unfold actOk validA hdrOk bodyOk kindOk
  simp only [mergA]
  cases payOk r<;>cases facOk n<;>cases facOk d<;>kernel_rfl
 rw [this,hn,hd,hr];rfl
theorem exa_mk {i j:Nat} {a b:Int} (hb:0 < b) (hb6:b ∣ 1000000) (h1:Bd i a) (h2:Bd j b) (hi:i < 480:=by decide) (hj:j < 480:=by decide):exaQ (mkQ a b).1 6=(true,0):=by
 obtain ⟨r,e1,e2,e3,e4,e5⟩:=mkQ_v hb h1 h2 hi hj
 obtain ⟨-,-,q1,hg,-⟩:=RQ.ok_bits e2
 have hqd:r.q ∣ b:=by
  have a1:r.q ∣ r.p*b:=⟨a,by rw [e3,Int.mul_comm]⟩
  have a2:r.q.natAbs ∣ r.p.natAbs*b.natAbs:=by rw [← Int.natAbs_mul];exact Int.natAbs_dvd_natAbs.2 a1
  have a3:Nat.Coprime r.q.natAbs r.p.natAbs:=by rw [Nat.Coprime,Nat.gcd_comm];exact hg
  exact Int.natAbs_dvd_natAbs.1 (Nat.Coprime.dvd_of_dvd_mul_left a3 a2)
 have hq6:r.q ∣ r.p*1000000:=Int.dvd_trans (Int.dvd_trans hqd hb6) (Int.dvd_mul_left _ _)
 rw [e1,exaQ]
 simp only [e2]
 rw [if_neg (by simp),if_neg (by decide),show ((tp (6:Int).toNat:Nat):Int)=1000000 from rfl,decide_eq_true (Int.emod_eq_zero_of_dvd hq6)]
theorem rq_beq {r s:RQ} (h:r=s):r.beq s=true:=by rw [h];exact RQ.beq_self s
theorem quart_val {A:AC} (hA:actOk A=true) {num den o n:Int} (hk:A.kind=1∨A.kind=3) (hnum:A.num=num) (hden:A.den=den) (hc:A.cash=(mkQ (o*den) 4).1) (h1:1≤num) (h2:num≤12) (h3:1≤den) (h4:den≤10) (o1:1≤o) (o2:o≤4000) (n1:0≤n) (n2:n≤5000) :
    ∃ c,applyA A n=(⟨intoA A,n*num / den,c⟩,0)∧-4≤2*(4*c - 100*(n*num % den*o))∧2*(4*c - 100*(n*num % den*o))≤4∧0≤c∧c≤10000000:=by
 have hm:=Int.emod_nonneg (n*num) (show den≠0 by omega)
 have hm2:=Int.emod_lt_of_pos (n*num) (show 0 < den by omega)
 have hk2:¬ A.kind=2:=by rcases hk with h | h<;>rw [h]<;>decide
 have hpq:pieQ A n=n*num / den:=by unfold pieQ;rw [if_neg hk2,hnum,hden]
 have hpa:paidQ A n=(mkQ (n*num % den) den).1:=by unfold paidQ;rw [if_neg hk2,hnum,hden]
 have b1:0≤n*num∧n*num≤5000*12:=⟨Int.mul_nonneg n1 (by omega),Int.mul_le_mul n2 h2 (by omega) (by omega)⟩
 have b2:0≤n*num / den∧n*num / den≤n*num:=⟨Int.ediv_nonneg b1.1 (by omega),Int.ediv_le_self den b1.1⟩
 have b5:1*1≤o*den∧o*den≤4000*10:=⟨Int.mul_le_mul o1 h3 (by omega) (by omega),Int.mul_le_mul o2 h4 (by omega) (by omega)⟩
 have b3:0≤(n*num % den)*(o*den)∧(n*num % den)*(o*den)≤10*40000:=⟨Int.mul_nonneg hm (by omega),Int.mul_le_mul (by omega) b5.2 (by omega) (by omega)⟩
 obtain ⟨c,e,i1,i2⟩:=apply_val hA n1 (by omega) (by rw [hpq];omega) hpa (bd60 (by omega) (by omega)) (bd60 (by omega) (by omega)) (by omega) hc (bd60 (by omega) (by omega)) (bd60 (a:=4) (by omega) (by omega)) (by omega) b3.1 (by omega)
 have e2:2*(c*(den*4) - 100*(n*num % den*(o*den)))=(2*(4*c - 100*(n*num % den*o)))*den:=by grind
 rw [e2,Int.mul_comm den 4] at i1 i2
 rw [← Int.neg_mul] at i1
 have j1:=Int.le_of_mul_le_mul_right i1 (show 0 < den by omega)
 have j2:=Int.le_of_mul_le_mul_right i2 (show 0 < den by omega)
 have b6:0≤n*num % den*o∧n*num % den*o≤10*4000:=⟨Int.mul_nonneg hm (by omega),Int.mul_le_mul (by omega) o2 (by omega) (by omega)⟩
 exact ⟨c,by rw [e,hpq],j1,j2,by omega,by omega⟩
theorem set_split (n d:Int) (r s:RQ):splice (splitA n d r).A (0+7) s.A.toList=(splitA n d s).A:=AC.setcash (splitA n d r) s
theorem set_merg0 (n d:Int) (r:RQ):(splitA n d r).A.setIfInBounds (0+0) (.int .i64 3)=({ splitA n d r with kind:=3 }:AC).A:=AC.set0 _ 3
theorem set_merg3 (n d:Int) (r:RQ):({ splitA n d r with kind:=3 }:AC).A.setIfInBounds (0+3) (.string (S [78,69,87,67,79]))=(mergA n d r).A:=AC.set3 _ _
theorem actionValue_f {v:Value} {zs:List Int} (w:World) (hv:Tp (envP Tryz.prog tt Tryz.f5.ntmps w).toEnv v zs):Calls Tryz.prog 5 #[v] w fun e w'=>e=.returned (.bool true)∧Below w.heap.size w w':=by
 refine sx_at [] tt_ok mixed at5 [v] _ w rfl ?_
 have hv0:=hv
 obtain ⟨a,cap,rfl,-⟩:=hv0
 refine ⟨_,fill_tape a zs.length cap rfl,rfl,?_⟩
 generalize hvv:Value.slice a zs.length cap=v at *
 obtain ⟨r1,k1,a1,b1,⟨i1,rfl,c1⟩,O1⟩:=next_g (n:=12) (by decide) zs 0 (by omega)
 obtain ⟨r2,k2,a2,b2,⟨den,rfl,c2⟩,O2⟩:=pick_g (xs:=[1,2,4,5,8,10]) (by simp) (by simp) zs k1 (by omega)
 obtain ⟨r3,k3,a3,b3,⟨i3,rfl,c3⟩,O3⟩:=next_g (n:=4000) (by decide) zs k2 (by omega)
 obtain ⟨r4,k4,a4,b4,⟨ch,rfl⟩,O4⟩:=chance_g (a:=1) (b:=2) (by decide) zs k3 (by omega)
 obtain ⟨r5,k5,a5,b5,⟨n,rfl,c5⟩,O5⟩:=next_g (n:=5000) (by decide) zs k4 (by omega)
 have e1:IntKind.i64.wrap (1+i1)=1+i1:=i64_in (by omega)
 have e3:IntKind.i64.wrap (1+i3)=1+i3:=i64_in (by omega)
 have hd:1≤den∧den≤10:=by simp at c2;omega
 obtain ⟨num,hnum⟩:∃ num,IntKind.i64.wrap (1+i1)=num:=⟨_,rfl⟩
 obtain ⟨o,ho⟩:∃ o,IntKind.i64.wrap (1+i3)=o:=⟨_,rfl⟩
 have hn:1≤num∧num≤12:=by omega
 have hoo:1≤o∧o≤4000:=by omega
 have bn:Bd 20 n:=bd20 (by omega) (by omega)
 have b1:Bd 20 (1:Int):=bd20 (by omega) (by omega)
 have b4:Bd 20 (4:Int):=bd20 (by omega) (by omega)
 have bo:Bd 20 o:=bd20 (by omega) (by omega)
 have bnum:Bd 20 num:=bd20 (by omega) (by omega)
 have bden:Bd 20 den:=bd20 (by omega) (by omega)
 have b100:Bd 20 (100:Int):=bd20 (by omega) (by omega)
 have G1:=made_of (n:=o) (d:=4) (by omega) (by omega) (by decide) (by decide)
 have G2:=made_of (n:=num) (d:=1) (by omega) (by omega) (by decide) (by decide)
 have G3:=made_of (n:=0) (d:=1) (by decide) (by decide) (by decide) (by decide)
 have M1:=mulR_r (mkQ_in o 4) (mkQ_in num 1)
 rw [mulQ_mk (by decide) (by decide) bo b4 bnum b1] at M1
 have sp1:=split_f num den (mkQ 0 1).1
 have si1:=splitA_in (n:=num) (d:=den) (mkQ_in 0 1) (by omega) (by omega) (by omega) (by omega)
 have J1:=adjust_z si1 (mkQ_in (o*num) (4*1))
 rw [adj_split (by omega) (by omega) (by omega) (by omega) (bo.mul bnum) (by decide) (b4.mul b1) (by omega),
  mkQ_same (x':=o*den) (y':=4) (by omega) ((bo.mul bnum).mul bden) ((b4.mul b1).mul bnum) (by decide) (bo.mul bden) b4 (by grind)] at J1
 obtain ⟨-,eJ⟩:=mkQ_ok (x:=o*den) (y:=4) (by decide) (bo.mul bden) b4
 have X1:=exact_r (mkQ_in (o*den) 4) 6
 rw [exa_mk (by decide) (by decide) (bo.mul bden) b4] at X1
 have hbo:0≤o*den∧o*den≤4000*10:=⟨Int.mul_nonneg (by omega) (by omega),Int.mul_le_mul (by omega) (by omega) (by omega) (by omega)⟩
 obtain ⟨pay,-⟩:=price_val (n:=o*den) (d:=4) hbo.1 (by omega) (by decide) (by decide) (by decide)
 -- the action that is applied
 obtain ⟨A,hA⟩:∃ A,A=if ch then mergA num den (mkQ (o*den) 4).1 else splitA num den (mkQ (o*den) 4).1:=⟨_,rfl⟩
 have hAok:actOk A=true:=by
  rw [hA];cases ch
  ·exact split_ok (facOk_of (by omega) (by omega)) (facOk_of (by omega) (by omega)) pay
  ·exact merg_ok (facOk_of (by omega) (by omega)) (facOk_of (by omega) (by omega)) pay
 have hAin:A.In:=by
  rw [hA];cases ch
  ·exact splitA_in (mkQ_in _ _) (by omega) (by omega) (by omega) (by omega)
  ·exact ⟨mkQ_in _ _,by simp [mergA],by simp [mergA],by simp [mergA],by simp [mergA],by simp [mergA];omega,by simp [mergA];omega⟩
 obtain ⟨c,hap,j1,j2,c0,c9⟩:=quart_val (A:=A) hAok (num:=num) (den:=den) (o:=o) (n:=n) (by rw [hA];cases ch<;>simp [mergA,splitA]) (by rw [hA];cases ch<;>rfl) (by rw [hA];cases ch<;>rfl) (by rw [hA];cases ch<;>rfl) hn.1 hn.2 hd.1 hd.2 hoo.1 hoo.2 (by omega) (by omega)
 have A1:=apply_z hAin n
 rw [hap] at A1
 have bq0:0≤n*num∧n*num≤5000*12:=⟨Int.mul_nonneg (by omega) (by omega),Int.mul_le_mul (by omega) (by omega) (by omega) (by omega)⟩
 have bq1:0≤n*num / den∧n*num / den≤n*num:=⟨Int.ediv_nonneg bq0.1 (by omega),Int.ediv_le_self den bq0.1⟩
 have hdm:=Int.mul_ediv_add_emod (n*num) den
 obtain ⟨q,hq⟩:∃ q,n*num / den=q:=⟨_,rfl⟩
 rw [hq] at A1 bq1 hdm
 have bq:Bd 20 q:=bd20 (by omega) (by omega)
 have bc:Bd 40 c:=by unfold Bd;omega
 have W1:=whole_r (n:=n) (by omega) (by omega)
 rw [of_mk (bn.mono (by omega))] at W1
 have W2:=whole_r (n:=q) (by omega) (by omega)
 rw [of_mk (bq.mono (by omega))] at W2
 have M2:=mulR_r (mkQ_in n 1) (mkQ_in (o*num) (4*1))
 rw [mulQ_mk (by decide) (by decide) bn b1 (bo.mul bnum) (b4.mul b1)] at M2
 have M3:=mulR_r (mkQ_in q 1) (mkQ_in (o*den) 4)
 rw [mulQ_mk (by decide) (by decide) bq b1 (bo.mul bden) b4] at M3
 have F1:=made_of (n:=c) (d:=100) (by omega) (by omega) (by decide) (by decide)
 have P1:=addR_r (mkQ_in (q*(o*den)) (1*4)) (mkQ_in c 100)
 rw [sumQ_mk false (i:=60) (j:=40) (by decide) (by decide) ((bq.mul (bo.mul bden)).mono (by omega)) ((b1.mul b4).mono (by omega)) (bc.mono (by omega)) (b100.mono (by omega))] at P1
 have bA:Bd 101 (q*(o*den)*100+sg false (c*(1*4))):=(((bq.mul (bo.mul bden)).mul b100).mono (by omega)).add ((bc.mul (b1.mul b4)).mono (by omega):Bd 100 _)
 have S1:=subR_r (mkQ_in (n*(o*num)) (1*(4*1))) (mkQ_in (q*(o*den)*100+sg false (c*(1*4))) (1*4*100))
 rw [sumQ_mk true (i:=101) (j:=100) (by decide) (by decide) ((bn.mul (bo.mul bnum)).mono (by omega)) ((b1.mul (b4.mul b1)).mono (by omega)) bA (((b1.mul b4).mul b100).mono (by omega))] at S1
 obtain ⟨X,hX⟩:∃ X,n*(o*num)*(1*4*100)+sg true ((q*(o*den)*100+sg false (c*(1*4)))*(1*(4*1)))=X:=⟨_,rfl⟩
 have eX:X=4*(100*(n*num % den*o) - 4*c):=by
  have:n*num % den=n*num - den*q:=by omega
  rw [this,← hX];simp only [sg,if_true,Bool.false_eq_true,if_false];grind
 rw [hX] at S1
 have bXX:Bd 60 X:=bd60 (by omega) (by omega)
 have bYY:Bd 60 (1*(4*1)*(1*4*100):Int):=bd60 (by omega) (by omega)
 have B1:=absR_r (mkQ_in X (1*(4*1)*(1*4*100)))
 rw [absQ_mk (by decide) bXX bYY] at B1
 have F2:=made_of (n:=1) (d:=200) (by decide) (by decide) (by decide) (by decide)
 have b200:Bd 60 (200:Int):=bd60 (by omega) (by omega)
 have ok1:=(mkQ_ok (by decide) bXX.abs bYY).1
 have ok2:=(mkQ_ok (x:=1) (y:=200) (by decide) b1 b200).1
 have sl:=sum_lt ok1 ok2 true
 have C1:=compareR_r (mkQ_in (X.natAbs:Int) (1*(4*1)*(1*4*100))) (mkQ_in 1 200) sl.1 sl.2.1
 rw [cmp_mk (by decide) (by decide) bXX.abs bYY b1 b200] at C1
 have hcmp:cmpI ((X.natAbs:Int)*200) (1*(1*(4*1)*(1*4*100)))≤0:=cmp_le (by omega)
 have hdec:decide (cmpI ((X.natAbs:Int)*200) (1*(1*(4*1)*(1*4*100)))≤0)=true:=decide_eq_true hcmp
 have he:((mkQ (o*den) 4).2 != 0)=false:=by rw [eJ];rfl
 have hz:n*num % den=0→c=0∧(mkQ (X.natAbs:Int) (1*(4*1)*(1*4*100))).1=RQ.of 0 1:=fun h=>by
  have hc0:c=0:=by rw [h] at j1 j2;omega
  have hX0:X=0:=by rw [eX,h,hc0];omega
  refine ⟨hc0,?_⟩
  rw [hX0]
  kernel_rfl
 have ew:(IntKind.i64.wrap (n*num)).tmod den=n*num % den:=by
  rw [i64_in (by omega),Int.tmod_eq_emod_of_nonneg bq0.1]
 subst hnum;subst ho
 refine .inr ⟨_,_,_,O1 _ v 25 rfl hv,⟨rfl,trivial⟩,rfl,by decide,by decide,ints [1,2,4,5,8,10],by kernel_rfl,rfl,.inr ⟨_,_,_,O2 _ v 25 30 (by decide) rfl hv,⟨rfl,rfl,trivial⟩,rfl,?_⟩⟩
 refine .inr ⟨_,_,_,O3 _ v 25 rfl hv,⟨rfl,trivial⟩,rfl,.inl ⟨_,G1,RQ.A_fits _,?_⟩⟩
 refine .inl ⟨_,G2,.inl ⟨_,M1,RQ.A_fits _,by kernel_rfl,?_⟩⟩
 refine .inl ⟨_,G3,.inl ⟨_,sp1,AC.fits _,.inl ⟨_,J1,RQ.A_fits _,?_⟩⟩⟩
 refine ⟨fun h=>absurd (he.symm.trans h) (by decide),fun _=>?_⟩
 refine .inl ⟨_,X1,⟨fun h=>absurd h (by decide),fun _=>?_⟩⟩
 refine ⟨by decide,RQ.A_fits _,_,set_split _ _ _ _,?_⟩
 refine .inr ⟨_,_,_,O4 _ v 25 rfl hv,⟨rfl,trivial⟩,rfl,fun h=>?_,fun h=>?_⟩
 ·subst h
  have hA:A=mergA (IntKind.i64.wrap (1+i1)) den (mkQ (IntKind.i64.wrap (1+i3)*den) 4).1:=hA
  refine ⟨by decide,rfl,_,set_merg0 _ _ _,by decide,rfl,_,set_merg3 _ _ _,?_⟩
  refine .inr ⟨_,_,_,O5 _ v 25 rfl hv,⟨rfl,trivial⟩,rfl,?_⟩
  subst hA
  refine .inl ⟨_,A1,EF.fits _,?_⟩
  refine ⟨fun h=>absurd (show ((0:Int) != 0)=true from h) (by decide),fun _=>?_⟩
  refine .inl ⟨_,W1,.inl ⟨_,M2,RQ.A_fits _,by kernel_rfl,?_⟩⟩
  refine ⟨_,rfl,.inl ⟨_,W2,.inl ⟨_,M3,RQ.A_fits _,by kernel_rfl,?_⟩⟩⟩
  refine ⟨_,rfl,.inl ⟨_,F1,.inl ⟨_,P1,RQ.A_fits _,by kernel_rfl,?_⟩⟩⟩
  refine .inl ⟨_,S1,RQ.A_fits _,.inl ⟨_,B1,RQ.A_fits _,.inl ⟨_,known_f,?_⟩⟩⟩
  refine ⟨fun _=>.inl ⟨_,F2,.inl ⟨_,C1,?_⟩⟩,fun h=>absurd h (by decide)⟩
  refine ⟨fun _=>⟨(by omega:den≠0),fun h=>.inl ⟨_,zeroR_r,_,eql_ratio rfl (mkQ_in _ _) one_in0,fun _=>⟨_,rfl,?_⟩,fun h2=>?_⟩,fun h=>?_⟩,fun h=>absurd (hdec.symm.trans h) (by decide)⟩
  ·have h:((IntKind.i64.wrap (n*IntKind.i64.wrap (1+i1))).tmod den != 0)=false:=h
   have hm:n*IntKind.i64.wrap (1+i1) % den=0:=by rw [← ew];simpa using h
   obtain ⟨hc0,-⟩:=hz hm
   refine ⟨by kernel_rfl,bv ?_,trivial⟩
   show (c == 0)=true
   rw [hc0];rfl
  ·have h:((IntKind.i64.wrap (n*IntKind.i64.wrap (1+i1))).tmod den != 0)=false:=h
   have hm:n*IntKind.i64.wrap (1+i1) % den=0:=by rw [← ew];simpa using h
   obtain ⟨-,hq0⟩:=hz hm
   exact absurd ((rq_beq hq0).symm.trans h2) (by decide)
  ·exact ⟨by kernel_rfl,bv rfl,trivial⟩
 ·subst h
  have hA:A=splitA (IntKind.i64.wrap (1+i1)) den (mkQ (IntKind.i64.wrap (1+i3)*den) 4).1:=hA
  refine .inr ⟨_,_,_,O5 _ v 25 rfl hv,⟨rfl,trivial⟩,rfl,?_⟩
  subst hA
  refine .inl ⟨_,A1,EF.fits _,?_⟩
  refine ⟨fun h=>absurd (show ((0:Int) != 0)=true from h) (by decide),fun _=>?_⟩
  refine .inl ⟨_,W1,.inl ⟨_,M2,RQ.A_fits _,by kernel_rfl,?_⟩⟩
  refine ⟨_,rfl,.inl ⟨_,W2,.inl ⟨_,M3,RQ.A_fits _,by kernel_rfl,?_⟩⟩⟩
  refine ⟨_,rfl,.inl ⟨_,F1,.inl ⟨_,P1,RQ.A_fits _,by kernel_rfl,?_⟩⟩⟩
  refine .inl ⟨_,S1,RQ.A_fits _,.inl ⟨_,B1,RQ.A_fits _,.inl ⟨_,known_f,?_⟩⟩⟩
  refine ⟨fun _=>.inl ⟨_,F2,.inl ⟨_,C1,?_⟩⟩,fun h=>absurd h (by decide)⟩
  refine ⟨fun _=>⟨(by omega:den≠0),fun h=>.inl ⟨_,zeroR_r,_,eql_ratio rfl (mkQ_in _ _) one_in0,fun _=>⟨_,rfl,?_⟩,fun h2=>?_⟩,fun h=>?_⟩,fun h=>absurd (hdec.symm.trans h) (by decide)⟩
  ·have h:((IntKind.i64.wrap (n*IntKind.i64.wrap (1+i1))).tmod den != 0)=false:=h
   have hm:n*IntKind.i64.wrap (1+i1) % den=0:=by rw [← ew];simpa using h
   obtain ⟨hc0,-⟩:=hz hm
   refine ⟨by kernel_rfl,bv ?_,trivial⟩
   show (c == 0)=true
   rw [hc0];rfl
  ·have h:((IntKind.i64.wrap (n*IntKind.i64.wrap (1+i1))).tmod den != 0)=false:=h
   have hm:n*IntKind.i64.wrap (1+i1) % den=0:=by rw [← ew];simpa using h
   obtain ⟨-,hq0⟩:=hz hm
   exact absurd ((rq_beq hq0).symm.trans h2) (by decide)
  ·exact ⟨by kernel_rfl,bv rfl,trivial⟩
end Go.Proofs.YtnfmpddhcjkjbaaGreatDoor
