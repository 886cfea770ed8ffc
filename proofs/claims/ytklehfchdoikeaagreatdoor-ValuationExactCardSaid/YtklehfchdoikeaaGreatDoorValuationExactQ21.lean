/- walks: days and actions that are made. walks: a number that ; no condition. -/
import Derived.Lib.MinMax
import Derived.Test.YtklehfchdoikeaaGreatDoorValuationExactQ20
set_option maxRecDepth 100000
set_option maxHeartbeats 4000000
namespace Go.Proofs.YtklehfchdoikeaaGreatDoor
open Go Go.RowKit Go.SX
theorem AC.set3 (a:AC) (l:List UInt8):a.A.setIfInBounds (0+3) (.string (S l))=({ a with into:=l }:AC).A:=by kernel_rfl
theorem AC.set0 (a:AC) (n:Int):a.A.setIfInBounds (0+0) (.int .i64 n)=({ a with kind:=n }:AC).A:=by kernel_rfl
end Go.Proofs.YtklehfchdoikeaaGreatDoor
namespace Go.Proofs.YtklehfchdoikeaaGreatDoor
open Go Go.RowKit Go.SX
end Go.Proofs.YtklehfchdoikeaaGreatDoor
namespace Go.Proofs.YtklehfchdoikeaaGreatDoor
open Go Go.RowKit Go.SX
end Go.Proofs.YtklehfchdoikeaaGreatDoor
namespace Go.Proofs.YtklehfchdoikeaaGreatDoor
open Go Go.RowKit Go.SX
end Go.Proofs.YtklehfchdoikeaaGreatDoor
namespace Go.Proofs.YtklehfchdoikeaaGreatDoor
open Go Go.RowKit Go.SX
open ChangeShapes
theorem add_flat (b o n:Nat):(⟨b,o,none⟩:Addr).add n=⟨b,o+n,none⟩:=by simp [Addr.add]
end Go.Proofs.YtklehfchdoikeaaGreatDoor
namespace Go.Proofs.YtklehfchdoikeaaGreatDoor
open Go Go.RowKit Go.SX
theorem pv {x y:Int} (hy:0 < y) (hx:x.natAbs < 2 ^ d7) (hy2:y.natAbs < 2 ^ d7):∃ r:RQ,mkQ x y=(r,0)/\r.ok=true/\r.p*y=x*r.q/\r.p.natAbs<=x.natAbs/\r.q<=y:=by
 have hg:0 < Int.gcd x y:=Int.gcd_pos_of_ne_zero_right x (by omega)
 have hs:sgn y=1:=by unfold sgn;rw [if_neg (by omega),if_neg (by omega)]
 obtain ⟨p,hp⟩:((Int.gcd x y:Nat):Int) ∣ x:=Int.gcd_dvd_left x y
 obtain ⟨q,hq⟩:((Int.gcd x y:Nat):Int) ∣ y:=Int.gcd_dvd_right x y
 have hg0:((Int.gcd x y:Nat):Int)≠0:=by omega
 have ex:x / ((Int.gcd x y:Nat):Int)=p:=by conv=>lhs;lhs;rw [hp]
                                           exact Int.mul_ediv_cancel_left p hg0
 have ey:y / ((Int.gcd x y:Nat):Int)=q:=by conv=>lhs;lhs;rw [hq]
                                           exact Int.mul_ediv_cancel_left q hg0
 have hgcd:Int.gcd p q=1:=by
  have h1:Int.gcd x y=Int.gcd (((Int.gcd x y:Nat):Int)*p) (((Int.gcd x y:Nat):Int)*q):=by rw [<- hp,<- hq]
  rw [Int.gcd_mul_left,Int.natAbs_natCast] at h1
  exact Nat.eq_of_mul_eq_mul_left hg (by rw [<- h1,Nat.mul_one])
 have hg1:0 < ((Int.gcd x y:Nat):Int):=by omega
 have hmk:mkQ x y=if bl p.natAbs<=480/\bl q.natAbs<=480 then (.of p q,0) else (.of 0 0,10):=by
  unfold mkQ
  rw [if_neg (by omega),hs,Int.one_mul,ex,ey]
 generalize ((Int.gcd x y:Nat):Int)=g at *
 have hq0:0 < q:=by
  rcases Int.lt_trichotomy q 0 with h | h | h
  ·have:=Int.mul_neg_of_pos_of_neg hg1 h;omega
  ·subst h;simp at hq;omega
  ·exact h
 have hpx:p.natAbs<=x.natAbs:=by
  rw [hp,Int.natAbs_mul];exact Nat.le_mul_of_pos_left _ (by omega)
 have hqy:q.natAbs<=y.natAbs:=by
  rw [hq,Int.natAbs_mul];exact Nat.le_mul_of_pos_left _ (by omega)
 have b1:bl p.natAbs<=480:=jn (k:=d7) (Nat.lt_of_le_of_lt hpx hx)
 have b2:bl q.natAbs<=480:=jn (k:=d7) (Nat.lt_of_le_of_lt hqy hy2)
 refine ⟨.of p q,by rw [hmk,if_pos ⟨b1,b2⟩],?_,?_,?_,?_⟩
 ·unfold RQ.ok RQ.of
  refine decide_eq_true ⟨b1,b2,fun h=>?_,?_,by show 0 < q.natAbs;omega,hgcd⟩
  ·have h:=af h
   show p.natAbs≠0
   omega
  ·show decide (q < 0)=false
   exact decide_eq_false (by omega)
 ·rw [RQ.of_p,RQ.of_q]
  conv=>lhs;rw [hq]
  conv=>rhs;rw [hp]
  rw [Int.mul_comm p,Int.mul_assoc,Int.mul_assoc,Int.mul_comm q p]
 ·rw [RQ.of_p];exact hpx
 ·rw [RQ.of_q];omega
theorem Ed {r s:RQ} (hr:r.ok=true) (hs:s.ok=true) {P Q P' Q':Nat} (h1:r.p.natAbs<=P) (h2:r.q.natAbs<=Q) (h3:s.p.natAbs<=P') (h4:s.q.natAbs<=Q') (h5:P*P' < 2 ^ d7) (h6:Q*Q' < 2 ^ d7):∃ t:RQ,bI r s=(t,0)/\t.ok=true/\t.p*(r.q*s.q)=r.p*s.p*t.q/\t.p.natAbs<=P*P'/\t.q.natAbs<=Q*Q':=by
 obtain ⟨-,-,q1,-,-⟩:=RQ.ok_bits hr
 obtain ⟨-,-,q2,-,-⟩:=RQ.ok_bits hs
 have e1:(r.p*s.p).natAbs<=P*P':=by rw [Int.natAbs_mul];exact Nat.mul_le_mul h1 h3
 have e2:(r.q*s.q).natAbs<=Q*Q':=by rw [Int.natAbs_mul];exact Nat.mul_le_mul h2 h4
 have hpos:0 < r.q*s.q:=Int.mul_pos q1 q2
 obtain ⟨t,m1,m2,m3,m4,m5⟩:=pv (x:=r.p*s.p) (y:=r.q*s.q) hpos (Nat.lt_of_le_of_lt e1 h5) (Nat.lt_of_le_of_lt e2 h6)
 obtain ⟨-,-,q3,-,-⟩:=RQ.ok_bits m2
 refine ⟨t,by rw [bI,hr,hs];exact m1,m2,m3,Nat.le_trans m4 e1,?_⟩
 refine Nat.le_trans ?_ e2
 generalize r.q*s.q=z at *
 omega
theorem Dp (m:Bool) {r s:RQ} (hr:r.ok=true) (hs:s.ok=true) {P Q P' Q':Nat} (h1:r.p.natAbs<=P) (h2:r.q.natAbs<=Q) (h3:s.p.natAbs<=P') (h4:s.q.natAbs<=Q') (h5:P*Q'+P'*Q < 2 ^ d7) (h6:Q*Q' < 2 ^ d7):∃ t:RQ,gB m r s=(t,0)/\t.ok=true/\t.p*(r.q*s.q)=(r.p*s.q+sg m (s.p*r.q))*t.q/\t.p.natAbs<=P*Q'+P'*Q/\t.q.natAbs<=Q*Q':=by
 obtain ⟨-,-,q1,-,-⟩:=RQ.ok_bits hr
 obtain ⟨-,-,q2,-,-⟩:=RQ.ok_bits hs
 have e0:(sg m (s.p*r.q)).natAbs=(s.p*r.q).natAbs:=by cases m<;>simp [sg]
 have e1:(r.p*s.q+sg m (s.p*r.q)).natAbs<=P*Q'+P'*Q:=by
  have a1:(r.p*s.q).natAbs<=P*Q':=by rw [Int.natAbs_mul];exact Nat.mul_le_mul h1 h4
  have a2:(s.p*r.q).natAbs<=P'*Q:=by rw [Int.natAbs_mul];exact Nat.mul_le_mul h3 h2
  have:=Int.natAbs_add_le (r.p*s.q) (sg m (s.p*r.q))
  omega
 have e2:(r.q*s.q).natAbs<=Q*Q':=by rw [Int.natAbs_mul];exact Nat.mul_le_mul h2 h4
 have hpos:0 < r.q*s.q:=Int.mul_pos q1 q2
 obtain ⟨t,m1,m2,m3,m4,m5⟩:=pv (x:=r.p*s.q+sg m (s.p*r.q)) (y:=r.q*s.q) hpos (Nat.lt_of_le_of_lt e1 h5) (Nat.lt_of_le_of_lt e2 h6)
 obtain ⟨-,-,q3,-,-⟩:=RQ.ok_bits m2
 refine ⟨t,by rw [gB,hr,hs];exact m1,m2,m3,Nat.le_trans m4 e1,?_⟩
 refine Nat.le_trans ?_ e2
 generalize r.q*s.q=z at *
 omega
theorem Mc {r s:RQ} (hr:r.ok=true) (hs:s.ok=true) (h:r.p*s.q=s.p*r.q):r=s:=by
 obtain ⟨-,-,q1,g1,-⟩:=RQ.ok_bits hr
 obtain ⟨-,-,q2,g2,-⟩:=RQ.ok_bits hs
 have hh:r.N*s.D=s.N*r.D:=by
  have:=congrArg Int.natAbs h
  rw [Int.natAbs_mul,Int.natAbs_mul] at this
  simpa [RQ.p,RQ.q,bD] using this
 have hg1:Nat.gcd r.N r.D=1:=by rw [<- l8 r.a r.N r.b r.D];exact g1
 have hg2:Nat.gcd s.N s.D=1:=by rw [<- l8 s.a s.N s.b s.D];exact g2
 have d1:r.D ∣ s.D:=by
  have:r.D ∣ r.N*s.D:=⟨s.N,by rw [hh,Nat.mul_comm]⟩
  exact (Nat.Coprime.symm hg1).dvd_of_dvd_mul_left this
 have d2:s.D ∣ r.D:=by
  have:s.D ∣ s.N*r.D:=⟨r.N,by rw [<- hh,Nat.mul_comm]⟩
  exact (Nat.Coprime.symm hg2).dvd_of_dvd_mul_left this
 have hD:r.D=s.D:=Nat.dvd_antisymm d1 d2
 have hk1:_:=af hr
 have hk2:_:=af hs
 have hb:r.b=s.b:=by rw [hk1.2.2.2.1,hk2.2.2.2.1]
 have hN:r.N=s.N:=by
  rw [hD] at hh
  exact Nat.eq_of_mul_eq_mul_right hk2.2.2.2.2.1 hh
 have hq:r.q=s.q:=by rw [RQ.q,RQ.q,hb,hD]
 have hp:r.p=s.p:=by
  rw [hq] at h
  exact Int.eq_of_mul_eq_mul_right (by omega) h
 have ha:r.a=s.a:=by
  rw [RQ.p,RQ.p,hN] at hp
  cases h1:r.a<;>cases h2:s.a
  ·rfl
  ·have:=hk2.2.2.1 h2
   rw [h1,h2] at hp;simp [zN] at hp;omega
  ·have:=hk1.2.2.1 h1
   rw [h1,h2] at hp;simp [zN] at hp;omega
  ·rfl
 obtain ⟨a,N,b,D⟩:=r
 obtain ⟨a',N',b',D'⟩:=s
 simp only at ha hN hb hD
 subst ha;subst hN;subst hb;subst hD
 rfl
def Bd (k:Nat) (a:Int):Prop:=a.natAbs<=2 ^ k
theorem Bd.mul {i j:Nat} {a b:Int} (h1:Bd i a) (h2:Bd j b):Bd (i+j) (a*b):=by
 unfold Bd at *
 rw [Int.natAbs_mul,Nat.pow_add]
 exact Nat.mul_le_mul h1 h2
theorem Bd.mono {i j:Nat} {a:Int} (h1:Bd i a) (h:i<=j):Bd j a:=Nat.le_trans h1 (Nat.pow_le_pow_right (by omega) h)
theorem Bd.add {k:Nat} {a b:Int} (h1:Bd k a) (h2:Bd k b):Bd (k+1) (a+b):=by
 unfold Bd at *
 have:=Int.natAbs_add_le a b
 rw [Nat.pow_succ];omega
theorem Bd.lt {k:Nat} {a:Int} (h1:Bd k a) (h:k < 480):a.natAbs < 2 ^ d7:=Nat.lt_of_le_of_lt h1 (Nat.pow_lt_pow_right (by omega) h)
theorem IS {k l:Nat} {x y:Int} (hy:0 < y) (hx:Bd k x) (hy2:Bd l y) (hk:k < 480:=by decide) (hl:l < 480:=by decide):∃ r:RQ,mkQ x y=(r,0)/\r.ok=true/\r.p*y=x*r.q/\r.p.natAbs<=x.natAbs/\r.q<=y :=
 pv hy (hx.lt hk) (hy2.lt hl)
theorem Mk {n:Int} (hn:Bd 60 n):RQ.of n 1=(mkQ n 1).1:=by
 obtain ⟨r,e1,e2,e3,e4,e5⟩:=IS (y:=1) (by decide) hn (show Bd 1 1 from by unfold Bd;decide)
 rw [e1]
 obtain ⟨-,-,q1,-,-⟩:=RQ.ok_bits e2
 refine Mc ?_ e2 ?_
 ·refine decide_eq_true ⟨jn (k:=d7) (hn.lt (by decide)),(show bl (1:Nat)<=480 by decide),?_,rfl,(show 0 < (1:Nat) by decide),?_⟩
  ·show decide (n < 0)=true->_
   intro h;have:=af h;show n.natAbs≠0;omega
  ·show Nat.gcd n.natAbs 1=1
   exact Nat.gcd_one_right _
 ·rw [RQ.of_p,RQ.of_q]
  show n*r.q=r.p*1
  omega
end Go.Proofs.YtklehfchdoikeaaGreatDoor
