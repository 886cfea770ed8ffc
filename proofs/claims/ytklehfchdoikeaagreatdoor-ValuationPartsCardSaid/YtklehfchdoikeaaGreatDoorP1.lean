/- Plain: numbers by limbs. Plain: long division by limbs. Plai; no condition. -/
import Derived.Test.YtklehfchdoikeaaGreatDoorProg
set_option maxRecDepth 100000
set_option maxHeartbeats 4000000
namespace Go.Proofs.YtklehfchdoikeaaGreatDoor

def BB:Nat:=4294967296
theorem aR:BB=4294967296:=rfl
theorem bI:0 < BB:=by decide
theorem NZ:1 < BB:=by decide
theorem bi (i:Nat):0 < BB ^ i:=Nat.pow_pos bI

def dg (N i:Nat):Nat:=N / BB ^ i % BB
def nv (f:Nat->Nat):Nat->Nat
 | 0=>0
 | k+1=>nv f k+f k*BB ^ k

theorem aL (N i:Nat):dg N i < BB:=Nat.mod_lt _ bI
theorem dh {f g:Nat->Nat}:∀ {k:Nat},(∀ i,i < k->f i=g i)->nv f k=nv g k
 | 0,_=>rfl
 | k+1,h=>by simp only [nv,dh (k:=k) fun i hi=>h i (by omega),h k (by omega)]
theorem mp {f:Nat->Nat}:∀ {k:Nat},(∀ i,i < k->f i < BB)->nv f k < BB ^ k
 | 0,_=>by simp [nv]
 | k+1,h=>by
  have ih:=mp (k:=k) fun i hi=>h i (by omega)
  have hk:=h k (by omega)
  have:(f k+1)*BB ^ k<=BB*BB ^ k:=Nat.mul_le_mul_right _ (by omega)
  simp only [nv,Nat.pow_succ]
  rw [Nat.add_mul,Nat.one_mul] at this
  rw [Nat.mul_comm (BB ^ k) BB]
  omega
theorem uE (N:Nat):∀ k,nv (dg N) k=N % BB ^ k
 | 0=>by simp [nv,Nat.mod_one]
 | k+1=>by rw [Nat.mod_pow_succ,<- uE N k];simp only [nv,dg];rw [Nat.mul_comm]
theorem jA (f:Nat->Nat) (k:Nat):∀ m,nv f (k+m)=nv f k+BB ^ k*nv (fun i=>f (k+i)) m
 | 0=>by simp [nv]
 | m+1=>by
  rw [<- Nat.add_assoc]
  simp only [nv]
  rw [jA f k m,Nat.mul_add,Nat.pow_add,Nat.add_assoc]
  congr 2
  exact Nat.mul_left_comm _ _ _
theorem tB {f:Nat->Nat} {n i:Nat} (h:∀ j,j < n->f j < BB) (hi:i < n):dg (nv f n) i=f i:=by
 have e:n=i+(1+(n - i - 1)):=by omega
 have h1:nv f n=nv f i+BB ^ i*(f i+BB*nv (fun j=>f (i+(1+j))) (n - i - 1)):=by
  conv=>lhs;rw [e]
  rw [jA,jA]
  simp [nv]
 unfold dg
 rw [h1,Nat.add_mul_div_left _ _ (bi i),Nat.div_eq_of_lt (mp fun j hj=>h j (by omega)),Nat.zero_add,Nat.add_mul_mod_self_left,Nat.mod_eq_of_lt (h i hi)]
theorem bD {N n:Nat} (h:N < BB ^ n):nv (dg N) n=N:=by rw [uE,Nat.mod_eq_of_lt h]
theorem If {A C n:Nat} (ha:A < BB ^ n) (hc:C < BB ^ n) (h:∀ i,i < n->dg A i=dg C i):A=C:=by
 rw [<- bD ha,<- bD hc];exact dh h
theorem rK {f:Nat->Nat}:∀ {k:Nat},(∀ i,i < k->f i=0)->nv f k=0
 | 0,_=>rfl
 | k+1,h=>by simp only [nv,rK (k:=k) fun i hi=>h i (by omega),h k (by omega),Nat.zero_mul]
theorem wF (i:Nat):dg 0 i=0:=by simp [dg]
theorem fN (N i:Nat):N / BB ^ i=BB*(N / BB ^ (i+1))+dg N i:=by
 unfold dg
 rw [Nat.pow_succ,<- Nat.div_div_eq_div_mul]
 exact (Nat.div_add_mod _ _).symm
theorem ce {N i n:Nat} (h:N < BB ^ n) (hn:n<=i):dg N i=0:=by
 unfold dg
 rw [Nat.div_eq_of_lt (Nat.lt_of_lt_of_le h (Nat.pow_le_pow_right bI hn))];rfl

theorem y7 {A C i:Nat} (h:A / BB ^ (i+1)=C / BB ^ (i+1)) (e:dg A i=dg C i):A / BB ^ i=C / BB ^ i:=by
 rw [fN A i,fN C i,h,e]
theorem wH {A C i:Nat} (h:A / BB ^ (i+1)=C / BB ^ (i+1)) (e:dg A i < dg C i):A < C:=by
 have h1:A / BB ^ i < C / BB ^ i:=by rw [fN A i,fN C i,h];omega
 refine Nat.lt_of_not_le fun hle=>?_
 have:=Nat.div_le_div_right (c:=BB ^ i) hle
 omega

theorem tM {f a b:Nat->Nat} {i k k':Nat} (h:nv f i+k*BB ^ i=nv a i+nv b i) (e:f i+k'*BB=a i+b i+k) :
    nv f (i+1)+k'*BB ^ (i+1)=nv a (i+1)+nv b (i+1):=by
 have e2:f i*BB ^ i+k'*BB ^ (i+1)=a i*BB ^ i+b i*BB ^ i+k*BB ^ i:=by
  have:=congrArg (· * BB ^ i) e
  simp only [Nat.add_mul] at this
  rw [Nat.pow_succ,Nat.mul_comm (BB ^ i) BB,<- Nat.mul_assoc]
  exact this
 simp only [nv]
 omega
theorem xf {f a b:Nat->Nat} {i k k':Nat} (h:nv f i+nv b i=nv a i+k*BB ^ i) (e:f i+b i+k=a i+k'*BB) :
    nv f (i+1)+nv b (i+1)=nv a (i+1)+k'*BB ^ (i+1):=by
 have e2:f i*BB ^ i+b i*BB ^ i+k*BB ^ i=a i*BB ^ i+k'*BB ^ (i+1):=by
  have:=congrArg (· * BB ^ i) e
  simp only [Nat.add_mul] at this
  rw [Nat.pow_succ,Nat.mul_comm (BB ^ i) BB,<- Nat.mul_assoc]
  exact this
 simp only [nv]
 omega
theorem GJ {f c b:Nat->Nat} {x i k k':Nat} (h:nv f i+k*BB ^ i=nv c i+x*nv b i) (e:f i+k'*BB=x*b i+c i+k) :
    nv f (i+1)+k'*BB ^ (i+1)=nv c (i+1)+x*nv b (i+1):=by
 have e2:f i*BB ^ i+k'*BB ^ (i+1)=x*(b i*BB ^ i)+c i*BB ^ i+k*BB ^ i:=by
  have:=congrArg (· * BB ^ i) e
  simp only [Nat.add_mul] at this
  rw [Nat.pow_succ,Nat.mul_comm (BB ^ i) BB,<- Nat.mul_assoc,<- Nat.mul_assoc]
  exact this
 simp only [nv,Nat.mul_add]
 omega

def IsUsed (N n:Nat):Prop:=N < BB ^ n/\(0 < n->BB ^ (n - 1)<=N)
theorem IsUsed.unique {N n m:Nat} (h:IsUsed N n) (k:IsUsed N m):n=m:=by
 rcases Nat.lt_trichotomy n m with e | e | e
 ·have h1:=k.2 (by omega)
  have h2:=Nat.pow_le_pow_right (n:=BB) bI (show n<=m - 1 by omega)
  have:=h.1
  omega
 ·exact e
 ·have h1:=h.2 (by omega)
  have h2:=Nat.pow_le_pow_right (n:=BB) bI (show m<=n - 1 by omega)
  have:=k.1
  omega
theorem qQ {N i:Nat} (h:N < BB ^ (i+1)) (e:dg N i=0):N < BB ^ i:=by
 have h1:N / BB ^ (i+1)=0:=Nat.div_eq_of_lt h
 have h2:=fN N i
 rw [h1,e] at h2
 rcases Nat.lt_or_ge N (BB ^ i) with h3 | h3
 ·exact h3
 ·have:=Nat.div_pos h3 (bi i);omega
theorem Mz {N i:Nat} (e:dg N i≠0):BB ^ i<=N:=by
 rcases Nat.lt_or_ge N (BB ^ i) with h3 | h3
 ·exact absurd (ce h3 (Nat.le_refl _)) e
 ·exact h3
theorem Bx {N n:Nat} (h:N < BB ^ n) (e:n=0\/dg N (n - 1)≠0):IsUsed N n:=⟨h,fun hn=>by
 rcases e with e | e
 ·omega
 ·exact Mz e⟩

def IsBits (N k:Nat):Prop:=N < 2 ^ k/\(0 < k->2 ^ (k - 1)<=N)
theorem IsBits.unique {N n m:Nat} (h:IsBits N n) (k:IsBits N m):n=m:=by
 rcases Nat.lt_trichotomy n m with e | e | e
 ·have h1:=k.2 (by omega)
  have h2:=Nat.pow_le_pow_right (n:=2) (by omega) (show n<=m - 1 by omega)
  have:=h.1
  omega
 ·exact e
 ·have h1:=h.2 (by omega)
  have h2:=Nat.pow_le_pow_right (n:=2) (by omega) (show m<=n - 1 by omega)
  have:=k.1
  omega
theorem ye:IsBits 0 0:=⟨by simp,fun h=>absurd h (by omega)⟩
theorem oF (i:Nat):BB ^ i=2 ^ (32*i):=by rw [Nat.pow_mul];rfl
theorem Ar {N n k:Nat} (hN:N < BB ^ (n+1)) (hk:0 < k) (h:IsBits (dg N n) k):IsBits N (32*n+k):=by
 have e:N / BB ^ n=dg N n:=by rw [fN N n,Nat.div_eq_of_lt hN];omega
 have hm:N=BB ^ n*dg N n+N % BB ^ n:=by rw [<- e];exact (Nat.div_add_mod _ _).symm
 have hr:N % BB ^ n < BB ^ n:=Nat.mod_lt _ (bi n)
 have h1:=h.1
 have h2:=h.2 hk
 generalize N % BB ^ n=r at hm hr
 refine ⟨?_,fun _=>?_⟩
 ·rw [Nat.pow_add,<- oF]
  have:BB ^ n*(dg N n+1)<=BB ^ n*2 ^ k:=Nat.mul_le_mul_left _ (by omega)
  rw [Nat.mul_add,Nat.mul_one] at this
  omega
 ·rw [show 32*n+k - 1=32*n+(k - 1) by omega,Nat.pow_add,<- oF]
  have:BB ^ n*2 ^ (k - 1)<=BB ^ n*dg N n:=Nat.mul_le_mul_left _ h2
  omega
end Go.Proofs.YtklehfchdoikeaaGreatDoor
namespace Go.Proofs.YtklehfchdoikeaaGreatDoor

theorem LV {U V U3 V2 P ul vl g:Nat} (hU:U=U3*P+ul) (hV:V=V2*P+vl) (hul:ul < P) (h:U3 < g*V2):U < g*V:=by
 have h1:(U3+1)*P<=g*V2*P:=Nat.mul_le_mul_right _ h
 rw [Nat.add_mul,Nat.one_mul] at h1
 have h2:g*V=g*V2*P+g*vl:=by rw [hV,Nat.mul_add,Nat.mul_assoc]
 omega
theorem Pr {U V U3 V2 P ul vl g:Nat} (hU:U=U3*P+ul) (hV:V=V2*P+vl) (hvl:vl < P) (h:g*V2<=U3) (hg:g<=V2+1):g*V<=U+V:=by
 cases g with
 | zero=>omega
 | succ g =>
  have h1:g*(V2+1)<=(g+1)*V2:=by
   rw [Nat.mul_add,Nat.add_mul];omega
  have h2:g*V<=g*(V2+1)*P:=by
   rw [Nat.mul_assoc]
   refine Nat.mul_le_mul_left _ ?_
   rw [hV,Nat.add_mul];omega
  have h3:g*(V2+1)*P<=(g+1)*V2*P:=Nat.mul_le_mul_right _ h1
  have h4:(g+1)*V2*P<=U3*P:=Nat.mul_le_mul_right _ h
  rw [Nat.add_mul,Nat.one_mul]
  omega
theorem DH {f a b:Nat->Nat} {x i k k':Nat} (h:nv f i+x*nv b i=nv a i+k*BB ^ i) (e:f i+x*b i+k=a i+k'*BB) :
    nv f (i+1)+x*nv b (i+1)=nv a (i+1)+k'*BB ^ (i+1):=by
 have e2:f i*BB ^ i+x*(b i*BB ^ i)+k*BB ^ i=a i*BB ^ i+k'*BB ^ (i+1):=by
  have:=congrArg (· * BB ^ i) e
  simp only [Nat.add_mul] at this
  rw [Nat.pow_succ,Nat.mul_comm (BB ^ i) BB,<- Nat.mul_assoc,<- Nat.mul_assoc]
  exact this
 simp only [nv,Nat.mul_add]
 omega
theorem BX (f:Nat->Nat) (n:Nat):nv f (n+2)=(f (n+1)*BB+f n)*BB ^ n+nv f n:=by
 simp only [nv,Nat.pow_succ,Nat.add_mul]
 rw [Nat.mul_comm (BB ^ n) BB,<- Nat.mul_assoc]
 omega
theorem JZ (f:Nat->Nat) (n:Nat):nv f (n+3)=((f (n+2)*BB+f (n+1))*BB+f n)*BB ^ n+nv f n:=by
 have h1:nv f (n+3)=nv f (n+2)+f (n+2)*BB ^ (n+2):=rfl
 have h2:BB ^ (n+2)=BB*(BB*BB ^ n):=by rw [Nat.pow_succ,Nat.pow_succ,Nat.mul_comm,Nat.mul_comm (BB ^ n)]
 rw [h1,BX,h2]
 generalize BB ^ n=P
 simp only [Nat.add_mul,Nat.mul_assoc]
 omega
theorem Dn {a b s:Nat}:(a*2 ^ s) / (b*2 ^ s)=a / b:=Nat.mul_div_mul_right _ _ (Nat.pow_pos (by omega))
theorem Dm {a b s:Nat}:(a*2 ^ s) % (b*2 ^ s)=(a % b)*2 ^ s:=Nat.mul_mod_mul_right _ _ _
theorem mu {a b q r:Nat} (h:a=q*b+r) (hr:r < b):q=a / b/\r=a % b:=by
 subst h
 constructor
 ·rw [Nat.mul_comm,Nat.mul_add_div (by omega),Nat.div_eq_of_lt hr];omega
 ·rw [Nat.mul_comm,Nat.mul_add_mod,Nat.mod_eq_of_lt hr]
end Go.Proofs.YtklehfchdoikeaaGreatDoor
namespace Go.Proofs.YtklehfchdoikeaaGreatDoor

structure MulO (N M m i:Nat) (f:Nat->Nat):Prop where
 val:nv f (i+m)=(N % BB ^ i)*M
 zero:∀ k,i+m<=k->f k=0
 lt:∀ k,f k < BB
structure MulI (N M m i j:Nat) (f0 f:Nat->Nat) (c:Nat):Prop where
 val:nv (fun k=>f (i+k)) j+c*BB ^ j=nv (fun k=>f0 (i+k)) j+dg N i*nv (dg M) j
 low:∀ k,k < i->f k=f0 k
 high:∀ k,i+j<=k->f k=f0 k
 lt:∀ k,f k < BB
 carry:c < BB
theorem MulO.start (N M m:Nat):MulO N M m 0 (fun _=>0):=⟨by simp [Nat.mod_one];exact rK fun _ _=>rfl,fun _ _=>rfl,fun _=>bI⟩
theorem MulO.row {N M m i:Nat} {f:Nat->Nat} (h:MulO N M m i f):MulI N M m i 0 f f 0:=⟨by simp [nv],fun _ _=>rfl,fun _ _=>rfl,h.lt,bI⟩
theorem qM {x y z c:Nat} (hx:x < BB) (hy:y < BB) (hz:z < BB) (hc:c < BB):x*y+z+c < BB*BB:=by
 have h1:x*y<=(BB - 1)*(BB - 1):=Nat.mul_le_mul (by omega) (by omega)
 have h2:(BB - 1)*(BB - 1)+2*(BB - 1)+1=BB*BB:=by decide
 omega
theorem MulI.step {N M m i j c:Nat} {f0 f:Nat->Nat} (h:MulI N M m i j f0 f c) :
    MulI N M m i (j+1) f0 (fun k=>if k=i+j then (dg N i*dg M j+f (i+j)+c) % BB else f k) ((dg N i*dg M j+f (i+j)+c) / BB):=by
 refine ⟨?_,fun k hk=>?_,fun k hk=>?_,fun k=>?_,?_⟩
 ·refine GJ (k:=c) ?_ ?_
  ·rw [dh (g:=fun k=>f (i+k)) (fun k hk=>by simp only [if_neg (show ¬ i+k=i+j by omega)])];exact h.val
  ·simp only [if_true]
   rw [<- h.high (i+j) (Nat.le_refl _),Nat.mul_comm _ BB];exact Nat.mod_add_div _ _
 ·simp only [if_neg (show ¬ k=i+j by omega)];exact h.low k hk
 ·simp only [if_neg (show ¬ k=i+j by omega)];exact h.high k (by omega)
 ·by_cases e:k=i+j
  ·simp only [if_pos e];exact Nat.mod_lt _ bI
  ·simp only [if_neg e];exact h.lt k
 ·exact Nat.div_lt_of_lt_mul (qM (aL _ _) (aL _ _) (h.lt _) h.carry)
theorem MulI.done {N M m i c:Nat} {f0 f:Nat->Nat} (h:MulI N M m i m f0 f c) (h0:MulO N M m i f0) (hM:M < BB ^ m):MulO N M m (i+1) (fun k=>if k=i+m then c else f k):=by
 have hv:=h.val
 rw [bD hM] at hv
 refine ⟨?_,fun k hk=>?_,fun k=>?_⟩
 ·have e1:nv (fun k=>if k=i+m then c else f k) (i+1+m)=nv f0 i+BB ^ i*(nv (fun k=>f0 (i+k)) m+dg N i*M):=by
    rw [show i+1+m=i+(m+1) by omega,jA]
    congr 1
    ·exact dh fun k hk=>by simp only [if_neg (show ¬ k=i+m by omega)];exact h.low k hk
    ·congr 1
     rw [<- hv]
     simp only [nv,if_true]
     congr 1
     exact dh fun k hk=>by simp only [if_neg (show ¬ i+k=i+m by omega)]
  have e2:nv f0 i+BB ^ i*nv (fun k=>f0 (i+k)) m=(N % BB ^ i)*M:=by rw [<- jA];exact h0.val
  rw [e1,Nat.mul_add,<- Nat.add_assoc,e2,Nat.mod_pow_succ,Nat.add_mul]
  congr 1
  rw [<- Nat.mul_assoc];rfl
 ·simp only [if_neg (show ¬ k=i+m by omega)]
  rw [h.high k (by omega)];exact h0.zero k (by omega)
 ·by_cases e:k=i+m
  ·simp only [if_pos e];exact h.carry
  ·simp only [if_neg e];exact h.lt k
theorem MulO.full {N M m n:Nat} {f:Nat->Nat} (h:MulO N M m n f) (hN:N < BB ^ n) (hle:n+m<=64):nv f 64=N*M:=by
 have e:nv f 64=nv f (n+m)+BB ^ (n+m)*nv (fun k=>f (n+m+k)) (64 - (n+m)):=by
  conv=>lhs;rw [show 64=(n+m)+(64 - (n+m)) by omega]
  exact jA _ _ _
 rw [e,rK (f:=fun k=>f (n+m+k)) (fun k _=>h.zero _ (by omega)),h.val,Nat.mod_eq_of_lt hN,Nat.mul_zero,Nat.add_zero]
theorem BZ {f:Nat->Nat} (h:∀ k,f k < BB) {P:Nat} (e:nv f 64=P):(∀ k,k < 32->f k=dg (P % BB ^ 32) k)/\(∀ k,k < 32->f (32+k)=dg (P / BB ^ 32) k)/\P / BB ^ 32 < BB ^ 32:=by
 have h1:nv f 64=nv f 32+BB ^ 32*nv (fun k=>f (32+k)) 32:=jA f 32 32
 have l1:nv f 32 < BB ^ 32:=mp fun k _=>h k
 have l2:nv (fun k=>f (32+k)) 32 < BB ^ 32:=mp fun k _=>h _
 have e1:P % BB ^ 32=nv f 32:=by rw [<- e,h1,Nat.add_mul_mod_self_left,Nat.mod_eq_of_lt l1]
 have e2:P / BB ^ 32=nv (fun k=>f (32+k)) 32:=by rw [<- e,h1,Nat.add_mul_div_left _ _ (bi 32),Nat.div_eq_of_lt l1,Nat.zero_add]
 refine ⟨fun k hk=>?_,fun k hk=>?_,by rw [e2];exact l2⟩
 ·rw [e1];exact (tB (fun j _=>h j) hk).symm
 ·rw [e2];exact (tB (f:=fun k=>f (32+k)) (fun j _=>h _) hk).symm
end Go.Proofs.YtklehfchdoikeaaGreatDoor
namespace Go.Proofs.YtklehfchdoikeaaGreatDoor

/-! ### bits of limbs -/
theorem fX (N i j:Nat):(dg N i).testBit j=(decide (j < 32) && N.testBit (32*i+j)):=by
 unfold dg
 rw [oF,show BB=2 ^ 32 from rfl,Nat.testBit_mod_two_pow,Nat.testBit_div_two_pow,Nat.add_comm]
theorem x9 {x j:Nat} (h:x < 4294967296) (hj:32<=j):x.testBit j=false:=Nat.testBit_lt_two_pow (Nat.lt_of_lt_of_le h (by rw [show 4294967296=2 ^ 32 from rfl];exact Nat.pow_le_pow_right (by omega) hj))
theorem AX (N s i:Nat) (hs:s < 32):dg (N*2 ^ s) i=(dg N i*2 ^ s) % 4294967296 ||| (if 0 < i/\0 < s then dg N (i - 1) / 2 ^ (32 - s) else 0):=by
 apply Nat.eq_of_testBit_eq
 intro j
 rw [fX,Nat.testBit_or,show 4294967296=2 ^ 32 from rfl,Nat.testBit_mod_two_pow,Nat.testBit_mul_two_pow,Nat.testBit_mul_two_pow,fX]
 by_cases hj:j < 32
 ·by_cases hi:0 < i
  ·by_cases h0:0 < s
   ·rw [if_pos ⟨hi,h0⟩,Nat.testBit_div_two_pow,fX]
    by_cases hjs:s<=j
    ·have e1:s<=32*i+j:=by omega
     have e2:¬ (j+(32 - s) < 32):=by omega
     have e3:32*i+j - s=32*i+(j - s):=by omega
     simp [hj,hjs,e1,e2,e3,show j - s < 32 by omega]
    ·have e1:s<=32*i+j:=by omega
     have e2:j+(32 - s) < 32:=by omega
     have e3:32*i+j - s=32*(i - 1)+(j+(32 - s)):=by omega
     simp [hj,hjs,e1,e2,e3]
   ·have h0:s=0:=by omega
    subst h0
    simp [hj]
  ·have hi:i=0:=by omega
   subst hi
   by_cases hjs:s<=j
   ·simp [hj,hjs,show j - s < 32 by omega]
   ·simp [hjs]
 ·rw [show (if 0 < i/\0 < s then dg N (i - 1) / 2 ^ (32 - s) else 0).testBit j=false from by
   refine x9 ?_ (by omega)
   split
   ·exact Nat.lt_of_le_of_lt (Nat.div_le_self _ _) (aL _ _)
   ·omega]
  simp [hj]
theorem AW (N k s i:Nat) (hs:s < 32):dg (N / 2 ^ (32*k+s)) i=dg N (i+k) / 2 ^ s ||| (if 0 < s then (dg N (i+k+1)*2 ^ (32 - s)) % 4294967296 else 0):=by
 apply Nat.eq_of_testBit_eq
 intro j
 rw [fX,Nat.testBit_or,Nat.testBit_div_two_pow,Nat.testBit_div_two_pow,fX]
 by_cases h0:0 < s
 ·rw [if_pos h0,show 4294967296=2 ^ 32 from rfl,Nat.testBit_mod_two_pow,Nat.testBit_mul_two_pow,fX]
  by_cases hj:j < 32
  ·by_cases hjs:j+s < 32
   ·have e2:¬ (32 - s<=j):=by omega
    have e3:32*i+j+(32*k+s)=32*(i+k)+(j+s):=by omega
    simp [hj,hjs,e2,e3]
   ·have e2:32 - s<=j:=by omega
    have e3:32*i+j+(32*k+s)=32*(i+k+1)+(j - (32 - s)):=by omega
    simp [hj,hjs,e2,e3,show j - (32 - s) < 32 by omega]
  ·simp [hj,show ¬ (j+s < 32) by omega]
 ·have h0:s=0:=by omega
  subst h0
  simp [show 32*i+j+32*k=32*(i+k)+j by omega]
theorem u5 (N b i:Nat) (hb:b<=1):dg (2*N+b) i=(dg N i*2) % 4294967296 ||| (if i=0 then b else dg N (i - 1) / 2147483648):=by
 have e1:dg (2*N+b) i=dg (2*N) i ||| (if i=0 then b else 0):=by
  apply Nat.eq_of_testBit_eq
  intro j
  have e:2*N+b=2 ^ 1*N ||| b:=(Nat.two_pow_add_eq_or_of_lt (show b < 2 ^ 1 by omega) _)
  rw [fX,Nat.testBit_or,fX,e,Nat.testBit_or]
  by_cases hi:i=0
  ·subst hi
   have hbj:b.testBit j=(decide (j < 32) && b.testBit j):=by
    by_cases hj:j < 32
    ·simp [hj]
    ·simp [hj,x9 (x:=b) (j:=j) (by omega) (by omega)]
   simp only [Nat.mul_zero,Nat.zero_add,if_true,Nat.pow_one]
   conv=>rhs;rw [hbj]
   cases decide (j < 32)<;>simp
  ·have hbz:b.testBit (32*i+j)=false:=Nat.testBit_lt_two_pow (Nat.lt_of_le_of_lt hb (by rw [show 32*i+j=(32*i+j - 1)+1 by omega,Nat.pow_succ];have:=Nat.pow_pos (n:=32*i+j - 1) (show 0 < 2 by omega);omega))
   simp [hi,hbz]
 have e2:=AX N 1 i (by omega)
 rw [Nat.pow_one,Nat.mul_comm N 2] at e2
 rw [e1,e2,Nat.or_assoc]
 congr 1
 by_cases hi:i=0
 ·simp [hi]
 ·simp [hi,show 0 < i by omega]
theorem JW {x y s:Nat} (h:y < 2 ^ s):(x*2 ^ s) ||| y=x*2 ^ s+y:=by rw [Nat.mul_comm];exact (Nat.two_pow_add_eq_or_of_lt h _).symm
theorem u4 (N k i:Nat) (h:N.testBit k=false):dg (N+2 ^ k) i=if i=k / 32 then dg N i ||| 2 ^ (k % 32) else dg N i:=by
 have e:N+2 ^ k=N ||| 2 ^ k:=by
  apply Nat.eq_of_testBit_eq
  intro j
  rw [Nat.testBit_or,Nat.testBit_two_pow,Nat.add_comm]
  rcases Nat.lt_trichotomy j k with hjk | rfl | hjk
  ·rw [Nat.testBit_two_pow_add_gt hjk];simp [show k≠j by omega]
  ·rw [Nat.testBit_two_pow_add_eq,h];simp
  ·have h2:k≠j:=by omega
   simp only [h2,decide_false,Bool.or_false]
   have hN:N=N % 2 ^ k+2 ^ (k+1)*(N / 2 ^ (k+1)):=by
    have h3:=Nat.mod_add_div N (2 ^ (k+1))
    have h4:N % 2 ^ (k+1)=N % 2 ^ k:=by
     have h5:N / 2 ^ k % 2=0:=by
      rw [Nat.testBit_eq_decide_div_mod_eq] at h
      have:=of_decide_eq_false h
      omega
     rw [Nat.mod_pow_succ,h5];omega
    omega
   have hl:=Nat.mod_lt N (Nat.pow_pos (n:=k) (show 0 < 2 by omega))
   have hb:∀ x,x < 2 ^ (k+1)->(x+2 ^ (k+1)*(N / 2 ^ (k+1))).testBit j=(N / 2 ^ (k+1)).testBit (j - (k+1)):=by
    intro x hx
    rw [Nat.add_comm,Nat.testBit_two_pow_mul_add _ hx,if_neg (by omega)]
   have hp:2 ^ (k+1)=2 ^ k+2 ^ k:=by rw [Nat.pow_succ];omega
   have e1:2 ^ k+N=(2 ^ k+N % 2 ^ k)+2 ^ (k+1)*(N / 2 ^ (k+1)):=by omega
   rw [e1,hb _ (by omega)]
   conv=>rhs;rw [hN]
   rw [hb _ (by omega)]
 apply Nat.eq_of_testBit_eq
 intro j
 rw [e,fX,Nat.testBit_or,Nat.testBit_two_pow]
 by_cases hi:i=k / 32
 ·rw [if_pos hi,Nat.testBit_or,fX,Nat.testBit_two_pow]
  by_cases hj:j < 32
  ·have:(k=32*i+j)↔(k % 32=j):=by omega
   simp [hj,this]
  ·simp [hj,show ¬ (k % 32=j) by omega]
 ·rw [if_neg hi,fX]
  by_cases hj:j < 32
  ·simp [hj,show ¬ (k=32*i+j) by omega]
  ·simp [hj]

/-! ### short division -/
theorem BJ (N x k:Nat) (hx:0 < x):dg (N / x) k=(N / BB ^ (k+1) % x*BB+dg N k) / x:=by
 have h1:=fN N k
 have hd:=aL N k
 have e:N / x / BB ^ k=BB*(N / BB ^ (k+1) / x)+(N / BB ^ (k+1) % x*BB+dg N k) / x:=by
  rw [Nat.div_div_eq_div_mul,Nat.mul_comm x,<- Nat.div_div_eq_div_mul,h1]
  have h2:=Nat.div_add_mod (N / BB ^ (k+1)) x
  generalize N / BB ^ (k+1) / x=qa at *
  generalize N / BB ^ (k+1) % x=r at *
  rw [<- h2,show BB*(x*qa+r)+dg N k=x*(BB*qa)+(r*BB+dg N k) by rw [Nat.mul_add,<- Nat.mul_assoc,<- Nat.mul_assoc,Nat.mul_comm BB x,Nat.mul_comm BB r];omega]
  rw [Nat.mul_add_div hx]
 have hlt:(N / BB ^ (k+1) % x*BB+dg N k) / x < BB:=by
  rw [Nat.div_lt_iff_lt_mul hx]
  have hr:=Nat.mod_lt (N / BB ^ (k+1)) hx
  generalize N / BB ^ (k+1) % x=r at *
  have:(r+1)*BB<=x*BB:=Nat.mul_le_mul_right _ hr
  rw [Nat.add_mul,Nat.one_mul] at this
  rw [Nat.mul_comm BB x];omega
 unfold dg at *
 rw [e,Nat.mul_add_mod,Nat.mod_eq_of_lt hlt]
theorem BI (N x k:Nat):N / BB ^ k % x=(N / BB ^ (k+1) % x*BB+dg N k) % x:=by
 rw [fN N k,Nat.mul_comm BB,Nat.add_mod,Nat.mul_mod]
 conv=>rhs;rw [Nat.add_mod,Nat.mul_mod,Nat.mod_mod]
theorem Es {N x n i:Nat} (h:N < BB ^ n) (hi:n<=i):dg (N / x) i=0:=ce (Nat.lt_of_le_of_lt (Nat.div_le_self _ _) h) hi

/-! ### bit by bit -/
theorem PD (N M i:Nat):N / 2 ^ i % M=(2*(N / 2 ^ (i+1) % M)+(N / 2 ^ i % 2)) % M:=by
 have h:N / 2 ^ i=2*(N / 2 ^ (i+1))+N / 2 ^ i % 2:=by
  have:=Nat.div_add_mod (N / 2 ^ i) 2
  rw [Nat.div_div_eq_div_mul,<- Nat.pow_succ] at this
  exact this.symm
 generalize N / 2 ^ (i+1)=A at *
 generalize N / 2 ^ i % 2=b at *
 rw [h,Nat.add_mod,Nat.mul_mod]
 conv=>rhs;rw [Nat.add_mod,Nat.mul_mod,Nat.mod_mod]
def hiP (Q i:Nat):Nat:=Q / 2 ^ i*2 ^ i
theorem s8 (Q i:Nat):hiP Q i=hiP Q (i+1)+(Q / 2 ^ i % 2)*2 ^ i:=by
 unfold hiP
 have:=Nat.div_add_mod (Q / 2 ^ i) 2
 rw [Nat.div_div_eq_div_mul,<- Nat.pow_succ] at this
 conv=>lhs;rw [<- this]
 rw [Nat.add_mul]
 congr 1
 rw [Nat.pow_succ,Nat.mul_comm 2,Nat.mul_assoc,Nat.mul_comm 2]
theorem Cr (Q i:Nat):(hiP Q (i+1)).testBit i=false:=by
 unfold hiP
 rw [Nat.testBit_mul_two_pow,decide_eq_false (by omega)];rfl
theorem Hw (Q:Nat):hiP Q 0=Q:=by simp [hiP]
theorem PE (N M i:Nat) (hM:0 < M):(N / M) / 2 ^ i % 2=if M<=2*(N / 2 ^ (i+1) % M)+(N / 2 ^ i % 2) then 1 else 0:=by
 have h:N / 2 ^ i=2*(N / 2 ^ (i+1))+N / 2 ^ i % 2:=by
  have:=Nat.div_add_mod (N / 2 ^ i) 2
  rw [Nat.div_div_eq_div_mul,<- Nat.pow_succ] at this
  exact this.symm
 have hb:=Nat.mod_lt (N / 2 ^ i) (show 0 < 2 by omega)
 have h2:=Nat.div_add_mod (N / 2 ^ (i+1)) M
 have h3:=Nat.mod_lt (N / 2 ^ (i+1)) hM
 rw [Nat.div_div_eq_div_mul,Nat.mul_comm M,<- Nat.div_div_eq_div_mul]
 generalize N / 2 ^ i=X at *
 generalize X % 2=b at *
 subst h
 generalize N / 2 ^ (i+1) / M=qa at *
 generalize N / 2 ^ (i+1) % M=r at *
 rw [<- h2,show 2*(M*qa+r)+b=M*(2*qa)+(2*r+b) by rw [Nat.mul_add,<- Nat.mul_assoc,<- Nat.mul_assoc,Nat.mul_comm 2 M];omega,Nat.mul_add_div hM]
 by_cases hle:M<=2*r+b
 ·rw [if_pos hle]
  have:(2*r+b) / M=1:=by
   apply Nat.div_eq_of_lt_le<;>omega
  rw [this];omega
 ·rw [if_neg hle,Nat.div_eq_of_lt (by omega)];omega
end Go.Proofs.YtklehfchdoikeaaGreatDoor
namespace Go.Proofs.YtklehfchdoikeaaGreatDoor

def wN (U V k:Nat):Nat:=U % BB ^ k+BB ^ k*(U / BB ^ k % V)
def tN (U V j:Nat):Nat:=U / BB ^ (j+1) % V*BB+dg U j
theorem GN (U j:Nat):U % BB ^ (j+1)=U % BB ^ j+BB ^ j*dg U j:=by
 rw [Nat.mod_pow_succ];rfl
theorem Bo (U V j:Nat):wN U V (j+1)=U % BB ^ j+BB ^ j*tN U V j:=by
 unfold wN tN
 rw [GN,Nat.pow_succ,Nat.mul_add,Nat.mul_assoc,Nat.mul_comm BB (U / (BB ^ j*BB) % V)]
 omega
theorem N6 (U V j:Nat):wN U V j=U % BB ^ j+BB ^ j*(tN U V j % V):=by
 unfold wN tN
 rw [BI]
theorem FI {U V:Nat} (hV:0 < V) (j:Nat):tN U V j < V*BB:=by
 unfold tN
 have hr:=Nat.mod_lt (U / BB ^ (j+1)) hV
 have hd:=aL U j
 generalize U / BB ^ (j+1) % V=r at *
 have:(r+1)*BB<=V*BB:=Nat.mul_le_mul_right _ hr
 rw [Nat.add_mul,Nat.one_mul] at this
 omega
theorem MP {U V:Nat} (hV:0 < V) (j:Nat):dg (U / V) j=tN U V j / V:=BJ U V j hV
theorem KN (l T j i:Nat) (h:l < BB ^ j):dg (l+BB ^ j*T) (j+i)=dg T i:=by
 unfold dg
 rw [Nat.pow_add,<- Nat.div_div_eq_div_mul,Nat.add_mul_div_left _ _ (bi j),Nat.div_eq_of_lt h,Nat.zero_add]
theorem Id (l T j i:Nat) (h:i < j):dg (l+BB ^ j*T) i=dg l i:=by
 unfold dg
 obtain ⟨k,rfl⟩:∃ k,j=i+(k+1):=⟨j - i - 1,by omega⟩
 rw [Nat.pow_add,Nat.mul_assoc,Nat.add_mul_div_left _ _ (bi i),Nat.pow_succ,Nat.mul_comm (BB ^ k) BB,Nat.mul_assoc,Nat.add_mul_mod_self_left]

/-! ### the estimate -/
section
variable {T V n:Nat}
structure Gue (T V n g rest:Nat):Prop where
 eq:g*dg V (n - 1)+rest=dg T n*BB+dg T (n - 1)
 up:T < (g+1)*V
 le:g<=BB+1
theorem Oq (N:Nat) {n:Nat} (h:N < BB ^ (n+1)) (hn:1<=n):N=(dg N n*BB+dg N (n - 1))*BB ^ (n - 1)+N % BB ^ (n - 1):=by
 obtain ⟨k,rfl⟩:∃ k,n=k+1:=⟨n - 1,by omega⟩
 have:=BX (dg N) k
 rw [bD h,uE] at this
 exact this
theorem Oo (N:Nat) {n:Nat} (h:N < BB ^ (n+1)) (hn:2<=n):N=((dg N n*BB+dg N (n - 1))*BB+dg N (n - 2))*BB ^ (n - 2)+N % BB ^ (n - 2):=by
 obtain ⟨k,rfl⟩:∃ k,n=k+2:=⟨n - 2,by omega⟩
 have:=JZ (dg N) k
 rw [bD h,uE] at this
 exact this
theorem EW (hT:T < V*BB) (hV:V < BB ^ n):T < BB ^ (n+1):=by
 rw [Nat.pow_succ]
 exact Nat.lt_of_lt_of_le hT (Nat.mul_le_mul_right _ (Nat.le_of_lt hV))
theorem Ic {N n:Nat} (h:N < BB ^ (n+1)):dg N n=N / BB ^ n:=by
 unfold dg
 rw [Nat.mod_eq_of_lt]
 rw [Nat.div_lt_iff_lt_mul (bi n),Nat.mul_comm,<- Nat.pow_succ]
 exact h
theorem wG {N n:Nat} (h:N < BB ^ n) (hn:1<=n):dg N (n - 1)=N / BB ^ (n - 1):=Ic (by rw [show n - 1+1=n by omega];exact h)
theorem uk (hT:T < V*BB) (hV:V < BB ^ n) (hn:1<=n):dg T n<=dg V (n - 1):=by
 rw [Ic (EW hT hV),wG hV hn]
 obtain ⟨k,rfl⟩:∃ k,n=k+1:=⟨n - 1,by omega⟩
 rw [Nat.add_sub_cancel,Nat.pow_succ,Nat.mul_comm,<- Nat.div_div_eq_div_mul]
 refine Nat.div_le_div_right ?_
 have:T / BB < V:=by rw [Nat.div_lt_iff_lt_mul bI];exact hT
 omega
theorem Tc (hV:V < BB ^ n) (hn:1<=n):V=dg V (n - 1)*BB ^ (n - 1)+V % BB ^ (n - 1):=by
 rw [wG hV hn,Nat.mul_comm];exact (Nat.div_add_mod _ _).symm
theorem IZ (hV:V < BB ^ n) (hn:2<=n):V=(dg V (n - 1)*BB+dg V (n - 2))*BB ^ (n - 2)+V % BB ^ (n - 2):=by
 have:=Oq V (n:=n - 1) (by rw [show n - 1+1=n by omega];exact hV) (by omega)
 rw [show n - 1 - 1=n - 2 by omega] at this
 exact this
theorem HC (hT:T < V*BB) (hV:V < BB ^ n) (hn:2<=n) (hh:2147483648<=dg V (n - 1)):Gue T V n ((dg T n*BB+dg T (n - 1)) / dg V (n - 1)) ((dg T n*BB+dg T (n - 1)) % dg V (n - 1)):=by
 have htop:=uk hT hV (by omega)
 have hd:=aL T (n - 1)
 have hT2:=Oq T (EW hT hV) (by omega)
 have hV2:=Tc hV (by omega)
 have hl:=Nat.mod_lt T (bi (n - 1))
 obtain ⟨x,hx0⟩:∃ x,dg T n*BB+dg T (n - 1)=x:=⟨_,rfl⟩
 have hxle:x < (BB+2)*dg V (n - 1):=by
  rw [<- hx0,Nat.add_mul,Nat.mul_comm BB]
  have:=Nat.mul_le_mul_right BB htop
  rw [aR] at *;omega
 have hx:x < (x / dg V (n - 1)+1)*dg V (n - 1):=by
  rw [Nat.add_mul,Nat.one_mul,Nat.mul_comm]
  have:=Nat.div_add_mod x (dg V (n - 1))
  have:=Nat.mod_lt x (show 0 < dg V (n - 1) by omega)
  omega
 rw [hx0] at hT2 ⊢
 refine ⟨by rw [Nat.mul_comm,hx0];exact Nat.div_add_mod _ _,LV hT2 hV2 hl hx,?_⟩
 have:x / dg V (n - 1) < BB+2:=by rw [Nat.div_lt_iff_lt_mul (by omega)];exact hxle
 omega
theorem yn (hT:T < V*BB) (hV:V < BB ^ n) (hn:2<=n) {g rest:Nat} (h:Gue T V n g rest) (hc:4294967295 < g\/rest*BB+dg T (n - 2) < g*dg V (n - 2)):T < g*V:=by
 rcases hc with hc | hc
 ·have:BB*V<=g*V:=Nat.mul_le_mul_right _ (by rw [aR];omega)
  rw [Nat.mul_comm BB] at this
  omega
 ·have hT3:=Oo T (EW hT hV) hn
  have hV2:=IZ hV hn
  refine LV hT3 hV2 (Nat.mod_lt _ (bi _)) ?_
  rw [<- h.eq,Nat.add_mul,Nat.mul_add,Nat.mul_assoc]
  omega
theorem HE {g rest:Nat} (h:Gue T V n g rest) (h2:T < g*V):1<=g/\Gue T V n (g - 1) (rest+dg V (n - 1)):=by
 have hg:1<=g:=by
  rcases Nat.eq_zero_or_pos g with e | e
  ·subst e;omega
  ·exact e
 obtain ⟨k,rfl⟩:∃ k,g=k+1:=⟨g - 1,by omega⟩
 refine ⟨hg,⟨?_,by simpa using h2,?_⟩⟩
 ·have:=h.eq
  rw [Nat.add_mul,Nat.one_mul] at this
  rw [Nat.add_sub_cancel];omega
 ·have:=h.le;omega
theorem HA (hT:T < V*BB) (hV:V < BB ^ n) (hn:2<=n) (hh:2147483648<=dg V (n - 1)) {g rest:Nat} (h:Gue T V n g rest) (hg:g<=4294967295) (hc:g*dg V (n - 2)<=rest*BB+dg T (n - 2)):g*V<=T+V:=by
 have hT3:=Oo T (EW hT hV) hn
 have hV2:=IZ hV hn
 refine Pr hT3 hV2 (Nat.mod_lt _ (bi _)) ?_ ?_
 ·rw [<- h.eq,Nat.add_mul,Nat.mul_add,Nat.mul_assoc]
  omega
 ·have:2147483648*BB<=dg V (n - 1)*BB:=Nat.mul_le_mul_right _ hh
  rw [aR] at *;omega
theorem Hz (hT:T < V*BB) (hV:V < BB ^ n) (hn:2<=n) {g rest:Nat} (h:Gue T V n g rest) (hr:4294967295 < rest):g<=4294967295/\g*dg V (n - 2)<=rest*BB+dg T (n - 2):=by
 have htop:=uk hT hV (by omega)
 have hd:=aL T (n - 1)
 have hg:g<=4294967295:=by
  refine Nat.le_of_not_lt fun hlt=>?_
  have h1:BB*dg V (n - 1)<=g*dg V (n - 1):=Nat.mul_le_mul_right _ (by rw [aR];omega)
  have h2:=Nat.mul_le_mul_right BB htop
  have:=h.eq
  rw [Nat.mul_comm BB (dg V (n - 1))] at h1
  rw [aR] at *;omega
 refine ⟨hg,?_⟩
 have h1:g*dg V (n - 2)<=4294967295*4294967295:=Nat.mul_le_mul hg (by have:=aL V (n - 2);rw [aR] at this;omega)
 have h2:4294967296*BB<=rest*BB:=Nat.mul_le_mul_right _ (by omega)
 rw [aR] at *;omega
end

/-! ### a multiple is taken away -/
def wv (f:Nat->Nat) (j i:Nat):Nat:=nv (fun t=>f (j+t)) i
structure SubI (f0:Nat->Nat) (V g j i:Nat) (f:Nat->Nat) (c b:Nat):Prop where
 val:wv f j i+g*nv (dg V) i=wv f0 j i+(c+b)*BB ^ i
 low:∀ k,k < j->f k=f0 k
 high:∀ k,j+i<=k->f k=f0 k
 lt:∀ k,f k < BB
 carry:c < BB
 bor:b<=1
theorem SubI.start {f0:Nat->Nat} (h:∀ k,f0 k < BB) (V g j:Nat):SubI f0 V g j 0 f0 0 0:=⟨by simp [wv,nv],fun _ _=>rfl,fun _ _=>rfl,h,bI,by omega⟩
theorem SubI.step {f0 f:Nat->Nat} {V g j i c b:Nat} (h:SubI f0 V g j i f c b) (hg:g < BB) :
    SubI f0 V g j (i+1) (fun k=>if k=i+j then (f (i+j)+BB - ((g*dg V i+c) % BB+b)) % BB else f k) ((g*dg V i+c) / BB) (if f (i+j) < (g*dg V i+c) % BB+b then 1 else 0):=by
 have hm:=Nat.mod_lt (g*dg V i+c) bI
 have hmul:g*dg V i+c < BB*BB:=by
  have h1:=aL V i
  have h2:=h.carry
  have:=qM hg h1 bI h2
  omega
 have hbb:=h.bor
 have hf:=h.lt (i+j)
 refine ⟨?_,fun k hk=>?_,fun k hk=>?_,fun k=>?_,Nat.div_lt_of_lt_mul hmul,by split<;>omega⟩
 ·refine DH (k:=c+b) ?_ ?_
  ·rw [dh (g:=fun t=>f (j+t)) (fun k hk=>by simp only [if_neg (show ¬ j+k=i+j by omega)])];exact h.val
  ·simp only [show j+i=i+j by omega,if_true]
   rw [<- h.high (i+j) (by omega)]
   have:=Nat.div_add_mod (g*dg V i+c) BB
   rw [Nat.add_mul,Nat.mul_comm ((g*dg V i+c) / BB)]
   generalize (g*dg V i+c) / BB=q at *
   generalize (g*dg V i+c) % BB=lo at *
   generalize f (i+j)=x at *
   generalize g*dg V i=y at *
   generalize BB*q=z at *
   rw [aR] at *
   split<;>omega
 ·simp only [if_neg (show ¬ k=i+j by omega)];exact h.low k hk
 ·simp only [if_neg (show ¬ k=i+j by omega)];exact h.high k (by omega)
 ·by_cases e:k=i+j
  ·simp only [if_pos e];exact Nat.mod_lt _ bI
  ·simp only [if_neg e];exact h.lt k
structure SubE (f0:Nat->Nat) (V g j n:Nat) (f:Nat->Nat) (b:Nat):Prop where
 val:wv f j (n+1)+g*V=wv f0 j (n+1)+b*BB ^ (n+1)
 low:∀ k,k < j->f k=f0 k
 high:∀ k,j+n+1<=k->f k=f0 k
 lt:∀ k,f k < BB
 bor:b<=1
theorem SubI.fin {f0 f:Nat->Nat} {V g j n c b:Nat} (h:SubI f0 V g j n f c b) (hV:V < BB ^ n) :
    SubE f0 V g j n (fun k=>if k=j+n then (f (j+n)+BB - (c+b)) % BB else f k) (if f (j+n) < c+b then 1 else 0):=by
 have hv:=h.val
 rw [bD hV] at hv
 have hc:=h.carry
 have hb:=h.bor
 have hf:=h.lt (j+n)
 refine ⟨?_,fun k hk=>?_,fun k hk=>?_,fun k=>?_,by split<;>omega⟩
 ·have e1:wv (fun k=>if k=j+n then (f (j+n)+BB - (c+b)) % BB else f k) j (n+1)=wv f j n+(f (j+n)+BB - (c+b)) % BB*BB ^ n:=by
    unfold wv
    simp only [nv,if_true]
    congr 1
    exact dh fun k hk=>by simp only [if_neg (show ¬ j+k=j+n by omega)]
  have e2:wv f0 j (n+1)=wv f0 j n+f0 (j+n)*BB ^ n:=rfl
  have e3:(f (j+n)+BB - (c+b)) % BB+(c+b)=f0 (j+n)+(if f (j+n) < c+b then 1 else 0)*BB:=by
   rw [<- h.high (j+n) (Nat.le_refl _)]
   rw [aR] at *
   split<;>omega
  have e4:=congrArg (· * BB ^ n) e3
  simp only [Nat.add_mul] at e4
  rw [e1,e2,Nat.pow_succ,Nat.mul_comm (BB ^ n) BB,<- Nat.mul_assoc]
  rw [Nat.add_mul] at hv
  omega
 ·simp only [if_neg (show ¬ k=j+n by omega)];exact h.low k hk
 ·simp only [if_neg (show ¬ k=j+n by omega)];exact h.high k (by omega)
 ·by_cases e:k=j+n
  ·simp only [if_pos e];exact Nat.mod_lt _ bI
  ·simp only [if_neg e];exact h.lt k
structure AddI (f0:Nat->Nat) (V j i:Nat) (f:Nat->Nat) (c:Nat):Prop where
 val:wv f j i+c*BB ^ i=wv f0 j i+nv (dg V) i
 low:∀ k,k < j->f k=f0 k
 high:∀ k,j+i<=k->f k=f0 k
 lt:∀ k,f k < BB
 carry:c<=1
theorem AddI.start {f0:Nat->Nat} (h:∀ k,f0 k < BB) (V j:Nat):AddI f0 V j 0 f0 0:=⟨by simp [wv,nv],fun _ _=>rfl,fun _ _=>rfl,h,by omega⟩
theorem AddI.step {f0 f:Nat->Nat} {V j i c:Nat} (h:AddI f0 V j i f c) :
    AddI f0 V j (i+1) (fun k=>if k=i+j then (f (i+j)+dg V i+c) % BB else f k) ((f (i+j)+dg V i+c) / BB):=by
 have hx:=h.lt (i+j)
 have hy:=aL V i
 have hc:=h.carry
 refine ⟨?_,fun k hk=>?_,fun k hk=>?_,fun k=>?_,by rw [aR] at *;omega⟩
 ·refine tM (k:=c) ?_ ?_
  ·rw [dh (g:=fun t=>f (j+t)) (fun k hk=>by simp only [if_neg (show ¬ j+k=i+j by omega)])];exact h.val
  ·simp only [show j+i=i+j by omega,if_true]
   rw [<- h.high (i+j) (by omega),Nat.mul_comm _ BB];exact Nat.mod_add_div _ _
 ·simp only [if_neg (show ¬ k=i+j by omega)];exact h.low k hk
 ·simp only [if_neg (show ¬ k=i+j by omega)];exact h.high k (by omega)
 ·by_cases e:k=i+j
  ·simp only [if_pos e];exact Nat.mod_lt _ bI
  ·simp only [if_neg e];exact h.lt k
theorem Lp {f:Nat->Nat} (h:∀ k,f k < BB) (j i:Nat):wv f j i < BB ^ i:=mp fun _k _=>h _
theorem Kx {f0 f:Nat->Nat} {T V g j n:Nat} (h:SubE f0 V g j n f 0) (hT:wv f0 j (n+1)=T) (hup:T < (g+1)*V):T / V=g/\wv f j (n+1)=T % V:=by
 have hv:=h.val
 rw [hT,Nat.zero_mul,Nat.add_zero] at hv
 rw [Nat.add_mul,Nat.one_mul] at hup
 obtain ⟨h1,h2⟩:=mu (a:=T) (b:=V) (q:=g) (r:=wv f j (n+1)) (by omega) (by omega)
 exact ⟨h1.symm,h2⟩
theorem Kz {f0 f f2:Nat->Nat} {T V g j n c:Nat} (h:SubE f0 V g j n f 1) (hT:wv f0 j (n+1)=T) (_hT2:T < V*BB) (hup:T < (g+1)*V) (hlo:g*V<=T+V) (hV:V < BB ^ n) (ha:AddI f V j n f2 c) :
    1<=g/\T / V=g - 1/\wv (fun k=>if k=j+n then (f2 (j+n)+c) % BB else f2 k) j (n+1)=T % V:=by
 have hv:=h.val
 rw [hT,Nat.one_mul] at hv
 have hfl:=Lp h.lt j (n+1)
 have hg:1<=g:=by
  rcases Nat.eq_zero_or_pos g with e | e
  ·subst e;omega
  ·exact e
 obtain ⟨k,rfl⟩:∃ k,g=k+1:=⟨g - 1,by omega⟩
 rw [Nat.add_mul,Nat.one_mul] at hv hlo
 rw [Nat.add_mul (k+1),Nat.one_mul,Nat.add_mul,Nat.one_mul] at hup
 have hav:=ha.val
 rw [bD hV] at hav
 have hf2:=ha.high (j+n) (Nat.le_refl _)
 have e0:wv f j (n+1)=wv f j n+f (j+n)*BB ^ n:=rfl
 have e1:wv (fun k=>if k=j+n then (f2 (j+n)+c) % BB else f2 k) j (n+1)=wv f2 j n+(f2 (j+n)+c) % BB*BB ^ n:=by
  unfold wv
  simp only [nv,if_true]
  congr 1
  exact dh fun k hk=>by simp only [if_neg (show ¬ j+k=j+n by omega)]
 have hl2:=Lp ha.lt j n
 have hkey:wv f2 j n+(f (j+n)+c)*BB ^ n=T - k*V+BB ^ (n+1):=by
  rw [Nat.add_mul];omega
 have hlt:T - k*V < BB ^ n:=by omega
 have hcc:=ha.carry
 have hx:=h.lt (j+n)
 have hp:BB ^ (n+1)=BB*BB ^ n:=by rw [Nat.pow_succ,Nat.mul_comm]
 have hfc:f (j+n)+c=BB:=by
  have h5:(f (j+n)+c)*BB ^ n < (BB+1)*BB ^ n:=by rw [Nat.add_mul BB,Nat.one_mul,<- hp];omega
  have h6:(BB - 1)*BB ^ n < (f (j+n)+c)*BB ^ n:=by
   rw [Nat.sub_mul,Nat.one_mul,<- hp]
   have:BB ^ n<=BB ^ (n+1):=by rw [hp];exact Nat.le_mul_of_pos_left _ bI
   omega
  have h7:=Nat.lt_of_mul_lt_mul_right h5
  have h8:=Nat.lt_of_mul_lt_mul_right h6
  omega
 rw [hfc,hp] at hkey
 obtain ⟨h1,h2⟩:=mu (a:=T) (b:=V) (q:=k) (r:=wv f2 j n) (by omega) (by omega)
 refine ⟨hg,by rw [<- h1];omega,?_⟩
 rw [e1,hf2,hfc,Nat.mod_self,Nat.zero_mul,Nat.add_zero,h2]
theorem vo {U V j n L:Nat} {f:Nat->Nat} (hL:j+n+1<=L) (_hf:∀ k,f k < BB) (hlow:∀ k,k < j->f k=dg U k) (hw:wv f j (n+1)=tN U V j % V) (hhi:∀ k,j+n+1<=k->f k=0):nv f L=wN U V j:=by
 rw [N6,<- hw]
 obtain ⟨r,rfl⟩:∃ r,L=j+(n+1)+r:=⟨L - (j+n+1),by omega⟩
 rw [jA,rK (f:=fun i=>f (j+(n+1)+i)) (fun i _=>hhi _ (by omega)),Nat.mul_zero,Nat.add_zero,jA]
 congr 1
 rw [dh (g:=dg U) (fun i hi=>hlow i hi),uE]
theorem Lq (U V j i:Nat) (h:i < j):dg (wN U V (j+1)) i=dg U i:=by
 rw [Bo,Id _ _ _ _ h]
 unfold dg
 obtain ⟨k,rfl⟩:∃ k,j=i+(k+1):=⟨j - i - 1,by omega⟩
 have h2:=Nat.mod_add_div U (BB ^ (i+(k+1)))
 conv=>rhs;rw [<- h2]
 have:=Id (U % BB ^ (i+(k+1))) (U / BB ^ (i+(k+1))) (i+(k+1)) i (by omega)
 unfold dg at this
 exact this.symm
theorem Fb (U V j i:Nat):dg (wN U V (j+1)) (j+i)=dg (tN U V j) i:=by
 rw [Bo];exact KN _ _ _ _ (Nat.mod_lt _ (bi j))
theorem Te {U V j n:Nat} (hV0:0 < V) (hV:V < BB ^ n):wv (dg (wN U V (j+1))) j (n+1)=tN U V j:=by
 unfold wv
 rw [dh (g:=dg (tN U V j)) (fun i _=>Fb U V j i),bD (EW (FI hV0 j) hV)]
theorem N5 {U V j n k:Nat} (hV0:0 < V) (hV:V < BB ^ n) (hk:j+n+1<=k):dg (wN U V (j+1)) k=0:=by
 obtain ⟨i,rfl⟩:∃ i,k=j+i:=⟨k - j,by omega⟩
 rw [Fb]
 exact ce (EW (FI hV0 j) hV) (by omega)
theorem I7 (U V:Nat):wN U V 0=U % V:=by simp [wN,Nat.mod_one]
theorem Fc {U V k:Nat} (h:U / BB ^ k < V):wN U V k=U:=by
 unfold wN;rw [Nat.mod_eq_of_lt h];exact Nat.mod_add_div _ _
end Go.Proofs.YtklehfchdoikeaaGreatDoor
namespace Go.Proofs.YtklehfchdoikeaaGreatDoor
def ga (N:Nat):List UInt8:=if h:N=0 then [] else UInt8.ofNat (48+N % 10) :: ga (N / 10)
termination_by N
decreasing_by omega
theorem jf:ga 0=[]:=by rw [ga];simp
theorem jg {N:Nat} (h:N≠0):ga N=UInt8.ofNat (48+N % 10) :: ga (N / 10):=by rw [ga];simp [h]
theorem sH:∀ (k N:Nat),N < 10 ^ k->(ga N).length<=k
 | 0,N,h=>by simp at h;subst h;rw [jf];simp
 | k+1,N,h=>by
  rcases Nat.eq_zero_or_pos N with e | e
  ·subst e;rw [jf];simp
  ·rw [jg (by omega),List.length_cons]
   have:=sH k (N / 10) (by rw [Nat.pow_succ] at h;omega)
   omega
theorem qU (n:Nat):(UInt8.ofNat (48+n % 10)).toNat=48+n % 10:=by
 rw [UInt8.toNat_ofNat'];omega
theorem z8 {N:Nat}:∀ b∈ga N,48<=b.toNat/\b.toNat<=57:=by
 induction N using Nat.strongRecOn with
 | _ N ih =>
  intro b hb
  rcases Nat.eq_zero_or_pos N with e | e
  ·subst e;rw [jf] at hb;cases hb
  ·rw [jg (by omega)] at hb
   rcases List.mem_cons.1 hb with rfl | hb
   ·rw [qU];omega
   ·exact ih (N / 10) (by omega) b hb
def iO (N:Nat):List UInt8:=if N=0 then [48] else (ga N).reverse
def ub (z:Int):List UInt8:=if z < 0 then 45 :: iO z.natAbs else iO z.natAbs
def Nn (z:Int):ByteArray:=⟨(ub z).toArray⟩
end Go.Proofs.YtklehfchdoikeaaGreatDoor
namespace Go.SX
def bo (y:Nat):Bool:=y % 4 == 0 && (y % 100 != 0 || y % 400 == 0)
def mw (y:Nat):Nat:=if bo y then 366 else 365
def ysN (y:Nat):Nat:=365*(y - 2000)+(y - 2000+3) / 4 - (if 2100 < y then 1 else 0)
theorem oG {y:Nat} (h1:2000<=y) (h2:y<=2199):ysN (y+1)=ysN y+mw y:=by
 have H:∀ k,k < 200->ysN (2000+k+1)=ysN (2000+k)+mw (2000+k):=by decide +kernel
 have:=H (y - 2000) (by omega)
 rw [show 2000+(y - 2000)=y by omega] at this
 exact this
def yGo:Nat->Nat->Nat->Nat×Nat
 | 0,y,r=>(y,r)
 | f+1,y,r=>if r < mw y then (y,r) else yGo f (y+1) (r - mw y)
theorem EZ:∀ (d y:Nat),2000<=y->y+d<=2200->ysN y<=ysN (y+d)
 | 0,y,_,_=>Nat.le_refl _
 | d+1,y,h1,h2=>by
  have h3:=EZ d y h1 (by omega)
  have h4:=oG (y:=y+d) (by omega) (by omega)
  rw [show y+(d+1)=y+d+1 by omega,h4];omega
theorem E8:∀ (d f y r:Nat),2000<=y->y+d<=2199->d < f->r < mw (y+d)->yGo f y (ysN (y+d) - ysN y+r)=(y+d,r)
 | 0,f+1,y,r,_,_,_,hr=>by
  rw [yGo,Nat.add_zero,Nat.sub_self,Nat.zero_add,if_pos (by simpa using hr)]
 | d+1,f+1,y,r,h1,h2,h3,hr=>by
  have h4:=oG h1 (by omega)
  have h5:=EZ d (y+1) (by omega) (by omega)
  rw [show y+1+d=y+(d+1) by omega] at h5
  rw [yGo,if_neg (by omega)]
  have:=E8 d f (y+1) r (by omega) (by omega) (by omega) (by rw [show y+1+d=y+(d+1) by omega];exact hr)
  rw [show y+1+d=y+(d+1) by omega] at this
  exact (congrArg (yGo f (y+1)) (show ysN (y+(d+1)) - ysN y+r - mw y=ysN (y+(d+1)) - ysN (y+1)+r by omega)).trans this
def fF (n:Nat):Nat×Nat:=yGo 200 2000 n
theorem wV {y r n:Nat} (h1:2000<=y) (h2:y<=2199) (hr:r < mw y) (hn:ysN y+r=n):fF n=(y,r):=by
 have:=E8 (y - 2000) 200 2000 r (by omega) (by omega) (by omega) (by rw [show 2000+(y - 2000)=y by omega];exact hr)
 rw [show 2000+(y - 2000)=y by omega] at this
 have h0:ysN 2000=0:=by decide
 exact (congrArg (yGo 200 2000) (show n=ysN y - ysN 2000+r by omega)).trans this
theorem E7 {n:Nat} (hn:n<=73048):2000<=(fF n).1/\(fF n).1<=2199/\(fF n).2 < mw (fF n).1/\ysN (fF n).1+(fF n).2=n:=by
 have:∀ k,k<=199->n < ysN (2000+k+1)->∃ y r,2000<=y/\y<=2000+k/\r < mw y/\ysN y+r=n:=by
  intro k
  induction k with
  | zero =>
   intro _ h
   have h4:=oG (y:=2000) (by omega) (by omega)
   rw [show 2000+0+1=2000+1 from rfl,h4] at h
   have:ysN 2000=0:=by decide
   exact ⟨2000,n,by omega,by omega,by omega,by omega⟩
  | succ k ih =>
   intro hk h
   rcases Nat.lt_or_ge n (ysN (2000+k+1)) with h5 | h5
   ·obtain ⟨y,r,h6,h7,h8,h9⟩:=ih (by omega) h5
    exact ⟨y,r,h6,by omega,h8,h9⟩
   ·have h4:=oG (y:=2000+(k+1)) (by omega) (by omega)
    rw [show 2000+k+1=2000+(k+1) by omega] at h5
    exact ⟨2000+(k+1),n - ysN (2000+(k+1)),by omega,by omega,by omega,by omega⟩
 obtain ⟨y,r,h6,h7,h8,h9⟩:=this 199 (by omega) (by
  have:ysN (2000+199+1)=73049:=by decide
  omega)
 rw [wV h6 (by omega) h8 h9]
 exact ⟨h6,by omega,h8,h9⟩
def mlN (leap:Bool) (m:Nat):Nat:=if m=2 then (if leap then 29 else 28) else if m=4\/m=6\/m=9\/m=11 then 30 else 31
def ahN (leap:Bool) (m:Nat):Nat:=match m with
 | 0=>0
 | 1=>0
 | 2=>31
 | 3=>if leap then 60 else 59
 | 4=>if leap then 91 else 90
 | 5=>if leap then 121 else 120
 | 6=>if leap then 152 else 151
 | 7=>if leap then 182 else 181
 | 8=>if leap then 213 else 212
 | 9=>if leap then 244 else 243
 | 10=>if leap then 274 else 273
 | 11=>if leap then 305 else 304
 | 12=>if leap then 335 else 334
 | _=>if leap then 366 else 365
def mGo:Nat->Bool->Nat->Nat->Nat×Nat
 | 0,_,m,r=>(m,r)
 | f+1,leap,m,r=>if r < mlN leap m then (m,r) else mGo f leap (m+1) (r - mlN leap m)
def gY (leap:Bool) (r:Nat):Nat×Nat:=mGo 12 leap 1 r
theorem B5 {leap:Bool} {n:Nat} (hn:n < (if leap then 366 else 365)):1<=(gY leap n).1/\(gY leap n).1<=12/\(gY leap n).2 < mlN leap (gY leap n).1/\ahN leap (gY leap n).1+(gY leap n).2=n:=by
 have H:∀ l:Bool,∀ n,n < (if l then 366 else 365)->1<=(gY l n).1/\(gY l n).1<=12/\(gY l n).2 < mlN l (gY l n).1/\ahN l (gY l n).1+(gY l n).2=n:=by decide +kernel
 exact H leap n hn
theorem DI {leap:Bool} {n:Nat} (hn:n < (if leap then 366 else 365)):(if 1+n / 31 < 12/\ahN leap (1+n / 31+1)<=n then 1+n / 31+1 else 1+n / 31)=(gY leap n).1:=by
 have H:∀ l:Bool,∀ n,n < (if l then 366 else 365)->(if 1+n / 31 < 12/\ahN l (1+n / 31+1)<=n then 1+n / 31+1 else 1+n / 31)=(gY l n).1:=by decide +kernel
 exact H leap n hn
def il (n:Nat):Nat×Nat×Nat:=((fF n).1,(gY (bo (fF n).1) (fF n).2).1,(gY (bo (fF n).1) (fF n).2).2+1)
theorem KY {n:Nat} (hn:n<=73048):2000<=(il n).1/\(il n).1<=2199/\1<=(il n).2.1/\(il n).2.1<=12/\1<=(il n).2.2/\(il n).2.2<=31:=by
 obtain ⟨h1,h2,h3,h4⟩:=E7 hn
 obtain ⟨h5,h6,h7,h8⟩:=B5 (leap:=bo (fF n).1) (n:=(fF n).2) h3
 refine ⟨h1,h2,h5,h6,by simp [il],?_⟩
 have:mlN (bo (fF n).1) (gY (bo (fF n).1) (fF n).2).1<=31:=by
  unfold mlN
  repeat' split
  all_goals omega
 simp only [il]
 omega
def twN (k:Nat):List UInt8:=[UInt8.ofNat (48+k / 10),UInt8.ofNat (48+k % 10)]
def Eu (n:Nat):List UInt8:=twN ((il n).1 / 100)++(twN ((il n).1 % 100)++(45 :: (twN (il n).2.1++(45 :: twN (il n).2.2))))
end Go.SX
