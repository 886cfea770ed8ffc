/- walks: the reference, whole numbers. walks: the reference, p; no condition. -/
import Derived.Test.YtekfkdddadcalaaGreatDoorPositionSpoiltQ14
set_option maxRecDepth 100000
set_option maxHeartbeats 4000000
namespace Go.Proofs.YtekfkdddadcalaaGreatDoor
open Go Go.RowKit Go.SX
theorem IsI.raw {A:Array Value} {z:Int} (h:IsI A z):∃ neg N,N < BB ^ 32/\A=iA neg N/\z=zN neg N:=h.ex
theorem nn {neg:Bool} {N i:Nat} (h:i < 32):(iA neg N)[1+i]? = some (.int .u32 (dg N i:Nat)):=by
 rw [iA,Array.getElem?_append_right (by simp)]
 have e:1+i - (#[Value.bool neg]:Array Value).size=i:=by simp
 rw [e];exact bo h
def iB (neg:Bool) (f:Nat->Nat):Array Value:=#[.bool neg]++lA f 32
theorem CI (neg:Bool) (f:Nat->Nat) (i v:Nat):(iB neg f).setIfInBounds (1+i) (.int .u32 (v:Nat))=iB neg (fun k=>if k=i then v else f k):=by
 unfold iB
 rw [<- kX]
 apply Array.ext_getElem?
 intro j
 by_cases h:j=1+i
 ·subst h
  rw [Array.getElem?_setIfInBounds_self,Array.getElem?_append_right (by simp)]
  have e:1+i - (#[Value.bool neg]:Array Value).size=i:=by simp
  rw [e,Array.getElem?_setIfInBounds_self]
  simp [fg]
  by_cases h2:i < 32
  ·rw [if_pos h2,if_pos (by omega)]
  ·rw [if_neg h2,if_neg (by omega)]
 ·rw [Array.getElem?_setIfInBounds_ne (fun e=>h e.symm)]
  by_cases h0:j < 1
  ·rw [Array.getElem?_append_left (by simpa using h0),Array.getElem?_append_left (by simpa using h0)]
  ·rw [Array.getElem?_append_right (by simp;omega),Array.getElem?_append_right (by simp;omega)]
   rw [Array.getElem?_setIfInBounds_ne (by simp;omega)]
theorem IS {neg:Bool} {f:Nat->Nat} {N:Nat} (h:∀ i,i < 32->f i=dg N i):iB neg f=iA neg N:=by
 unfold iB iA mA
 rw [ba h]
theorem fT {A:Array Value} {z:Int} (h:IsI A z):ax Tryz.prog 139 [SV.c (.agg A)] (.int .i64 (sgn z)):=by
 obtain ⟨neg,N,hN,rfl,rfl⟩:=h.raw
 refine aj af ah KY _ _ rfl rfl fun w=>?_
 refine ⟨bt _ _,by decide,_,co,.inl ⟨_,ke hN,fun h1=>⟨iv ?_,trivial⟩,fun h1=>⟨_,dk,fun h2=>⟨iv ?_,trivial⟩,fun h2=>⟨iv ?_,trivial⟩⟩⟩⟩
 ·have h1:N=0:=ab h1
  subst h1
  cases neg<;>rfl
 ·have h1:¬ N=0:=ae h1
  have h2:neg=true:=h2
  subst h2
  unfold sgn zN;rw [if_pos rfl,if_pos (by omega)]
 ·have h1:¬ N=0:=ae h1
  have h2:neg=false:=h2
  subst h2
  unfold sgn zN;rw [if_neg Bool.false_ne_true,if_neg (by omega),if_neg (by omega)]
theorem Cl {A:Array Value} {z:Int} (h:IsI A z):ax Tryz.prog 141 [SV.c (.agg A)] (.agg (eA (-z))):=by
 obtain ⟨neg,N,hN,rfl,rfl⟩:=h.raw
 refine aj af ah KW _ _ rfl rfl fun w=>?_
 have e:zN (!neg) N=-zN neg N:=by cases neg<;>simp [zN]
 rw [<- e]
 exact ⟨bt _ _,_,dk,by decide,_,co,.inl ⟨_,eL _ hN,ak _,rfl,trivial⟩⟩
theorem Gl {A:Array Value} {z:Int} (h:IsI A z):ax Tryz.prog 265 [SV.c (.agg A)] (.agg (eA (z.natAbs:Int))):=by
 obtain ⟨neg,N,hN,rfl,rfl⟩:=h.raw
 refine aj af ah Jh _ _ rfl rfl fun w=>?_
 have e:((zN neg N).natAbs:Int)=zN false N:=by rw [bK];rfl
 rw [e]
 exact ⟨bt _ _,by decide,_,co,.inl ⟨_,eL _ hN,ak _,rfl,trivial⟩⟩
theorem Gc {A B:Array Value} {x y:Int} (hA:IsI A x) (hB:IsI B y):ax Tryz.prog 230 [SV.c (.agg A),SV.c (.agg B)] (.int .i64 (ga x y)):=by
 have s1:=fT hA
 have s2:=fT hB
 have hx:=hA.lt
 have hy:=hB.lt
 obtain ⟨a,N,hN,rfl,ex⟩:=hA.raw
 obtain ⟨b,M,hM,rfl,ey⟩:=hB.raw
 refine aj af ah JK _ _ rfl rfl fun w=>?_
 have eN:x.natAbs=N:=by rw [ex,bK]
 have eM:y.natAbs=M:=by rw [ey,bK]
 refine ⟨bt _ _,bt _ _,.inl ⟨_,s1,.inl ⟨_,s2,by kernel_rfl,fun h=>⟨?_,trivial⟩,fun h=>⟨fun h2=>⟨?_,trivial⟩,fun h2=>⟨by decide,_,co,by decide,_,co,.inl ⟨_,nw hN hM,iv ?_,trivial⟩⟩⟩⟩⟩⟩
 ·have h:=ab h
  rw [oD (by omega),if_pos h];rfl
 ·have h:=ae h
  have h2:=ab h2
  rw [oD (by omega),if_neg h];rfl
 ·have h:=ae h
  have h2:=ae h2
  rw [yV (by omega),eN,eM]
  have:=BD x
  rcases yR N M with h1 | h1 | h1<;>rw [h1]<;>exact i64_in (by omega)
theorem Fv {v:Nat} (h:0 < v):bl v=bl (v / 2)+1:=by
 rcases Nat.lt_or_ge v 2 with h2 | h2
 ·have:v=1:=by omega
  subst this;rfl
 ·rw [jw (s:=1) (by omega),Nat.pow_one];omega
theorem nD {A:Array Value} {z:Int} (h:IsI A z):ax Tryz.prog 142 [SV.c (.agg A)] (.int .i64 (bl z.natAbs)):=by
 obtain ⟨neg,N,hN,rfl,rfl⟩:=h.raw
 obtain ⟨n,hn,hu⟩:=dm hN
 rw [bK]
 refine aj af ah KV _ _ rfl rfl fun w=>?_
 refine ⟨bt _ _,by decide,_,co,.inl ⟨_,iK hu hN,fun h=>?_,fun h=>?_⟩⟩
 ·have h0:n=0:=by have:(n:Int)=0:=by simpa using h
                  omega
  subst h0
  have:N=0:=by have:=hu.1;simp at this;omega
  subst this
  exact ⟨rfl,trivial⟩
 ·have h0:0 < n:=by
    rcases Nat.eq_zero_or_pos n with e | e
    ·subst e;simp at h
    ·exact e
  have e1:IntKind.i64.wrap ((n:Int) - 1)=((n - 1:Nat):Int):=by rw [i64_in (by omega)];omega
  have e2:IntKind.i64.wrap (32*IntKind.i64.wrap ((n:Int) - 1))=((32*(n - 1):Nat):Int):=by rw [e1,i64_in (by omega)];omega
  obtain ⟨hb,hb0⟩:=qj hu h0
  have hb2:bl (dg N (n - 1))<=32:=kd (aQ _ _)
  have hg:(iA neg N)[1+(IntKind.i64.wrap ((n:Int) - 1)).toNat]? = some (.int .u32 ((dg N (n - 1):Nat):Int)):=by rw [e1];exact nn (by omega)
  refine ⟨by rw [e1];omega,by rw [e1];show ((n - 1:Nat):Int) < 32;omega,_,hg,?_⟩
  refine ⟨fun q f m=>∃ k:Nat,q < BB/\k+bl q=bl N/\f=[(4,SV.c (.int .i64 k)),(5,SV.c (.int .u32 q))]/\m=[],dg N (n - 1),⟨_,_,⟨32*(n - 1),aQ _ _,hb.symm,rfl,rfl⟩,⟨ag e2,rfl,trivial⟩,trivial,rfl⟩,?_⟩
  rintro q f m ⟨k,hq,hk,rfl,rfl⟩
  refine ⟨fun h1=>?_,fun h1=>?_⟩
  ·have h1:0 < q:=by have:=ab h1;omega
   have hh:=Fv h1
   have hbn:bl N<=1024:=by omega
   exact ⟨by decide,q / 2,_,_,by omega,⟨k+1,by omega,by omega,rfl,rfl⟩,⟨ag (by rw [i64_in (by omega)];rfl),ag (gO q 1),trivial⟩,trivial,rfl⟩
  ·have h1:q=0:=by have:=ae h1;omega
   subst h1
   have:bl 0=0:=rfl
   exact ⟨iv (by omega),trivial⟩
theorem ET (b:Bool) (f:Nat->Nat):(iB false f).setIfInBounds 0 (.bool b)=iB b f:=by
 unfold iB
 apply Array.ext_getElem?
 intro j
 by_cases h:j=0
 ·subst h
  rw [Array.getElem?_setIfInBounds_self,Array.getElem?_append_left (by simp)]
  simp
 ·rw [Array.getElem?_setIfInBounds_ne (fun e=>h e.symm),Array.getElem?_append_right (by simp;omega),Array.getElem?_append_right (by simp;omega)]
  rfl
theorem cE (n:Int) (h1 : -9223372036854775808<=n) (h2:n<=9223372036854775807):ax Tryz.prog 111 [SV.c (.int .i64 n)] (.agg (eA n)):=by
 refine db [4] af ah Lo _ _ rfl rfl fun w=>?_
 have hN:n.natAbs < 18446744073709551616:=by omega
 refine ⟨fun f m=>f=[(0,SV.c (.int .i64 n)),(2,SV.ptr 2 0),(3,SV.c (.int .u64 (n.natAbs:Nat)))]/\m=[(2,Blk.row 57 33 eS.zero)],⟨fun h=>?_,fun h=>?_⟩,?_⟩
 ·have hn:=ab h
  have e:IntKind.u64.wrap (0 - IntKind.u64.wrap n)=((n.natAbs:Nat):Int):=by simp only [dG];omega
  exact ⟨_,_,⟨rfl,rfl⟩,⟨rfl,rfl,ag e,trivial⟩,⟨rfl,trivial⟩,rfl⟩
 ·have hn:=ae h
  have e:IntKind.u64.wrap n=((n.natAbs:Nat):Int):=by simp only [dG];omega
  exact ⟨_,_,⟨rfl,rfl⟩,⟨rfl,rfl,ag e,trivial⟩,⟨rfl,trivial⟩,rfl⟩
 rintro f m ⟨rfl,rfl⟩
 have e0:IntKind.u32.wrap ((n.natAbs:Nat):Int)=((n.natAbs % 4294967296:Nat):Int):=by rw [bO];omega
 have e1:IntKind.u32.wrap (((n.natAbs:Nat):Int).fdiv (2 ^ min (Int.toNat 32) IntKind.u64.bits))=((n.natAbs / 4294967296:Nat):Int):=by
  rw [show ((n.natAbs:Nat):Int).fdiv (2 ^ min (Int.toNat 32) IntKind.u64.bits)=((n.natAbs / 4294967296:Nat):Int) from gO _ 32]
  exact dS (by omega)
 refine ⟨by decide,rfl,_,ET (decide (n < 0)) (fun _=>0),by decide,by decide,by decide,by decide,rfl,iB (decide (n < 0)) (fun k=>if k=0 then n.natAbs % 4294967296 else 0),?_,by decide,by decide,by decide,rfl,eA n,?_,?_⟩
 ·rw [e0]
  exact CI (decide (n < 0)) (fun _=>0) 0 (n.natAbs % 4294967296)
 ·rw [e1]
  refine Eq.trans (CI (decide (n < 0)) _ 1 (n.natAbs / 4294967296)) (IS fun i hi=>?_)
  by_cases h1:i=1
  ·subst h1
   rw [if_pos rfl]
   simp only [dg,aW,Nat.pow_one];omega
  ·rw [if_neg h1]
   by_cases h0:i=0
   ·subst h0
    rw [if_pos rfl]
    simp only [dg,aW,Nat.pow_zero,Nat.div_one]
   ·rw [if_neg h0,Dn hN (by omega)]
 ·exact ⟨ak _,rfl,trivial⟩
theorem xI {A:Array Value} {z:Int} (hA:IsI A z):ax Tryz.prog 136 [SV.c (.agg A)] (cn z):=by
 have hzl:=hA.lt
 obtain ⟨neg,N,hN,rfl,rfl⟩:=hA.raw
 obtain ⟨n,hn,hu⟩:=dm hN
 have hab:=bK neg N
 have hlim:∀ i,i < 32->(eA (zN neg N))[1+i]? = some (.int .u32 (dg N i:Nat)):=fun i hi=>by unfold eA;rw [hab];exact nn hi
 have hmag:(eA (zN neg N)).extract 1 33=mA N:=by unfold eA;rw [hab];exact co
 have hneg:(eA (zN neg N))[0]? = some (.bool (decide (zN neg N < 0))):=dk
 have hc:=eL neg hN
 generalize zN neg N=z at *
 refine aj af ah K3 _ _ rfl rfl fun w=>?_
 have h64:(n:Int) > 2↔¬ N < 18446744073709551616:=by
  constructor
  ·intro h h2
   have h3:=hu.2 (by omega)
   have h4:BB ^ 2<=BB ^ (n - 1):=Nat.pow_le_pow_right bz (by omega)
   rw [show BB ^ 2=18446744073709551616 from by decide] at h4
   omega
  ·intro h
   rcases Nat.lt_or_ge 2 n with h2 | h2
   ·omega
   ·exfalso
    have h4:BB ^ n<=BB ^ 2:=Nat.pow_le_pow_right bz h2
    rw [show BB ^ 2=18446744073709551616 from by decide] at h4
    have:=hu.1
    omega
 refine ⟨bt _ _,_,dk,by decide,_,co,.inl ⟨_,hc,ak _,by decide,_,hmag,.inl ⟨_,iK hu hN,fun h=>?_,fun h=>?_⟩⟩⟩
 ·have h:=h64.1 (ab h)
  refine ⟨?_,trivial⟩
  rw [cn,if_neg (by omega)];rfl
 ·have h:N < 18446744073709551616:=by
    have:=ae h
    rw [h64] at this;omega
  have eu:=z7 (aQ N 1) (aQ N 0) rfl rfl
  have ed:dg N 1*BB+dg N 0=N:=by
   simp only [dg,aW,Nat.pow_one,Nat.pow_zero,Nat.div_one];omega
  rw [ed] at eu
  have g1:=hlim 1 (by omega)
  have g0:=hlim 0 (by omega)
  refine ⟨by decide,by decide,_,g1,by decide,by decide,by decide,_,g0,_,hneg,fun h1=>⟨fun h2=>?_,fun h2=>⟨_,hneg,?_⟩⟩,fun h1=>⟨nofun,fun _=>⟨_,hneg,?_⟩⟩⟩
  ·rw [eu] at h2
   have h1:=ae (bnt h1)
   have h2:=ab h2
   refine ⟨?_,trivial⟩
   rw [cn,if_pos (by omega)]
   refine jc (iv ?_) rfl
   rw [eu,IntKind.wrap_i64]
   omega
  ·rw [eu] at h2
   have h1:=ae (bnt h1)
   have h2:=ae h2
   refine ⟨fun h3=>absurd (ab h3) h1,fun _=>⟨nofun,fun _=>⟨?_,trivial⟩⟩⟩
   rw [cn,if_neg (by omega)];rfl
  ·have h1:=ab (bnf h1)
   refine ⟨fun _=>⟨fun h2=>⟨?_,trivial⟩,fun h2=>⟨?_,trivial⟩⟩,fun h3=>absurd h1 (ae h3)⟩
   ·rw [eu] at h2
    have h2:=ab h2
    rw [cn,if_pos (by omega)]
    refine jc (iv ?_) rfl
    rw [eu,dG,IntKind.wrap_i64]
    omega
   ·rw [eu] at h2
    have h2:=ae h2
    rw [cn,if_neg (by omega)];rfl
theorem DM {A B:Array Value} {x y:Int} (hA:IsI A x) (hB:IsI B y):ax Tryz.prog 228 [SV.c (.agg A),SV.c (.agg B)] (eY (x+y)):=by
 have hx:=hA.lt
 have hy:=hB.lt
 obtain ⟨a,N,hN,rfl,ex⟩:=hA.raw
 obtain ⟨b,M,hM,rfl,ey⟩:=hB.raw
 have eN:x.natAbs=N:=by rw [ex,bK]
 have eM:y.natAbs=M:=by rw [ey,bK]
 have c1:=eL a hN
 have c2:=eL b hM
 rw [<- ex] at c1
 rw [<- ey] at c2
 refine db [9] af ah JM _ _ rfl rfl fun w=>?_
 have mag:∀ z:Int,(eA z).extract 1 33=mA z.natAbs:=fun z=>co
 have ng:∀ z:Int,(eA z)[0]? = some (.bool (decide (z < 0))):=fun z=>dk
 refine ⟨bt _ _,bt _ _,_,dk,by decide,_,co,.inl ⟨_,c1,_,dk,by decide,_,co,.inl ⟨_,c2,ak _,ak _,by kernel_rfl,_,ng x,_,ng y,fun h=>?_,fun h=>?_⟩⟩⟩
 ·have h:decide (x < 0)=decide (y < 0):=by simpa using h
  refine ⟨by decide,_,mag x,by decide,_,mag y,.inl ⟨_,FR hx hy,aB _,fun h2=>?_,fun h2=>?_⟩⟩
  ·have h2:¬ (x.natAbs+y.natAbs < BB ^ 32):=ae (bnt h2)
   refine ⟨eS.zero,rfl,ak 0,?_,trivial⟩
   rw [eY,if_neg (by rw [(ip h).1];exact h2)];rfl
  ·have h2:x.natAbs+y.natAbs < BB ^ 32:=ab (bnf h2)
   have cc:=eL (decide (x < 0)) h2
   rw [(ip h).2] at cc
   rw [Nat.mod_eq_of_lt h2]
   refine ⟨_,ng x,.inl ⟨_,cc,ak _,?_,trivial⟩⟩
   rw [eY,if_pos (by rw [(ip h).1];exact h2)];rfl
 ·have hne:decide (x < 0)=!decide (y < 0):=pr (by simpa using h)
  refine ⟨fun f mm=>∃ u v:Int,v.natAbs<=u.natAbs/\u.natAbs < BB ^ 32/\decide (u < 0)=(!decide (v < 0))/\u+v=x+y/\f=[(2,SV.ptr 2 0),(3,SV.ptr 3 0),(4,SV.ptr 4 0)]/\mm=[(2,Blk.row 57 33 (eA u)),(3,Blk.row 57 33 (eA v)),(4,Blk.row 57 33 eS.zero)],⟨by decide,_,mag x,by decide,_,mag y,.inl ⟨_,nw hx hy,fun h2=>?_,fun h2=>?_⟩⟩,?_⟩
  ·rw [ju] at h2
   have hlt:=ab h2
   exact ⟨ak _,ak _,_,_,⟨y,x,by omega,hy,by rw [hne];simp,Int.add_comm _ _,rfl,rfl⟩,⟨rfl,rfl,rfl,trivial⟩,⟨rfl,rfl,rfl,trivial⟩,rfl⟩
  ·rw [ju] at h2
   have hlt:=ae h2
   exact ⟨_,_,⟨x,y,by omega,hx,hne,rfl,rfl,rfl⟩,⟨rfl,rfl,rfl,trivial⟩,⟨rfl,rfl,rfl,trivial⟩,rfl⟩
  rintro f mm ⟨u,v,huv,hu,hs,e,rfl,rfl⟩
  have hd:=fJ hu (Nat.lt_of_le_of_lt huv hu)
  rw [vv hu huv] at hd
  have hl:u.natAbs - v.natAbs < BB ^ 32:=Nat.lt_of_le_of_lt (Nat.sub_le _ _) hu
  have cc:=eL (decide (u < 0)) hl
  rw [(oG hs).2 (by omega),e] at cc
  have hb:(x+y).natAbs < BB ^ 32:=by rw [<- e,<- (oG hs).2 (by omega),bK];exact hl
  refine ⟨_,ng u,by decide,_,mag u,by decide,_,mag v,.inl ⟨_,hd,.inl ⟨_,cc,ak _,by kernel_rfl,?_,trivial⟩⟩⟩
  rw [eY,if_pos hb];rfl
theorem yj {A B:Array Value} {x y:Int} (hA:IsI A x) (hB:IsI B y):ax Tryz.prog 134 [SV.c (.agg A),SV.c (.agg B)] (eY (x*y)):=by
 obtain ⟨a,N,hN,rfl,rfl⟩:=hA.raw
 obtain ⟨b,M,hM,rfl,rfl⟩:=hB.raw
 obtain ⟨n,hn,hu⟩:=dm hN
 obtain ⟨m,hm,hv⟩:=dm hM
 have ez:zN (a != b) (N*M)=zN a N*zN b M:=by
  cases a<;>cases b<;>simp [zN,Int.neg_mul,Int.mul_neg]
 have eab:(zN a N*zN b M).natAbs=N*M:=by rw [<- ez,bK]
 refine aj af ah K5 _ _ rfl rfl fun w=>?_
 refine ⟨bt _ _,bt _ _,by decide,_,co,.inl ⟨_,iK hu hN,by decide,_,co,.inl ⟨_,iK hv hM,by kernel_rfl,?_⟩⟩⟩
 refine ⟨fun q f mm=>∃ (i:Nat) (F:Nat->Nat),q=n - i/\i<=n/\MulO N M m i F/\f=[(2,SV.ptr 2 0),(3,SV.ptr 3 0),(4,SV.ptr 4 0),(6,SV.ptr 6 0),(7,SV.c (.int .i64 n)),(8,SV.c (.int .i64 m)),(9,SV.c (.int .i64 i))]/\mm=[(2,Blk.row 57 33 (iA a N)),(3,Blk.row 57 33 (iA b M)),(4,Blk.row 57 33 eS.zero),(6,Blk.row 222 64 (lA F 64))],n,⟨_,_,⟨0,fun _=>0,rfl,Nat.zero_le _,MulO.start N M m,rfl,rfl⟩,⟨rfl,rfl,rfl,rfl,rfl,rfl,rfl,trivial⟩,⟨rfl,rfl,rfl,rfl,trivial⟩,rfl⟩,?_⟩
 rintro q f mm ⟨i,F,rfl,hi,hF,rfl,rfl⟩
 refine ⟨fun h=>?_,fun h=>?_⟩
 ·have hin:i < n:=by have:=ab h;omega
  refine ⟨fun q f mm=>∃ (j c:Nat) (G:Nat->Nat),q=m - j/\j<=m/\MulI N M m i j F G c/\f=[(2,SV.ptr 2 0),(3,SV.ptr 3 0),(4,SV.ptr 4 0),(6,SV.ptr 6 0),(7,SV.c (.int .i64 n)),(8,SV.c (.int .i64 m)),(9,SV.c (.int .i64 i)),(10,SV.c (.int .u64 c)),(11,SV.c (.int .i64 j))]/\mm=[(2,Blk.row 57 33 (iA a N)),(3,Blk.row 57 33 (iA b M)),(4,Blk.row 57 33 eS.zero),(6,Blk.row 222 64 (lA G 64))],m,⟨_,_,⟨0,0,F,rfl,Nat.zero_le _,hF.row,rfl,rfl⟩,⟨rfl,rfl,rfl,rfl,rfl,rfl,rfl,rfl,rfl,trivial⟩,⟨rfl,rfl,rfl,rfl,trivial⟩,rfl⟩,?_⟩
  rintro q f mm ⟨j,c,G,rfl,hj,hG,rfl,rfl⟩
  refine ⟨fun h2=>?_,fun h2=>?_⟩
  ·have hjm:j < m:=by have:=ab h2;omega
   have e1:IntKind.i64.wrap ((i:Int)+j)=((i+j:Nat):Int):=by rw [i64_in (by omega)];omega
   have gN:(iA a N)[1+i]? = _:=nn (show i < 32 by omega)
   have gM:(iA b M)[1+j]? = _:=nn (show j < 32 by omega)
   have gC:(lA G 64)[(IntKind.i64.wrap ((i:Int)+j)).toNat]? = some (.int .u32 (G (i+j):Nat)):=by rw [e1];exact bL G (by omega)
   have eM:=FW (aQ N i) (aQ M j) (hG.lt (i+j)) hG.carry
   have hlt:=nh (aQ N i) (aQ M j) (hG.lt (i+j)) hG.carry
   refine ⟨by omega,by show (i:Int) < 32;omega,_,gN,by omega,by show (j:Int) < 32;omega,_,gM,by rw [e1];omega,by rw [e1];show ((i+j:Nat):Int) < 64;omega,_,gC,by kernel_rfl,by rw [e1];omega,by rw [e1];show ((i+j:Nat):Int) < 64;omega,by rw [e1];show i+j < 64;omega,rfl,_,cy e1 (v:=(dg N i*dg M j+G (i+j)+c) % BB) (by rw [eM,bO,aW];rfl),by decide,?_⟩
   refine ⟨m - (j+1),_,_,by omega,⟨j+1,_,_,rfl,by omega,hG.step,rfl,rfl⟩,⟨rfl,rfl,rfl,rfl,rfl,rfl,rfl,ag (by rw [eM];exact xM _),ag (by rw [i64_in (by omega)];rfl),trivial⟩,⟨rfl,rfl,rfl,rfl,trivial⟩,rfl⟩
  ·have:j=m:=by have:=ae h2;omega
   subst this
   have e1:IntKind.i64.wrap ((i:Int)+j)=((i+j:Nat):Int):=by rw [i64_in (by omega)];omega
   have hcc:=hG.carry
   rw [aW] at hcc
   refine ⟨by rw [e1];omega,by rw [e1];show ((i+j:Nat):Int) < 64;omega,by rw [e1];show i+j < 64;omega,rfl,_,cy e1 (v:=c) (dS (by omega)),?_⟩
   exact ⟨n - (i+1),_,_,by omega,⟨i+1,_,rfl,by omega,hG.done hF hv.1,rfl,rfl⟩,⟨rfl,rfl,rfl,rfl,rfl,rfl,ag (by rw [i64_in (by omega)];rfl),trivial⟩,⟨rfl,rfl,rfl,rfl,trivial⟩,rfl⟩
 ·have:i=n:=by have:=ae h;omega
  subst this
  obtain ⟨h1,h2,h3⟩:=yl hF.lt (hF.full hu.1 (by omega))
  refine ⟨fun q f mm=>∃ (k:Nat) (g:Nat->Nat),q=32 - k/\k<=32/\(∀ j,j < k->dg (N*M / BB ^ 32) j=0/\g j=dg (N*M % BB ^ 32) j)/\f=[(2,SV.ptr 2 0),(3,SV.ptr 3 0),(4,SV.ptr 4 0),(6,SV.ptr 6 0),(13,SV.ptr 13 0),(14,SV.c (.int .i64 k))]/\mm=[(2,Blk.row 57 33 (iA a N)),(3,Blk.row 57 33 (iA b M)),(4,Blk.row 57 33 eS.zero),(6,Blk.row 222 64 (lA F 64)),(13,Blk.row 55 32 (lA g 32))],32,⟨_,_,⟨0,fun _=>0,rfl,Nat.zero_le _,fun j hj=>absurd hj (by omega),rfl,rfl⟩,⟨rfl,rfl,rfl,rfl,rfl,rfl,trivial⟩,⟨rfl,rfl,rfl,rfl,rfl,trivial⟩,rfl⟩,?_⟩
  rintro q f mm ⟨k,g,rfl,hk,hg,rfl,rfl⟩
  refine ⟨fun h4=>?_,fun h4=>?_⟩
  ·have h4:k < 32:=by have:=ab h4;omega
   have e1:IntKind.i64.wrap (32+(k:Int))=((32+k:Nat):Int):=by rw [i64_in (by omega)];omega
   have gH:(lA F 64)[(IntKind.i64.wrap (32+(k:Int))).toNat]? = some (.int .u32 (F (32+k):Nat)):=by rw [e1];exact bL F (by omega)
   have gL:(lA F 64)[k]? = some (.int .u32 (F k:Nat)):=bL F (by omega)
   refine ⟨by rw [e1];omega,by rw [e1];show ((32+k:Nat):Int) < 64;omega,_,gH,fun h5=>?_,fun h5=>?_⟩
   ·have h5:F (32+k)≠0:=by intro e;rw [e] at h5;simp at h5
    rw [h2 k h4] at h5
    have:¬ N*M < BB ^ 32:=by
     intro hl
     rw [Nat.div_eq_of_lt hl,sY] at h5
     exact h5 rfl
    refine ⟨eS.zero,rfl,ak 0,?_,trivial⟩
    rw [eY,if_neg (by rw [eab];exact this)];rfl
   ·have h5:F (32+k)=0:=by
      have:((F (32+k):Nat):Int)=0:=by simpa using h5
      omega
    rw [h2 k h4] at h5
    refine ⟨by omega,by show (k:Int) < 64;omega,_,gL,by omega,by show (k:Int) < 32;omega,by show k < 32;omega,rfl,_,cy (i:=k) (x:=(k:Int)) rfl rfl,?_⟩
    refine ⟨32 - (k+1),_,_,by omega,⟨k+1,_,rfl,by omega,fun j hj=>?_,rfl,rfl⟩,⟨rfl,rfl,rfl,rfl,rfl,ag (by rw [i64_in (by omega)];rfl),trivial⟩,⟨rfl,rfl,rfl,rfl,rfl,trivial⟩,rfl⟩
    by_cases e:j=k
    ·subst e
     exact ⟨h5,by rw [if_pos rfl];exact h1 j h4⟩
    ·rw [if_neg e];exact hg j (by omega)
  ·have h4:k=32:=by have:=ae h4;omega
   subst h4
   have hz:N*M / BB ^ 32=0:=Do (n:=32) h3 (bq 32) fun j hj=>by rw [(hg j hj).1,sY]
   have hl:N*M < BB ^ 32:=(Nat.div_eq_zero_iff_lt (bq 32)).1 hz
   have hA:lA g 32=mA (N*M):=ba fun j hj=>by rw [(hg j hj).2,Nat.mod_eq_of_lt hl]
   rw [hA]
   have cc:=eL (a != b) hl
   rw [ez] at cc
   refine ⟨_,dk,_,dk,.inl ⟨_,cc,ak _,?_,trivial⟩⟩
   rw [eY,if_pos (by rw [eab];exact hl)];rfl
theorem xi {T j:Nat} (h:j < 32):dg (T % BB ^ 32) j=dg T j:=by
 rw [<- qX];exact rA (fun j _=>aQ T j) h
theorem Fj {N b:Nat} (hN:N < BB ^ 32) (hb:b<=1):((dg N 31 / 2147483648:Nat):Int)=1↔¬ 2*N+b < BB ^ 32:=by
 have h:=rB N b 32 hb
 rw [cg hN (Nat.le_refl 32),if_neg (by omega)] at h
 simp only [Nat.zero_mul,Nat.zero_mod,Nat.zero_or] at h
 rw [show 32 - 1=31 from rfl] at h
 rw [<- h]
 unfold dg
 have hP:=bq 32
 have hlt:(2*N+b) / BB ^ 32 < 2:=by
  rw [Nat.div_lt_iff_lt_mul hP];omega
 have hlt2:(2*N+b) / BB ^ 32 < BB:=Nat.lt_trans hlt (by decide)
 rw [Nat.mod_eq_of_lt hlt2]
 constructor
 ·intro h1 h2
  rw [Nat.div_eq_of_lt h2] at h1;simp at h1
 ·intro h1
  have:1<=(2*N+b) / BB ^ 32:=(Nat.le_div_iff_mul_le hP).2 (by omega)
  omega
theorem Dg {N b:Nat} (hN:N < BB ^ 32) (hb:b<=1):ax Tryz.prog 224 [SV.c (.agg (mA N)),SV.c (.int .u32 (b:Nat))] (.tuple #[.agg (mA ((2*N+b) % BB ^ 32)),.bool (!decide (2*N+b < BB ^ 32))]):=by
 refine aj af ah JQ _ _ rfl rfl fun w=>?_
 refine ⟨bY _,fun q f m=>∃ (k:Nat) (g:Nat->Nat),q=32 - k/\k<=32/\(∀ j,j < 32->g j=if j < k then dg (2*N+b) j else dg N j)/\f=[(1,SV.c (.int .u32 (if k=0 then b else dg N (k - 1) / 2147483648:Nat))),(2,SV.ptr 2 0),(4,SV.ptr 4 0),(6,SV.c (.int .i64 k))]/\m=[(2,Blk.row 55 32 (lA g 32)),(4,Blk.row 55 32 (lA (fun _=>0) 32))],32,⟨_,_,⟨0,dg N,rfl,Nat.zero_le _,fun j hj=>by rw [if_neg (by omega)],rfl,rfl⟩,⟨rfl,rfl,rfl,rfl,trivial⟩,⟨rfl,rfl,trivial⟩,rfl⟩,?_⟩
 rintro q f m ⟨k,g,rfl,hk,hg,rfl,rfl⟩
 refine ⟨fun h=>?_,fun h=>?_⟩
 ·have h1:k < 32:=by have:=ab h;omega
  have hx:=aQ N k
  have gk:g k=dg N k:=by rw [hg k h1,if_neg (by omega)]
  have gx:(lA g 32)[k]? = some (.int .u32 (dg N k:Nat)):=by rw [bL g h1,gk]
  rw [aW] at hx
  have hbit:(if k=0 then b else dg N (k - 1) / 2147483648) < 4294967296:=by
   split
   ·omega
   ·have:=aQ N (k - 1);rw [aW] at this;omega
  have es:IntKind.u32.wrap ((dg N k:Nat)*2 ^ min (Int.toNat 1) IntKind.u32.bits)=((dg N k*2 % 4294967296:Nat):Int):=by
   rw [bO];show ((dg N k:Nat):Int)*2 % 4294967296=_;omega
  have ev:=zH (A:=dg N k*2 % 4294967296) (B:=if k=0 then b else dg N (k - 1) / 2147483648) (Nat.mod_lt _ (by omega)) hbit
  rw [<- es] at ev
  refine ⟨by omega,by show (k:Int) < 32;omega,_,gx,by decide,by omega,by show (k:Int) < 32;omega,_,gx,by decide,by omega,by show (k:Int) < 32;omega,by show k < 32;omega,rfl,_,cy (i:=k) (x:=(k:Int)) rfl ev,by kernel_rfl,?_⟩
  refine ⟨32 - (k+1),_,_,by omega,⟨k+1,_,rfl,by omega,fun j hj=>?_,rfl,rfl⟩,⟨ag (by rw [if_neg (by omega),show k+1 - 1=k by omega];exact gO _ 31),rfl,rfl,ag (by rw [i64_in (by omega)];rfl),trivial⟩,⟨rfl,rfl,trivial⟩,rfl⟩
  by_cases e:j=k
  ·subst e
   rw [if_pos rfl,if_pos (show j < j+1 by omega),rB N b j hb]
  ·rw [if_neg e,hg j hj]
   by_cases e2:j < k
   ·rw [if_pos e2,if_pos (by omega)]
   ·rw [if_neg e2,if_neg (by omega)]
 ·have h1:k=32:=by have:=ae h;omega
  subst h1
  have hA:lA g 32=mA ((2*N+b) % BB ^ 32):=ba fun j hj=>by
   rw [hg j hj,if_pos hj]
   exact (xi hj).symm
  refine ⟨dQ _ _,jc (by rw [hA]) (bv ?_),trivial⟩
  rw [Bool.eq_iff_iff]
  simp only [if_neg (show ¬ 32=0 by omega),show 32 - 1=31 from rfl,beq_iff_eq,Bool.not_eq_true',decide_eq_false_iff_not]
  exact Fj hN hb
theorem oR (a b:Nat):Int.tmod (a:Int) (b:Int)=((a % b:Nat):Int):=(Int.ofNat_tmod a b).symm
theorem oS (a b:Nat):Int.tdiv (a:Int) (b:Int)=((a / b:Nat):Int):=(Int.ofNat_tdiv a b).symm
theorem zv {N n:Nat} (hN:N < BB ^ 32) (hn:n<=1024):ax Tryz.prog 223 [SV.c (.agg (mA N)),SV.c (.int .i64 (n:Nat))] (.agg (mA (N / 2 ^ n))):=by
 refine aj af ah JR _ _ rfl rfl fun w=>?_
 obtain ⟨k,s,hs,rfl⟩:∃ k s,s < 32/\n=32*k+s:=⟨n / 32,n % 32,Nat.mod_lt _ (by omega),by omega⟩
 have ek:IntKind.i64.wrap (Int.tdiv ((32*k+s:Nat):Int) 32)=(k:Nat):=by
  have:=oS (32*k+s) 32
  rw [show ((32:Nat):Int)=32 from rfl] at this
  rw [this,show (32*k+s) / 32=k by omega,i64_in (by omega)]
 have es:IntKind.u64.wrap (Int.tmod ((32*k+s:Nat):Int) 32)=(s:Nat):=by
  have:=oR (32*k+s) 32
  rw [show ((32:Nat):Int)=32 from rfl] at this
  rw [this,show (32*k+s) % 32=s by omega,cm (by omega)]
 refine ⟨bY _,by decide,by decide,fun q f m=>∃ (i:Nat) (g:Nat->Nat),q=32 - (i+k)/\i+k<=32/\(∀ j,j < 32->g j=if j < i then dg (N / 2 ^ (32*k+s)) j else 0)/\f=[(2,SV.ptr 2 0),(4,SV.ptr 4 0),(5,SV.ptr 5 0),(6,SV.c (.int .i64 k)),(7,SV.c (.int .u64 s)),(8,SV.c (.int .i64 i))]/\m=[(2,Blk.row 55 32 (mA N)),(4,Blk.row 55 32 (lA (fun _=>0) 32)),(5,Blk.row 55 32 (lA g 32))],32 - (0+k),⟨_,_,⟨0,fun _=>0,rfl,by omega,fun j hj=>by rw [if_neg (by omega)],rfl,rfl⟩,⟨rfl,rfl,rfl,ag ek,ag es,rfl,trivial⟩,⟨rfl,rfl,rfl,trivial⟩,rfl⟩,?_⟩
 rintro q f m ⟨i,g,rfl,hi,hg,rfl,rfl⟩
 have e1:IntKind.i64.wrap ((i:Int)+k)=((i+k:Nat):Int):=by rw [i64_in (by omega)];omega
 refine ⟨fun h=>?_,fun h=>?_⟩
 ·have h1:i+k < 32:=by have:=ab h;rw [e1] at this;omega
  have gx:(mA N)[(IntKind.i64.wrap ((i:Int)+k)).toNat]? = some (.int .u32 (dg N (i+k):Nat)):=by rw [e1];exact bo h1
  have hsh:=xf N k s i hs
  have hx:=aQ N (i+k)
  have hy:=aQ N (i+k+1)
  rw [aW] at hx hy
  have esh:((dg N (i+k):Nat):Int).fdiv (2 ^ min (Int.toNat (s:Int)) IntKind.u32.bits)=((dg N (i+k) / 2 ^ s:Nat):Int):=ls _ s (by omega) rfl
  have e2:IntKind.i64.wrap (IntKind.i64.wrap ((i:Int)+k)+1)=((i+k+1:Nat):Int):=by rw [e1,i64_in (by omega)];omega
  refine ⟨by rw [e1];omega,by rw [e1];show ((i+k:Nat):Int) < 32;omega,_,gx,by omega,by omega,by show (i:Int) < 32;omega,by show i < 32;omega,rfl,_,cy (i:=i) (x:=(i:Int)) rfl esh,fun h2=>⟨fun h3=>?_,fun h3=>?_⟩,fun h2=>⟨nofun,fun _=>?_⟩⟩
  ·have h2:0 < s:=by have:=ab h2;omega
   have h3:i+k+1 < 32:=by have:=ab h3;rw [e2] at this;omega
   have gz:(mA N)[(IntKind.i64.wrap (IntKind.i64.wrap ((i:Int)+k)+1)).toNat]? = some (.int .u32 (dg N (i+k+1):Nat)):=by rw [e2];exact bo h3
   have ge:(lA (fun x=>if x=i then dg N (i+k) / 2 ^ s else g x) 32)[i]? = some (.int .u32 (dg N (i+k) / 2 ^ s:Nat)):=by rw [bL _ (by omega),if_pos rfl]
   have e5:IntKind.u64.wrap (32 - (s:Int))=((32 - s:Nat):Int):=by rw [cm (by omega)];omega
   have e6:IntKind.u32.wrap (((dg N (i+k+1):Nat):Int)*2 ^ min (Int.toNat (IntKind.u64.wrap (32 - (s:Int)))) IntKind.u32.bits)=((dg N (i+k+1)*2 ^ (32 - s) % 4294967296:Nat):Int):=by
    rw [e5];exact lu _ (32 - s) (by omega)
   have hd1:dg N (i+k) / 2 ^ s < 4294967296:=Nat.lt_of_le_of_lt (Nat.div_le_self _ _) hx
   have ev:=zH (A:=dg N (i+k) / 2 ^ s) (B:=dg N (i+k+1)*2 ^ (32 - s) % 4294967296) hd1 (Nat.mod_lt _ (by omega))
   rw [<- e6] at ev
   refine ⟨by omega,by show (i:Int) < 32;omega,_,ge,by rw [e2];omega,by rw [e2];show ((i+k+1:Nat):Int) < 32;omega,_,gz,by rw [e5];omega,by omega,by show (i:Int) < 32;omega,by show i < 32;omega,rfl,_,cy (i:=i) (x:=(i:Int)) rfl ev,by kernel_rfl,?_⟩
   refine ⟨32 - (i+1+k),_,_,by omega,⟨i+1,_,rfl,by omega,fun j hj=>?_,rfl,rfl⟩,⟨rfl,rfl,rfl,rfl,rfl,ag (by rw [i64_in (by omega)];rfl),trivial⟩,⟨rfl,rfl,rfl,trivial⟩,rfl⟩
   by_cases e:j=i
   ·subst e
    rw [if_pos rfl,if_pos (show j < j+1 by omega),hsh,if_pos h2]
   ·rw [if_neg e,if_neg e,hg j hj]
    by_cases e2:j < i
    ·rw [if_pos e2,if_pos (show j < i+1 by omega)]
    ·rw [if_neg e2,if_neg (show ¬ j < i+1 by omega)]
  ·have h2:0 < s:=by have:=ab h2;omega
   have h3:¬ i+k+1 < 32:=by have:=ae h3;rw [e2] at this;omega
   refine ⟨32 - (i+1+k),_,_,by omega,⟨i+1,_,rfl,by omega,fun j hj=>?_,rfl,rfl⟩,⟨rfl,rfl,rfl,rfl,rfl,ag (by rw [i64_in (by omega)];rfl),trivial⟩,⟨rfl,rfl,rfl,trivial⟩,rfl⟩
   by_cases e:j=i
   ·subst e
    rw [if_pos rfl,if_pos (show j < j+1 by omega),hsh,if_pos h2,cg hN (show 32<=j+k+1 by omega)];simp
   ·rw [if_neg e,hg j hj]
    by_cases e2:j < i
    ·rw [if_pos e2,if_pos (show j < i+1 by omega)]
    ·rw [if_neg e2,if_neg (show ¬ j < i+1 by omega)]
  ·have h2:s=0:=by have:=ae h2;omega
   refine ⟨32 - (i+1+k),_,_,by omega,⟨i+1,_,rfl,by omega,fun j hj=>?_,rfl,rfl⟩,⟨rfl,rfl,rfl,rfl,rfl,ag (by rw [i64_in (by omega)];rfl),trivial⟩,⟨rfl,rfl,rfl,trivial⟩,rfl⟩
   by_cases e:j=i
   ·subst e
    rw [if_pos rfl,if_pos (show j < j+1 by omega),hsh,if_neg (show ¬ 0 < s by omega)];simp
   ·rw [if_neg e,hg j hj]
    by_cases e2:j < i
    ·rw [if_pos e2,if_pos (show j < i+1 by omega)]
    ·rw [if_neg e2,if_neg (show ¬ j < i+1 by omega)]
 ·have h1:¬ i+k < 32:=by have:=ae h;rw [e1] at this;omega
  have hA:lA g 32=mA (N / 2 ^ (32*k+s)):=ba fun j hj=>by
   rw [hg j hj]
   by_cases e:j < i
   ·rw [if_pos e]
   ·rw [if_neg e,xf N k s j hs,cg hN (show 32<=j+k by omega),cg hN (show 32<=j+k+1 by omega)]
    simp
  exact ⟨dQ _ _,by rw [hA];rfl,trivial⟩
theorem FY {N:Nat} (hN:N < 18446744073709551616):ax Tryz.prog 222 [SV.c (.agg (mA N))] (.int .u64 (N:Nat)):=by
 refine aj af ah JS _ _ rfl rfl fun w=>?_
 have eu:=z7 (aQ N 1) (aQ N 0) rfl rfl
 have ed:dg N 1*BB+dg N 0=N:=by
  simp only [dg,aW,Nat.pow_one,Nat.pow_zero,Nat.div_one];omega
 rw [ed] at eu
 have g1:(mA N)[1]? = some (.int .u32 (dg N 1:Nat)):=bo (by omega)
 have g0:(mA N)[0]? = some (.int .u32 (dg N 0:Nat)):=bo (by omega)
 exact ⟨bY _,by decide,by decide,_,g1,by decide,by decide,by decide,_,g0,by rw [eu];rfl,trivial⟩
theorem xL {N:Nat} (hN:N < 18446744073709551616):ax Tryz.prog 221 [SV.c (.int .u64 (N:Nat))] (.agg (mA N)):=by
 refine aj af ah JT _ _ rfl rfl fun w=>?_
 have e0:IntKind.u32.wrap ((N:Nat):Int)=((N % 4294967296:Nat):Int):=by rw [bO];omega
 have e1:IntKind.u32.wrap (((N:Nat):Int).fdiv (2 ^ min (Int.toNat 32) IntKind.u64.bits))=((N / 4294967296:Nat):Int):=by
  rw [show ((N:Nat):Int).fdiv (2 ^ min (Int.toNat 32) IntKind.u64.bits)=((N / 4294967296:Nat):Int) from gO _ 32]
  exact dS (by omega)
 have hA:lA (fun k=>if k=1 then N / 4294967296 else (fun k=>if k=0 then N % 4294967296 else (fun _=>0) k) k) 32=mA N:=ba fun i hi=>by
  by_cases h1:i=1
  ·subst h1
   rw [if_pos rfl]
   simp only [dg,aW,Nat.pow_one];omega
  ·rw [if_neg h1]
   by_cases h0:i=0
   ·subst h0
    simp only [if_true]
    simp only [dg,aW,Nat.pow_zero,Nat.div_one]
   ·simp only [if_neg h0]
    rw [Dn hN (by omega)]
 refine ⟨by decide,by decide,by decide,by decide,rfl,_,cy (G:=fun _=>0) (n:=32) (i:=0) (x:=((0:Nat):Int)) rfl e0,by decide,by decide,by decide,rfl,_,cy (i:=1) (x:=((1:Nat):Int)) rfl e1,?_⟩
 exact ⟨dQ _ _,by rw [hA];rfl,trivial⟩
theorem Lx {A B:Nat} (hA:A < 4294967296) (hB:B < 4294967296):IntKind.u32.wrap (((BitVec.ofInt IntKind.u32.bits (A:Int) &&& BitVec.ofInt IntKind.u32.bits (B:Int)).toNat:Nat):Int)=((A &&& B:Nat):Int):=by
 have h:A &&& B < 4294967296:=Nat.and_lt_two_pow (n:=32) _ hB
 rw [BitVec.toNat_and,BitVec.ofInt_natCast,BitVec.ofInt_natCast,BitVec.toNat_ofNat,BitVec.toNat_ofNat]
 show IntKind.u32.wrap (((A % 4294967296 &&& B % 4294967296:Nat)):Int)=_
 rw [Nat.mod_eq_of_lt hA,Nat.mod_eq_of_lt hB,dS (by omega)]
theorem xF {x:Nat} (h:x < 18446744073709551616):IntKind.u64.wrap (x:Int)=x:=cm ⟨Int.natCast_nonneg x,by omega⟩
theorem EU {x:Nat} (h:x<=9223372036854775807):IntKind.i64.wrap (x:Int)=x:=i64_in ⟨by omega,by omega⟩
theorem FM {N n:Nat} (hu:IsUsed N n):n<=2↔N < 18446744073709551616:=by
 have e:BB ^ 2=18446744073709551616:=by decide
 constructor
 ·intro h
  have h4:BB ^ n<=BB ^ 2:=Nat.pow_le_pow_right bz h
  rw [e] at h4
  have:=hu.1
  omega
 ·intro h
  rcases Nat.lt_or_ge 2 n with h2 | h2
  ·have h3:=hu.2 (by omega)
   have h4:BB ^ 2<=BB ^ (n - 1):=Nat.pow_le_pow_right bz (by omega)
   omega
  ·exact h2
theorem vk {N:Nat} {pl:List (Nat×Nat)} (hpl:pl=[(0,1),(1,32)]):Instr.fill (fun k=>pl[k]?) eS.zero [(1,.agg (mA N))]=some (iA false N):=by
 subst hpl
 kernel_rfl
theorem Ht (N i:Nat):dg N (i / 32) / 2 ^ (i % 32) % 2=N / 2 ^ i % 2:=by
 have h:=fw N (i / 32) (i % 32)
 rw [show 32*(i / 32)+i % 32=i by omega,decide_eq_true (Nat.mod_lt i (by omega)),Bool.true_and,Nat.testBit_eq_decide_div_mod_eq,Nat.testBit_eq_decide_div_mod_eq,decide_eq_decide] at h
 have:=Nat.mod_two_eq_zero_or_one (dg N (i / 32) / 2 ^ (i % 32))
 have:=Nat.mod_two_eq_zero_or_one (N / 2 ^ i)
 omega
theorem yN {M X:Nat} (hM:M < BB ^ 32) (h2:X < 2*M) (h:M<=X):(X % BB ^ 32+BB ^ 32 - M) % BB ^ 32=X - M:=by
 generalize BB ^ 32=P at *
 rcases Nat.lt_or_ge X P with h1 | h1
 ·rw [Nat.mod_eq_of_lt h1,show X+P - M=(X - M)+P by omega,Nat.add_mod_right,Nat.mod_eq_of_lt (by omega)]
 ·have:X % P=X - P:=by
    conv=>lhs;rw [show X=(X - P)+P by omega]
    rw [Nat.add_mod_right,Nat.mod_eq_of_lt (by omega)]
  rw [this,show X - P+P - M=X - M by omega,Nat.mod_eq_of_lt (by omega)]
theorem GT {M X:Nat} (h2:X < 2*M):X % M=if M<=X then X - M else X:=by
 by_cases h:M<=X
 ·rw [if_pos h]
  conv=>lhs;rw [show X=(X - M)+M by omega]
  rw [Nat.add_mod_right,Nat.mod_eq_of_lt (by omega)]
 ·rw [if_neg h,Nat.mod_eq_of_lt (by omega)]
theorem vt {N M:Nat} (hN:N < BB ^ 32) (hM:M < BB ^ 32) (hM0:0 < M):ax Tryz.prog 185 [SV.c (.agg (mA N)),SV.c (.agg (mA M))] (.tuple #[.agg (mA (N / M)),.agg (mA (N % M))]):=by
 obtain ⟨n,hn,hu⟩:=dm hN
 obtain ⟨m,hm,hv⟩:=dm hM
 have hu2:=FM hu
 have hv2:=FM hv
 refine db [3] af ah Kn _ _ rfl rfl fun w=>?_
 refine ⟨bY _,bY _,fun f mm=>f=[(2,SV.ptr 2 0),(3,SV.ptr 3 0),(4,SV.ptr 4 0),(5,SV.ptr 5 0)]/\mm=[(2,Blk.row 55 32 (mA N)),(3,Blk.row 55 32 (mA M)),(4,Blk.row 55 32 (lA (fun _=>0) 32)),(5,Blk.row 55 32 (lA (fun _=>0) 32))],.inl ⟨_,iK hu hN,fun h1=>.inl ⟨_,iK hv hM,fun h2=>?_,fun h2=>?_⟩,fun h1=>⟨nofun,fun _=>?_⟩⟩,?_⟩
 ·have h1:N < 18446744073709551616:=hu2.1 (by have:=ab h1;omega)
  have h2:M < 18446744073709551616:=hv2.1 (by have:=ab h2;omega)
  have l1:=FY h1
  have l2:=FY h2
  have hq:N / M<=N:=Nat.div_le_self _ _
  have hr:N % M < M:=Nat.mod_lt _ hM0
  have s1:=xL (N:=N / M) (by omega)
  have s2:=xL (N:=N % M) (by omega)
  have e1:IntKind.u64.wrap (Int.tdiv (N:Nat) (M:Nat))=((N / M:Nat):Int):=by rw [oS,xF (by omega)]
  have e2:Int.tmod (N:Nat) (M:Nat)=((N % M:Nat):Int):=oR N M
  rw [<- e1] at s1
  rw [<- e2] at s2
  exact .inl ⟨_,l1,.inl ⟨_,l2,by omega,.inl ⟨_,s1,.inl ⟨_,l1,.inl ⟨_,l2,by omega,.inl ⟨_,s2,aB _,aB _,by kernel_rfl,rfl,trivial⟩⟩⟩⟩⟩⟩
 ·exact ⟨_,_,⟨rfl,rfl⟩,⟨rfl,rfl,rfl,rfl,trivial⟩,⟨rfl,rfl,rfl,rfl,trivial⟩,rfl⟩
 ·exact ⟨_,_,⟨rfl,rfl⟩,⟨rfl,rfl,rfl,rfl,trivial⟩,⟨rfl,rfl,rfl,rfl,trivial⟩,rfl⟩
 rintro f mm ⟨rfl,rfl⟩
 have b1:=nD (A:=iA false N) (z:=zN false N) ⟨false,N,hN,rfl,rfl⟩
 have b2:=nD (A:=iA false M) (z:=zN false M) ⟨false,M,hM,rfl,rfl⟩
 rw [bK] at b1 b2
 obtain ⟨n1,n2⟩:=cZ N
 obtain ⟨m1,m2⟩:=cZ M
 have hbM:0 < bl M:=by
  rcases Nat.eq_zero_or_pos (bl M) with e | e
  ·rw [e] at m1;simp at m1;omega
  ·exact e
 have m2:=m2 hbM
 have hb1:bl N<=1024:=kd (k:=yM) (by rw [lh,show 32*32=yM from rfl] at hN;exact hN)
 have hb2:bl M<=1024:=kd (k:=yM) (by rw [lh,show 32*32=yM from rfl] at hM;exact hM)
 have eb:IntKind.i64.wrap ((bl M:Int) - 1)=((bl M - 1:Nat):Int):=by rw [i64_in (by omega)];omega
 refine ⟨_,vk rfl,.inl ⟨_,b1,_,vk rfl,.inl ⟨_,b2,by kernel_rfl,fun h1=>?_,fun h1=>?_⟩⟩⟩
 ·have h1:bl N<=bl M - 1:=by have:=ab h1;rw [eb] at this;omega
  have hlt:N < M:=by
   have:2 ^ bl N<=2 ^ (bl M - 1):=Nat.pow_le_pow_right (by omega) h1
   omega
  refine ⟨dQ _ _,aB _,by kernel_rfl,?_,trivial⟩
  rw [Nat.div_eq_of_lt hlt,Nat.mod_eq_of_lt hlt]
  refine jc ?_ rfl
  rw [<- Cx];rfl
 have h1:bl M - 1 < bl N:=by have:=ae h1;rw [eb] at this;omega
 obtain ⟨T,hT⟩:∃ T,bl N - (bl M - 1)=T:=⟨_,rfl⟩
 have eT:IntKind.i64.wrap ((bl N:Int) - IntKind.i64.wrap ((bl M:Int) - 1))=(T:Nat):=by rw [eb,i64_in (by omega)];omega
 have hsh:=zv (N:=N) (n:=T) hN (by omega)
 rw [<- eT] at hsh
 have hlow:N / 2 ^ T < M:=by
  have h2:N / 2 ^ T < 2 ^ (bl M - 1):=by
   rw [Nat.div_lt_iff_lt_mul (Nat.pow_pos (by omega)),<- Nat.pow_add,show bl M - 1+T=bl N by omega]
   exact n1
  omega
 refine .inl ⟨_,hsh,aB _,?_⟩
 refine ⟨fun k f mm=>k<=T/\∃ g:Nat->Nat,(∀ j,j < 32->g j=dg (hiP (N / M) k) j)/\f=[(2,SV.ptr 2 0),(3,SV.ptr 3 0),(4,SV.ptr 4 0),(5,SV.ptr 5 0),(8,SV.c (.int .i64 ((k:Int) - 1)))]/\mm=[(2,Blk.row 55 32 (mA N)),(3,Blk.row 55 32 (mA M)),(4,Blk.row 55 32 (lA g 32)),(5,Blk.row 55 32 (mA (N / 2 ^ k % M)))],T,⟨_,_,⟨Nat.le_refl _,fun _=>0,fun j hj=>?_,rfl,rfl⟩,⟨rfl,rfl,rfl,rfl,ag (by rw [eT,i64_in (by omega)]),trivial⟩,⟨rfl,rfl,rfl,bm (by rw [Nat.mod_eq_of_lt hlow]),trivial⟩,rfl⟩,?_⟩
 ·unfold hiP
  rw [Nat.div_div_eq_div_mul,Nat.mul_comm M,<- Nat.div_div_eq_div_mul,Nat.div_eq_of_lt hlow,Nat.zero_mul,sY]
 rintro k f mm ⟨hk,g,hg,rfl,rfl⟩
 refine ⟨fun h2=>?_,fun h2=>?_⟩
 ·have h2:(k:Int) - 1 >= 0:=ab h2
  obtain ⟨i,rfl⟩:∃ i,k=i+1:=⟨k - 1,by omega⟩
  have hi:i < 1024:=by omega
  have ei:IntKind.i64.wrap (Int.tdiv (((i+1:Nat):Int) - 1) 32)=((i / 32:Nat):Int):=by
   rw [show ((i+1:Nat):Int) - 1=(i:Nat) by omega,show (32:Int)=((32:Nat):Int) from rfl,oS,EU (by omega)]
  have em:IntKind.u64.wrap (Int.tmod (((i+1:Nat):Int) - 1) 32)=((i % 32:Nat):Int):=by
   rw [show ((i+1:Nat):Int) - 1=(i:Nat) by omega,show (32:Int)=((32:Nat):Int) from rfl,oR,xF (by omega)]
  have gx:(mA N)[(IntKind.i64.wrap (Int.tdiv (((i+1:Nat):Int) - 1) 32)).toNat]? = some (.int .u32 (dg N (i / 32):Nat)):=by rw [ei];exact bo (by omega)
  have gq:(lA g 32)[(IntKind.i64.wrap (Int.tdiv (((i+1:Nat):Int) - 1) 32)).toNat]? = some (.int .u32 (g (i / 32):Nat)):=by rw [ei];exact bL g (by omega)
  have hx:=aQ N (i / 32)
  rw [aW] at hx
  have ebit:IntKind.u32.wrap (((BitVec.ofInt IntKind.u32.bits (((dg N (i / 32):Nat):Int).fdiv (2 ^ min (Int.toNat (IntKind.u64.wrap (Int.tmod (((i+1:Nat):Int) - 1) 32))) IntKind.u32.bits)) &&& BitVec.ofInt IntKind.u32.bits 1).toNat:Nat):Int)=((N / 2 ^ i % 2:Nat):Int):=by
   rw [em,ls (dg N (i / 32)) (i % 32) (by omega) rfl,show (1:Int)=((1:Nat):Int) from rfl,Lx (Nat.lt_of_le_of_lt (Nat.div_le_self _ _) hx) (by omega),Nat.and_one_is_mod,Ht]
  have hb:N / 2 ^ i % 2<=1:=by omega
  have hr:N / 2 ^ (i+1) % M < M:=Nat.mod_lt _ hM0
  have hdb:=Dg (N:=N / 2 ^ (i+1) % M) (b:=N / 2 ^ i % 2) (Nat.lt_trans hr hM) hb
  rw [<- ebit] at hdb
  have hr2:2*(N / 2 ^ (i+1) % M)+N / 2 ^ i % 2 < 2*M:=by omega
  have hrm:=(IZ N M i).trans (GT hr2)
  have hqb:=I0 N M i hM0
  have hgl:g (i / 32) < 4294967296:=by rw [hg _ (by omega)];exact aQ _ _
  have evq:IntKind.u32.wrap (((BitVec.ofInt IntKind.u32.bits ((g (i / 32):Nat):Int) ||| BitVec.ofInt IntKind.u32.bits (IntKind.u32.wrap (1*2 ^ min (Int.toNat (IntKind.u64.wrap (Int.tmod (((i+1:Nat):Int) - 1) 32))) IntKind.u32.bits))).toNat:Nat):Int)=((g (i / 32) ||| 2 ^ (i % 32):Nat):Int):=by
   have hp:2 ^ (i % 32) < 4294967296:=Nat.pow_lt_pow_right (by omega) (Nat.mod_lt i (show 0 < 32 by omega))
   have e8:=lu 1 (i % 32) (Nat.mod_lt i (by omega))
   rw [Nat.one_mul,Nat.mod_eq_of_lt hp] at e8
   rw [em,show (1:Int)=((1:Nat):Int) from rfl,e8]
   exact zH hgl hp
  refine ⟨by decide,by rw [ei];omega,by rw [ei];show ((i / 32:Nat):Int) < 32;omega,_,gx,by decide,by rw [em];omega,.inl ⟨_,hdb,aB _,by kernel_rfl,fun h3=>?_,fun h3=>?_⟩⟩
  ·have h3:2*(N / 2 ^ (i+1) % M)+N / 2 ^ i % 2 < BB ^ 32:=ab (bR h3)
   refine .inl ⟨_,nw (Nat.mod_lt _ (bq 32)) hM,fun h4=>?_,fun h4=>?_⟩
   ·have hc:=ab h4
    rw [Nat.mod_eq_of_lt h3] at hc
    have hle:M<=2*(N / 2 ^ (i+1) % M)+N / 2 ^ i % 2:=by
     unfold iQ at hc
     split at hc
     ·omega
     ·omega
    have e7:=yN hM hr2 hle
    have hdf:=fJ (N:=(2*(N / 2 ^ (i+1) % M)+N / 2 ^ i % 2) % BB ^ 32) (Nat.mod_lt _ (bq 32)) hM
    rw [e7] at hdf
    refine .inl ⟨_,hdf,aB _,by decide,by rw [ei];omega,by rw [ei];show ((i / 32:Nat):Int) < 32;omega,_,gq,by decide,by rw [em];omega,by rw [ei];omega,by rw [ei];show ((i / 32:Nat):Int) < 32;omega,by rw [ei];show i / 32 < 32;omega,rfl,_,cy (i:=i / 32) (x:=IntKind.i64.wrap (Int.tdiv (((i+1:Nat):Int) - 1) 32)) ei evq,?_⟩
    refine ⟨i,_,_,by omega,⟨by omega,_,fun j hj=>?_,rfl,rfl⟩,⟨rfl,rfl,rfl,rfl,ag (by rw [i64_in (by omega)];omega),trivial⟩,⟨rfl,rfl,rfl,bm (by rw [hrm,if_pos hle]),trivial⟩,rfl⟩
    rw [pJ,hqb,if_pos hle,Nat.one_mul,rz _ i j (yG _ i)]
    by_cases e:j=i / 32
    ·subst e;rw [if_pos rfl,if_pos rfl,hg _ hj]
    ·rw [if_neg e,if_neg e,hg j hj]
   ·have hc:=ae h4
    rw [Nat.mod_eq_of_lt h3] at hc
    have hle:¬ M<=2*(N / 2 ^ (i+1) % M)+N / 2 ^ i % 2:=by
     unfold iQ at hc
     split at hc
     ·omega
     ·split at hc<;>omega
    refine ⟨i,_,_,by omega,⟨by omega,g,fun j hj=>?_,rfl,rfl⟩,⟨rfl,rfl,rfl,rfl,ag (by rw [i64_in (by omega)];omega),trivial⟩,⟨rfl,rfl,rfl,bm (by rw [hrm,if_neg hle,Nat.mod_eq_of_lt h3]),trivial⟩,rfl⟩
    rw [pJ,hqb,if_neg hle,Nat.zero_mul,Nat.add_zero]
    exact hg j hj
  ·have h3:¬ 2*(N / 2 ^ (i+1) % M)+N / 2 ^ i % 2 < BB ^ 32:=ae (bnt h3)
   have hle:M<=2*(N / 2 ^ (i+1) % M)+N / 2 ^ i % 2:=by omega
   have e7:=yN hM hr2 hle
   have hdf:=fJ (N:=(2*(N / 2 ^ (i+1) % M)+N / 2 ^ i % 2) % BB ^ 32) (Nat.mod_lt _ (bq 32)) hM
   rw [e7] at hdf
   refine ⟨fun _=>.inl ⟨_,hdf,aB _,by decide,by rw [ei];omega,by rw [ei];show ((i / 32:Nat):Int) < 32;omega,_,gq,by decide,by rw [em];omega,by rw [ei];omega,by rw [ei];show ((i / 32:Nat):Int) < 32;omega,by rw [ei];show i / 32 < 32;omega,rfl,_,cy (i:=i / 32) (x:=IntKind.i64.wrap (Int.tdiv (((i+1:Nat):Int) - 1) 32)) ei evq,?_⟩,nofun⟩
   refine ⟨i,_,_,by omega,⟨by omega,_,fun j hj=>?_,rfl,rfl⟩,⟨rfl,rfl,rfl,rfl,ag (by rw [i64_in (by omega)];omega),trivial⟩,⟨rfl,rfl,rfl,bm (by rw [hrm,if_pos hle]),trivial⟩,rfl⟩
   rw [pJ,hqb,if_pos hle,Nat.one_mul,rz _ i j (yG _ i)]
   by_cases e:j=i / 32
   ·subst e;rw [if_pos rfl,if_pos rfl,hg _ hj]
   ·rw [if_neg e,if_neg e,hg j hj]
 ·have h2:k=0:=by have:=ae h2;omega
  subst h2
  have hA:lA g 32=mA (N / M):=ba fun j hj=>by rw [hg j hj,CL]
  refine ⟨dQ _ _,aB _,by kernel_rfl,?_,trivial⟩
  rw [hA,Nat.pow_zero,Nat.div_one];rfl
theorem IJ:(lA (fun _=>0) 32).setIfInBounds 0 (.int .u32 1)=mA 1:=by
 rw [show (1:Int)=((1:Nat):Int) from rfl,kX]
 refine ba fun i hi=>?_
 by_cases h:i=0
 ·subst h;rfl
 ·rw [if_neg h]
  have:dg 1 i=0:=cg (n:=1) (by decide) (by omega)
  exact this.symm
theorem im {A B:Array Value} {x y:Int} (hA:IsI A x) (hB:IsI B y) (hy:y≠0):ax Tryz.prog 135 [SV.c (.agg A),SV.c (.agg B)] (.tuple #[.agg (eA (x / y)),.agg (eA (x % y)),.int .i64 0]):=by
 have hx:=hA.lt
 have hyl:=hB.lt
 have hall:=Dh x y hy
 obtain ⟨a,N,hN,rfl,ex⟩:=hA.raw
 obtain ⟨b,M,hM,rfl,ey⟩:=hB.raw
 have eN:x.natAbs=N:=by rw [ex,bK]
 have eM:y.natAbs=M:=by rw [ey,bK]
 rw [eN,eM] at hall
 have hM0:0 < M:=by omega
 have hb:decide (y < 0)=b:=by
  rw [ey];cases b
  ·simp [zN]
  ·simp [zN];omega
 have ha:N≠0->decide (x < 0)=a:=fun h=>by
  rw [ex];cases a
  ·simp [zN]
  ·simp [zN];omega
 refine db [9] af ah K4 _ _ rfl rfl fun w=>?_
 have hql:N / M < BB ^ 32:=Nat.lt_of_le_of_lt (Nat.div_le_self _ _) hN
 have hrl:N % M < M:=Nat.mod_lt _ hM0
 have hrb:N % M < BB ^ 32:=Nat.lt_trans hrl hM
 refine ⟨bt _ _,bt _ _,by decide,_,co,.inl ⟨_,ke hM,fun h=>?_,fun h=>?_⟩⟩
 ·exfalso
  have:=ab h
  omega
 refine ⟨by decide,_,co,by decide,_,co,.inl ⟨_,vt hN hM hM0,aB _,aB _,?_⟩⟩
 have fin:∀ q,(q=0->N=0\/True)->True:=fun _ _=>trivial
 refine ⟨fun f mm=>∃ q r:Nat,q < BB ^ 32/\r < BB ^ 32/\x / y=zN (a != b) q/\x % y=r/\f=[(2,SV.ptr 2 0),(3,SV.ptr 3 0),(4,SV.ptr 4 0),(5,SV.ptr 5 0),(7,SV.ptr 7 0),(8,SV.ptr 8 0)]/\mm=[(2,Blk.row 57 33 (iA a N)),(3,Blk.row 57 33 (iA b M)),(4,Blk.row 57 33 eS.zero),(5,Blk.row 57 33 eS.zero),(7,Blk.row 55 32 (mA q)),(8,Blk.row 55 32 (mA r))],⟨_,dk,fun h1=>.inl ⟨_,ke hrb,fun h2=>?_,fun h2=>?_⟩,fun h1=>⟨nofun,fun _=>?_⟩⟩,?_⟩
 ·have h1:a=true:=h1
  have h2:N % M≠0:=ae (bnt h2)
  have hn0:N≠0:=by intro e;rw [e,Nat.zero_mod] at h2;exact h2 rfl
  have hxa:=ha hn0
  rw [h1] at hxa
  rw [if_pos ⟨ab hxa,h2⟩,hxa,hb] at hall
  have hql2:N / M+1 < BB ^ 32:=by
   have hb2:2<=M:=by
    rcases Nat.lt_or_ge M 2 with h | h
    ·have:M=1:=by omega
     rw [this,Nat.mod_one] at h2;exact absurd rfl h2
    ·exact h
   have h3:N / M<=N / 2:=Nat.div_le_div_left hb2 (by omega)
   have h4:4<=BB ^ 32:=Nat.le_trans (by omega) j5
   omega
  have hd:=fJ hM hrb
  rw [vv hM (Nat.le_of_lt hrl)] at hd
  have hs:=FR hql (Nat.lt_of_lt_of_le (by omega:1 < 18446744073709551616) j5)
  refine ⟨by decide,_,co,.inl ⟨_,hd,aB _,by decide,by decide,by decide,rfl,_,IJ,.inl ⟨_,hs,aB _,_,_,⟨N / M+1,_,hql2,Nat.lt_of_le_of_lt (Nat.sub_le _ _) hM,by rw [h1];exact hall.1,hall.2,rfl,rfl⟩,⟨rfl,rfl,rfl,rfl,rfl,rfl,trivial⟩,⟨rfl,rfl,rfl,rfl,bm (by rw [Nat.mod_eq_of_lt hql2]),rfl,trivial⟩,rfl⟩⟩⟩
 ·have h1:a=true:=h1
  have h2:N % M=0:=ab (bnf h2)
  rw [if_neg (fun h=>h.2 h2)] at hall
  refine ⟨_,_,⟨_,_,hql,hrb,?_,hall.2,rfl,rfl⟩,⟨rfl,rfl,rfl,rfl,rfl,rfl,trivial⟩,⟨rfl,rfl,rfl,rfl,rfl,rfl,trivial⟩,rfl⟩
  rw [hall.1,hb]
  by_cases hn0:N=0
  ·rw [hn0,Nat.zero_div];unfold zN;split<;>split<;>rfl
  ·rw [ha hn0]
 ·have h1:a=false:=h1
  have hx0:¬ x < 0:=by rw [ex,h1];simp [zN]
  rw [if_neg (fun h=>hx0 h.1),hb,decide_eq_false hx0] at hall
  exact ⟨_,_,⟨_,_,hql,hrb,by rw [h1];exact hall.1,hall.2,rfl,rfl⟩,⟨rfl,rfl,rfl,rfl,rfl,rfl,trivial⟩,⟨rfl,rfl,rfl,rfl,rfl,rfl,trivial⟩,rfl⟩
 ·rintro f mm ⟨q,r,hq,hr,e1,e2,rfl,rfl⟩
  have m1:=eL (a != b) hq
  have m2:=eL false hr
  rw [<- e1] at m1
  rw [show zN false r=x % y from e2.symm] at m2
  exact ⟨_,dk,_,dk,.inl ⟨_,m1,.inl ⟨_,m2,ak _,ak _,by kernel_rfl,rfl,trivial⟩⟩⟩
theorem F9 {A B:Array Value} {x y:Int} (hA:IsI A x) (hB:IsI B y):ax Tryz.prog 140 [SV.c (.agg A),SV.c (.agg B)] (.agg (eA ((Int.gcd x y:Nat):Int))):=by
 obtain ⟨a,N,hN,rfl,rfl⟩:=hA.raw
 obtain ⟨b,M,hM,rfl,rfl⟩:=hB.raw
 rw [pP]
 refine aj af ah KX _ _ rfl rfl fun w=>?_
 refine ⟨bt _ _,bt _ _,by decide,_,co,by decide,_,co,aB _,aB _,by kernel_rfl,?_⟩
 refine ⟨fun q f mm=>∃ u:Nat,u < BB ^ 32/\q < BB ^ 32/\Nat.gcd u q=Nat.gcd N M/\f=[(4,SV.ptr 4 0),(5,SV.ptr 5 0),(6,SV.ptr 6 0)]/\mm=[(4,Blk.row 57 33 eS.zero),(5,Blk.row 55 32 (mA u)),(6,Blk.row 55 32 (mA q))],_,⟨_,_,⟨_,hN,hM,rfl,rfl,rfl⟩,⟨rfl,rfl,rfl,trivial⟩,⟨rfl,rfl,rfl,trivial⟩,rfl⟩,?_⟩
 rintro q f mm ⟨u,ha,hq,hg,rfl,rfl⟩
 refine .inl ⟨_,ke hq,fun h=>?_,fun h=>?_⟩
 ·have hq0:0 < q:=by
    have:q≠0:=ae (bnt h)
    omega
  have hr:=Nat.mod_lt u hq0
  exact .inl ⟨_,vt ha hq hq0,aB _,aB _,aB _,aB _,by kernel_rfl,u % q,_,_,hr,⟨_,hq,Nat.lt_trans hr hq,by rw [<- hg,Nat.gcd_comm u q,Nat.gcd_rec q u,Nat.gcd_comm],rfl,rfl⟩,⟨rfl,rfl,rfl,trivial⟩,⟨rfl,rfl,rfl,trivial⟩,rfl⟩
 ·have hq0:q=0:=ab (bnf h)
  subst hq0
  have m1:=eL false ha
  rw [Nat.gcd_zero_right] at hg
  rw [show zN false u=((Nat.gcd N M:Nat):Int) by rw [<- hg];rfl] at m1
  exact .inl ⟨_,m1,ak _,rfl,trivial⟩
theorem li {n:Int} (h1 : -9223372036854775808<=n) (h2:n<=9223372036854775807):ax Tryz.prog 94 [SV.c (.int .i64 n)] (.agg (RQ.of n 1).A):=by
 refine aj af ah MB _ _ rfl rfl fun w=>?_
 exact .inl ⟨_,cE n h1 h2,.inl ⟨_,cE 1 (by omega) (by omega),_,f5 (bZ _) (bZ _) rfl rfl,(RQ.of n 1).A_fits,rfl,trivial⟩⟩
theorem DU:ax Tryz.prog 54 [] (.agg (RQ.of 0 1).A):=by
 refine aj af ah M9 _ _ rfl rfl fun w=>?_
 exact .inl ⟨_,li (n:=0) (by omega) (by omega),(RQ.of 0 1).A_fits,rfl,trivial⟩
theorem jD {A B:Array Value} {x y:Int} (hA:IsI A x) (hB:IsI B y) (hl:(x*y).natAbs < BB ^ 32):ax Tryz.prog 189 [SV.c (.agg A),SV.c (.agg B)] (.agg (eA (x*y))):=by
 refine aj af ah Kj _ _ rfl rfl fun w=>?_
 have h:=yj hA hB
 rw [eY,if_pos hl] at h
 exact ⟨hA.size,hB.size,.inl ⟨_,h,ak _,ak _,rfl,trivial⟩⟩
theorem mz {y:Int} {g:Nat} (hg:0 < g):decide (sgn (y / (g:Int)) < 0)=decide (y < 0):=by
 rw [fB,decide_eq_decide]
 constructor
 ·intro h
  rcases Int.lt_or_le y 0 with h1 | h1
  ·exact h1
  ·have:=Int.ediv_nonneg h1 (show (0:Int)<=g by omega);omega
 ·intro h;exact Int.ediv_neg_of_neg_of_pos h (by omega)
theorem sD {A B:Array Value} {x y:Int} (hA:IsI A x) (hB:IsI B y):ax Tryz.prog 110 [SV.c (.agg A),SV.c (.agg B)] (wz (mkQ x y)):=by
 refine db [8] af ah Lp _ _ rfl rfl fun w=>?_
 refine ⟨hA.size,hB.size,.inl ⟨_,fT hB,fun h=>?_,fun h=>?_⟩⟩
 ·rw [cF] at h
  have h:=ab h
  refine ⟨dH.zero,rfl,(RQ.of 0 0).A_fits,?_,trivial⟩
  rw [mkQ,if_pos h];rfl
 rw [cF] at h
 have h:=ae h
 obtain ⟨g1,g2⟩:=w4 (x:=x) h
 have gl:((Int.gcd x y:Nat):Int).natAbs < BB ^ 32:=by have:=hB.lt;omega
 have gn:((Int.gcd x y:Nat):Int)≠0:=by omega
 have d1:=im hA (aJ gl) gn
 have d2:=im hB (aJ gl) gn
 have lx:(x / ((Int.gcd x y:Nat):Int)).natAbs < BB ^ 32:=Nat.lt_of_le_of_lt (Int.natAbs_ediv_le_natAbs x _) hA.lt
 have ly:(y / ((Int.gcd x y:Nat):Int)).natAbs < BB ^ 32:=Nat.lt_of_le_of_lt (Int.natAbs_ediv_le_natAbs y _) hB.lt
 refine .inl ⟨_,F9 hA hB,ak _,.inl ⟨_,d1,ak _,ak _,.inl ⟨_,d2,ak _,ak _,fun f mm=>f=[(4,SV.ptr 4 0),(7,SV.ptr 7 0),(10,SV.ptr 10 0)]/\mm=[(4,Blk.row 59 66 dH.zero),(7,Blk.row 57 33 (eA (x / (sgn y*Int.gcd x y)))),(10,Blk.row 57 33 (eA (y / (sgn y*Int.gcd x y))))],.inl ⟨_,fT (aJ ly),fun h2=>?_,fun h2=>?_⟩,?_⟩⟩⟩
 ·rw [mz g1] at h2
  have h2:=ab h2
  have e:sgn y*(Int.gcd x y:Int)=-((Int.gcd x y:Nat):Int):=by unfold sgn;rw [if_pos h2];omega
  refine .inl ⟨_,Cl (aJ lx),.inl ⟨_,Cl (aJ ly),ak _,ak _,by kernel_rfl,_,_,⟨rfl,rfl⟩,⟨rfl,rfl,rfl,trivial⟩,⟨rfl,bm (by rw [e,Int.ediv_neg]),bm (by rw [e,Int.ediv_neg]),trivial⟩,rfl⟩⟩
 ·rw [mz g1] at h2
  have h2:=ae h2
  have e:sgn y*(Int.gcd x y:Int)=((Int.gcd x y:Nat):Int):=by unfold sgn;rw [if_neg h2,if_neg h];omega
  exact ⟨_,_,⟨rfl,rfl⟩,⟨rfl,rfl,rfl,trivial⟩,⟨rfl,bm (by rw [e]),bm (by rw [e]),trivial⟩,rfl⟩
 rintro f mm ⟨rfl,rfl⟩
 have lx2:(x / (sgn y*Int.gcd x y)).natAbs < BB ^ 32:=Nat.lt_of_le_of_lt (Int.natAbs_ediv_le_natAbs x _) hA.lt
 have ly2:(y / (sgn y*Int.gcd x y)).natAbs < BB ^ 32:=Nat.lt_of_le_of_lt (Int.natAbs_ediv_le_natAbs y _) hB.lt
 rw [mkQ,if_neg h]
 generalize x / (sgn y*Int.gcd x y)=p at *
 generalize y / (sgn y*Int.gcd x y)=q at *
 have bad:¬ (bl p.natAbs<=480/\bl q.natAbs<=480)->dW [.agg dH.zero,.int .i64 10]=wz (if bl p.natAbs<=480/\bl q.natAbs<=480 then (.of p q,0) else (.of 0 0,10)):=fun h=>by rw [if_neg h];rfl
 refine .inl ⟨_,nD (aJ lx2),fun h2=>.inl ⟨_,nD (aJ ly2),fun h3=>⟨dH.zero,rfl,(RQ.of 0 0).A_fits,bad ?_,trivial⟩,fun h3=>⟨_,f5 (bZ _) (bZ _) rfl rfl,(RQ.of p q).A_fits,?_,trivial⟩⟩,fun h2=>⟨fun _=>⟨dH.zero,rfl,(RQ.of 0 0).A_fits,bad ?_,trivial⟩,nofun⟩⟩
 ·have:=ab h3
  omega
 ·have h2:=ae h2
  have h3:=ae h3
  rw [if_pos (by omega)];rfl
 ·have:=ab h2
  omega
theorem Mm {n d:Int} (h1 : -9223372036854775808<=n) (h2:n<=9223372036854775807) (h3 : -9223372036854775808<=d) (h4:d<=9223372036854775807):ax Tryz.prog 78 [SV.c (.int .i64 n),SV.c (.int .i64 d)] (wz (mkQ n d)):=by
 refine aj af ah MR _ _ rfl rfl fun w=>?_
 exact .inl ⟨_,cE n h1 h2,.inl ⟨_,cE d h3 h4,.inl ⟨_,sD (aJ (cW h1 h2)) (aJ (cW h3 h4)),RQ.A_fits _,rfl,trivial⟩⟩⟩
theorem lV (r:RQ):r.ok=((!(r.a && decide (r.N=0))) && (!r.b && !decide (r.D=0)) && (decide (bl r.N<=480) && (decide (bl r.D<=480) && decide (Nat.gcd r.N r.D=1)))):=by
 unfold RQ.ok
 rw [Bool.eq_iff_iff]
 simp only [decide_eq_true_eq,Bool.and_eq_true,Bool.not_eq_true',Bool.and_eq_false_iff,decide_eq_false_iff_not]
 constructor
 ·rintro ⟨h1,h2,h3,h4,h5,h6⟩
  refine ⟨⟨?_,h4,by omega⟩,h1,h2,h6⟩
  by_cases h:r.a=true
  ·exact .inr (h3 h)
  ·exact .inl (by simpa using h)
 ·rintro ⟨⟨h3,h4,h5⟩,h1,h2,h6⟩
  refine ⟨h1,h2,fun h=>?_,h4,by omega,h6⟩
  rcases h3 with h3 | h3
  ·rw [h] at h3;cases h3
  ·exact h3
theorem ll {r:RQ} (h:r.In):ax Tryz.prog 188 [SV.c (.agg r.A)] (.bool r.ok):=by
 refine aj af ah Kk _ _ rfl rfl fun w=>?_
 have s1:=fT h.num
 have s2:=fT h.den
 have b1:=nD h.num
 have b2:=nD h.den
 have hg:=F9 h.num h.den
 rw [RQ.p,bK] at b1
 rw [RQ.q,bK] at b2
 rw [RQ.p,RQ.q,pP] at hg
 have one:=cE 1 (by omega) (by omega)
 have h1l:(1:Int).natAbs < BB ^ 32:=Nat.lt_of_lt_of_le (by decide:1 < 18446744073709551616) j5
 have gl:((Nat.gcd r.N r.D:Nat):Int).natAbs < BB ^ 32:=by
  rw [Int.natAbs_natCast]
  rcases Nat.eq_zero_or_pos r.N with e | e
  ·rw [e,Nat.gcd_zero_left];exact h.D
  ·exact Nat.lt_of_le_of_lt (Nat.gcd_le_left _ e) h.N
 have z1:(sgn r.p == 0)=decide (r.N=0):=by
  rw [cF,RQ.p,decide_eq_decide]
  cases r.a<;>simp [zN]
 have z2:decide (sgn r.q<=0)=!(!r.b && !decide (r.D=0)):=by
  rw [RQ.q]
  cases hb:r.b
  ·by_cases hd:r.D=0
   ·rw [hd];rfl
   ·have:sgn (zN false r.D)=1:=by unfold sgn zN;rw [if_neg Bool.false_ne_true,if_neg (by omega),if_neg (by omega)]
    rw [this,decide_eq_false hd];rfl
  ·have:sgn (zN true r.D)<=0:=by unfold sgn zN;rw [if_pos rfl];split<;>(try split)<;>omega
   rw [decide_eq_true this];rfl
 have A0:r.A[0]? = some (.bool r.a):=by
  rw [RQ.A,Array.getElem?_append_left (by rw [bt];omega)];exact dk
 have tail:(!(r.a && decide (r.N=0)))=true->(!r.b && !decide (r.D=0))=true->r.ok=(decide (bl r.N<=480) && (decide (bl r.D<=480) && decide (Nat.gcd r.N r.D=1))):=fun h1 h2=>by rw [lV,h1,h2];rfl
 refine ⟨r.A_size,_,A0,fun h1=>⟨by decide,_,r.cat_l,.inl ⟨_,s1,fun h2=>⟨by decide,_,r.cat_r,.inl ⟨_,s2,fun h3=>?_,fun h3=>?_⟩⟩,fun h2=>⟨fun _=>⟨bv ?_,trivial⟩,nofun⟩⟩⟩,fun h1=>⟨fun _=>⟨by decide,_,r.cat_r,.inl ⟨_,s2,fun h3=>?_,fun h3=>?_⟩⟩,nofun⟩⟩
 ·have h3:decide (sgn r.q<=0)=true:=h3
  rw [z2] at h3
  refine ⟨bv ?_,trivial⟩
  rw [lV,bnt h3];simp
 ·have h3:decide (sgn r.q<=0)=false:=h3
  rw [z2] at h3
  have h2:(sgn r.p == 0)=false:=h2
  rw [z1] at h2
  have hok:=tail (by rw [h2];simp) (bR h3)
  refine ⟨by decide,_,r.cat_l,.inl ⟨_,b1,fun h4=>⟨by decide,_,r.cat_r,.inl ⟨_,b2,fun h5=>⟨by decide,_,r.cat_l,by decide,_,r.cat_r,.inl ⟨_,hg,.inl ⟨_,one,_,sQ rfl gl h1l,bv ?_,trivial⟩⟩⟩,fun h5=>⟨bv ?_,trivial⟩⟩⟩,fun h4=>⟨nofun,fun _=>⟨bv ?_,trivial⟩⟩⟩⟩
  ·rw [hok,decide_eq_true (show bl r.N<=480 by have:=ab h4;omega),decide_eq_true (show bl r.D<=480 by have:=ab h5;omega),Bool.true_and,Bool.true_and,decide_eq_decide]
   omega
  ·rw [hok,decide_eq_false (show ¬ bl r.D<=480 by have:=ae h5;omega),Bool.false_and,Bool.and_false]
  ·rw [hok,decide_eq_false (show ¬ bl r.N<=480 by have:=ae h4;omega),Bool.false_and]
 ·have h1:r.a=true:=h1
  have h2:(sgn r.p == 0)=true:=h2
  rw [z1] at h2
  rw [lV,h1,h2];rfl
 ·have h3:decide (sgn r.q<=0)=true:=h3
  rw [z2] at h3
  refine ⟨bv ?_,trivial⟩
  rw [lV,bnt h3];simp
 ·have h3:decide (sgn r.q<=0)=false:=h3
  rw [z2] at h3
  have h1:r.a=false:=h1
  have hok:=tail (by rw [h1];rfl) (bR h3)
  refine ⟨by decide,_,r.cat_l,.inl ⟨_,b1,fun h4=>⟨by decide,_,r.cat_r,.inl ⟨_,b2,fun h5=>⟨by decide,_,r.cat_l,by decide,_,r.cat_r,.inl ⟨_,hg,.inl ⟨_,one,_,sQ rfl gl h1l,bv ?_,trivial⟩⟩⟩,fun h5=>⟨bv ?_,trivial⟩⟩⟩,fun h4=>⟨nofun,fun _=>⟨bv ?_,trivial⟩⟩⟩⟩
  ·rw [hok,decide_eq_true (show bl r.N<=480 by have:=ab h4;omega),decide_eq_true (show bl r.D<=480 by have:=ab h5;omega),Bool.true_and,Bool.true_and,decide_eq_decide]
   omega
  ·rw [hok,decide_eq_false (show ¬ bl r.D<=480 by have:=ae h5;omega),Bool.false_and,Bool.and_false]
  ·rw [hok,decide_eq_false (show ¬ bl r.N<=480 by have:=ae h4;omega),Bool.false_and]
theorem GZ {r s:RQ} (hr:r.In) (hs:s.In):ax Tryz.prog 137 [SV.c (.agg r.A),SV.c (.agg s.A)] (wz (jZ r s)):=by
 refine aj af ah K0 _ _ rfl rfl fun w=>?_
 refine ⟨r.A_size,s.A_size,.inl ⟨_,ll hr,fun h1=>.inl ⟨_,ll hs,fun h2=>?_,fun h2=>?_⟩,fun h1=>?_⟩⟩
 ·have h2:=bnt h2
  refine ⟨dH.zero,rfl,(RQ.of 0 0).A_fits,?_,trivial⟩
  rw [jZ,h2,Bool.and_false,if_neg Bool.false_ne_true];rfl
 ·have h1:=bR h1
  have h2:=bnf h2
  have k1:=RQ.ok_bits h1
  have k2:=RQ.ok_bits h2
  have m1:=fe k1.1 k2.1
  have m2:=fe k1.2.1 k2.2.1
  refine ⟨by decide,_,r.cat_l,by decide,_,s.cat_l,.inl ⟨_,jD hr.num hs.num m1,by decide,_,r.cat_r,by decide,_,s.cat_r,.inl ⟨_,jD hr.den hs.den m2,.inl ⟨_,sD (aJ m1) (aJ m2),RQ.A_fits _,by kernel_rfl,?_,trivial⟩⟩⟩⟩
  rw [jZ,h1,h2,Bool.and_true,if_pos rfl];rfl
 ·have h1:=bnt h1
  refine ⟨fun _=>⟨dH.zero,rfl,(RQ.of 0 0).A_fits,?_,trivial⟩,nofun⟩
  rw [jZ,h1,Bool.false_and,if_neg Bool.false_ne_true];rfl
theorem Hl {r:RQ} (hk:r.ok=true):iA r.b r.D=eA r.q:=by
 obtain ⟨k1,k2,k3,k4,k5⟩:=RQ.ok_bits hk
 have h:RQ.A r=RQ.A (.of r.p r.q):=congrArg RQ.A k5
 exact (r.cat_r).symm.trans ((congrArg (fun x=>x.extract 33 (33+33)) h).trans (RQ.cat_r (.of r.p r.q)))
theorem xj {r s:RQ} (hr:r.In) (hs:s.In) (h1:(r.p*s.q).natAbs < BB ^ 32) (h2:(s.p*r.q).natAbs < BB ^ 32):ax Tryz.prog 255 [SV.c (.agg r.A),SV.c (.agg s.A)] (.int .i64 (ga (r.p*s.q) (s.p*r.q))):=by
 refine aj af ah Jo _ _ rfl rfl fun w=>?_
 exact ⟨r.A_size,s.A_size,by decide,_,r.cat_l,by decide,_,s.cat_r,.inl ⟨_,jD hr.num hs.den h1,by decide,_,s.cat_l,by decide,_,r.cat_r,.inl ⟨_,jD hs.num hr.den h2,.inl ⟨_,Gc (aJ h1) (aJ h2),by kernel_rfl,rfl,trivial⟩⟩⟩⟩
def AP (r:RQ) (lo hi:Int):Bool:=r.ok && (decide (lo*r.q<=r.p) && decide (r.p<=hi*r.q))
theorem yU (x y:Int):decide (ga x y >= 0)=decide (y<=x):=by
 rw [Bool.eq_iff_iff];simp only [decide_eq_true_eq];unfold ga;split
 ·omega
 ·split<;>omega
theorem AN {r:RQ} (hr:r.In) {lo hi:Int} (l1 : -9223372036854775808<=lo) (l2:lo<=9223372036854775807) (u1 : -9223372036854775808<=hi) (u2:hi<=9223372036854775807):ax Tryz.prog 220 [SV.c (.agg r.A),SV.c (.int .i64 lo),SV.c (.int .i64 hi)] (.bool (AP r lo hi)):=by
 refine aj af ah JU _ _ rfl rfl fun w=>?_
 have key:∀ n:Int,-9223372036854775808<=n->n<=9223372036854775807->r.ok=true->ax Tryz.prog 255 [SV.c (.agg r.A),SV.c (.agg (RQ.of n 1).A)] (.int .i64 (ga r.p (n*r.q))):=fun n a b hk=>by
  have k1:=RQ.ok_bits hk
  have hb:bl n.natAbs<=480:=Nat.le_trans (kd (k:=64) (by omega)) (by omega)
  have h1:(r.p*(RQ.of n 1).q).natAbs < BB ^ 32:=by rw [RQ.of_q];exact fe k1.1 (by decide)
  have h2:((RQ.of n 1).p*r.q).natAbs < BB ^ 32:=by rw [RQ.of_p];exact fe hb k1.2.1
  have:=xj hr (s:=.of n 1) ⟨cW a b,cW (n:=1) (by omega) (by omega)⟩ h1 h2
  rw [RQ.of_p,RQ.of_q,Int.mul_one] at this
  exact this
 refine ⟨r.A_size,.inl ⟨_,ll hr,fun h1=>.inl ⟨_,li l1 l2,.inl ⟨_,key lo l1 l2 h1,fun h2=>.inl ⟨_,li u1 u2,.inl ⟨_,key hi u1 u2 h1,by kernel_rfl,bv ?_,trivial⟩⟩,fun h2=>⟨by kernel_rfl,bv ?_,trivial⟩⟩⟩,fun h1=>⟨nofun,fun _=>⟨by kernel_rfl,bv ?_,trivial⟩⟩⟩⟩
 ·have h1:r.ok=true:=h1
  have h2:decide (ga r.p (lo*r.q) >= 0)=true:=h2
  rw [yU] at h2
  rw [AP,h1,h2,yT];rfl
 ·have h2:decide (ga r.p (lo*r.q) >= 0)=false:=h2
  rw [yU] at h2
  rw [AP,h2,Bool.false_and,Bool.and_false]
 ·have h1:r.ok=false:=h1
  rw [AP,h1];rfl
end Go.Proofs.YtekfkdddadcalaaGreatDoor
