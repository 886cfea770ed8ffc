/- walks: the reference, quotients. walks: the reference, pairs; no condition. -/
import Derived.Test.YtklehfchdoikeaaGreatDoorValuationExactQ16
set_option maxRecDepth 100000
set_option maxHeartbeats 4000000
namespace Go.Proofs.YtklehfchdoikeaaGreatDoor
open Go Go.RowKit Go.SX
theorem IU {N:Nat} (hN:N < 18446744073709551616):aw Tryz.prog 246 [SV.c (.agg (mA N))] (.int .u64 (N:Nat)):=by
 refine aj ai ak NL _ _ rfl rfl fun w=>?_
 have eu:=BU (aR N 1) (aR N 0) rfl rfl
 have ed:dg N 1*BB+dg N 0=N:=by
  simp only [dg,aS,Nat.pow_one,Nat.pow_zero,Nat.div_one];omega
 rw [ed] at eu
 have g1:(mA N)[1]? = some (.int .u32 (dg N 1:Nat)):=bo (by omega)
 have g0:(mA N)[0]? = some (.int .u32 (dg N 0:Nat)):=bo (by omega)
 exact ⟨cf _,by decide,by decide,_,g1,by decide,by decide,by decide,_,g0,by rw [eu];rfl,trivial⟩
theorem zq {N:Nat} (hN:N < 18446744073709551616):aw Tryz.prog 245 [SV.c (.int .u64 (N:Nat))] (.agg (mA N)):=by
 refine aj ai ak NM _ _ rfl rfl fun w=>?_
 have e0:IntKind.u32.wrap ((N:Nat):Int)=((N % 4294967296:Nat):Int):=by rw [bX];omega
 have e1:IntKind.u32.wrap (((N:Nat):Int).fdiv (2 ^ min (Int.toNat 32) IntKind.u64.bits))=((N / 4294967296:Nat):Int):=by
  rw [show ((N:Nat):Int).fdiv (2 ^ min (Int.toNat 32) IntKind.u64.bits)=((N / 4294967296:Nat):Int) from iU _ 32]
  exact eQ (by omega)
 have hA:lA (fun k=>if k=1 then N / 4294967296 else (fun k=>if k=0 then N % 4294967296 else (fun _=>0) k) k) 32=mA N:=aV fun i hi=>by
  by_cases h1:i=1
  ·subst h1
   rw [if_pos rfl]
   simp only [dg,aS,Nat.pow_one];omega
  ·rw [if_neg h1]
   by_cases h0:i=0
   ·subst h0
    simp only [if_true]
    simp only [dg,aS,Nat.pow_zero,Nat.div_one]
   ·simp only [if_neg h0]
    rw [Fz hN (by omega)]
 refine ⟨by decide,by decide,by decide,by decide,rfl,_,cG (G:=fun _=>0) (n:=32) (i:=0) (x:=((0:Nat):Int)) rfl e0,by decide,by decide,by decide,rfl,_,cG (i:=1) (x:=((1:Nat):Int)) rfl e1,?_⟩
 exact ⟨eL _ _,by rw [hA];rfl,trivial⟩
theorem Qh {A B:Nat} (hA:A < 4294967296) (hB:B < 4294967296):IntKind.u32.wrap (((BitVec.ofInt IntKind.u32.bits (A:Int) &&& BitVec.ofInt IntKind.u32.bits (B:Int)).toNat:Nat):Int)=((A &&& B:Nat):Int):=by
 have h:A &&& B < 4294967296:=Nat.and_lt_two_pow (n:=32) _ hB
 rw [BitVec.toNat_and,BitVec.ofInt_natCast,BitVec.ofInt_natCast,BitVec.toNat_ofNat,BitVec.toNat_ofNat]
 show IntKind.u32.wrap (((A % 4294967296 &&& B % 4294967296:Nat)):Int)=_
 rw [Nat.mod_eq_of_lt hA,Nat.mod_eq_of_lt hB,eQ (by omega)]
theorem zk {x:Nat} (h:x < 18446744073709551616):IntKind.u64.wrap (x:Int)=x:=cy ⟨Int.natCast_nonneg x,by omega⟩
theorem HM {x:Nat} (h:x<=9223372036854775807):IntKind.i64.wrap (x:Int)=x:=i64_in ⟨by omega,by omega⟩
theorem IB {N n:Nat} (hu:IsUsed N n):n<=2↔N < 18446744073709551616:=by
 have e:BB ^ 2=18446744073709551616:=by decide
 constructor
 ·intro h
  have h4:BB ^ n<=BB ^ 2:=Nat.pow_le_pow_right bQ h
  rw [e] at h4
  have:=hu.1
  omega
 ·intro h
  rcases Nat.lt_or_ge 2 n with h2 | h2
  ·have h3:=hu.2 (by omega)
   have h4:BB ^ 2<=BB ^ (n - 1):=Nat.pow_le_pow_right bQ (by omega)
   omega
  ·exact h2
theorem wy {N:Nat} {pl:List (Nat×Nat)} (hpl:pl=[(0,1),(1,32)]):Instr.fill (fun k=>pl[k]?) fJ.zero [(1,.agg (mA N))]=some (iA false N):=by
 subst hpl
 kernel_rfl
theorem KG (N i:Nat):dg N (i / 32) / 2 ^ (i % 32) % 2=N / 2 ^ i % 2:=by
 have h:=gK N (i / 32) (i % 32)
 rw [show 32*(i / 32)+i % 32=i by omega,decide_eq_true (Nat.mod_lt i (by omega)),Bool.true_and,Nat.testBit_eq_decide_div_mod_eq,Nat.testBit_eq_decide_div_mod_eq,decide_eq_decide] at h
 have:=Nat.mod_two_eq_zero_or_one (dg N (i / 32) / 2 ^ (i % 32))
 have:=Nat.mod_two_eq_zero_or_one (N / 2 ^ i)
 omega
theorem Ao {M X:Nat} (hM:M < BB ^ 32) (h2:X < 2*M) (h:M<=X):(X % BB ^ 32+BB ^ 32 - M) % BB ^ 32=X - M:=by
 generalize BB ^ 32=P at *
 rcases Nat.lt_or_ge X P with h1 | h1
 ·rw [Nat.mod_eq_of_lt h1,show X+P - M=(X - M)+P by omega,Nat.add_mod_right,Nat.mod_eq_of_lt (by omega)]
 ·have:X % P=X - P:=by
    conv=>lhs;rw [show X=(X - P)+P by omega]
    rw [Nat.add_mod_right,Nat.mod_eq_of_lt (by omega)]
  rw [this,show X - P+P - M=X - M by omega,Nat.mod_eq_of_lt (by omega)]
theorem JU {M X:Nat} (h2:X < 2*M):X % M=if M<=X then X - M else X:=by
 by_cases h:M<=X
 ·rw [if_pos h]
  conv=>lhs;rw [show X=(X - M)+M by omega]
  rw [Nat.add_mod_right,Nat.mod_eq_of_lt (by omega)]
 ·rw [if_neg h,Nat.mod_eq_of_lt (by omega)]
theorem wG {N M:Nat} (hN:N < BB ^ 32) (hM:M < BB ^ 32) (hM0:0 < M):aw Tryz.prog 204 [SV.c (.agg (mA N)),SV.c (.agg (mA M))] (.tuple #[.agg (mA (N / M)),.agg (mA (N % M))]):=by
 obtain ⟨n,hn,hu⟩:=dK hN
 obtain ⟨m,hm,hv⟩:=dK hM
 have hu2:=IB hu
 have hv2:=IB hv
 refine dz [3] ai ak Or _ _ rfl rfl fun w=>?_
 refine ⟨cf _,cf _,fun f mm=>f=[(2,SV.ptr 2 0),(3,SV.ptr 3 0),(4,SV.ptr 4 0),(5,SV.ptr 5 0)]/\mm=[(2,Blk.row 29 32 (mA N)),(3,Blk.row 29 32 (mA M)),(4,Blk.row 29 32 (lA (fun _=>0) 32)),(5,Blk.row 29 32 (lA (fun _=>0) 32))],.inl ⟨_,jH hu hN,fun h1=>.inl ⟨_,jH hv hM,fun h2=>?_,fun h2=>?_⟩,fun h1=>⟨nofun,fun _=>?_⟩⟩,?_⟩
 ·have h1:N < 18446744073709551616:=hu2.1 (by have:=af h1;omega)
  have h2:M < 18446744073709551616:=hv2.1 (by have:=af h2;omega)
  have l1:=IU h1
  have l2:=IU h2
  have hq:N / M<=N:=Nat.div_le_self _ _
  have hr:N % M < M:=Nat.mod_lt _ hM0
  have s1:=zq (N:=N / M) (by omega)
  have s2:=zq (N:=N % M) (by omega)
  have e1:IntKind.u64.wrap (Int.tdiv (N:Nat) (M:Nat))=((N / M:Nat):Int):=by rw [pW,zk (by omega)]
  have e2:Int.tmod (N:Nat) (M:Nat)=((N % M:Nat):Int):=pU N M
  rw [<- e1] at s1
  rw [<- e2] at s2
  exact .inl ⟨_,l1,.inl ⟨_,l2,by omega,.inl ⟨_,s1,.inl ⟨_,l1,.inl ⟨_,l2,by omega,.inl ⟨_,s2,aI _,aI _,by kernel_rfl,rfl,trivial⟩⟩⟩⟩⟩⟩
 ·exact ⟨_,_,⟨rfl,rfl⟩,⟨rfl,rfl,rfl,rfl,trivial⟩,⟨rfl,rfl,rfl,rfl,trivial⟩,rfl⟩
 ·exact ⟨_,_,⟨rfl,rfl⟩,⟨rfl,rfl,rfl,rfl,trivial⟩,⟨rfl,rfl,rfl,rfl,trivial⟩,rfl⟩
 rintro f mm ⟨rfl,rfl⟩
 have b1:=oD (A:=iA false N) (z:=zN false N) ⟨false,N,hN,rfl,rfl⟩
 have b2:=oD (A:=iA false M) (z:=zN false M) ⟨false,M,hM,rfl,rfl⟩
 rw [bD] at b1 b2
 obtain ⟨n1,n2⟩:=cW N
 obtain ⟨m1,m2⟩:=cW M
 have hbM:0 < bl M:=by
  rcases Nat.eq_zero_or_pos (bl M) with e | e
  ·rw [e] at m1;simp at m1;omega
  ·exact e
 have m2:=m2 hbM
 have hb1:bl N<=1024:=jn (k:=Al) (by rw [mg,show 32*32=Al from rfl] at hN;exact hN)
 have hb2:bl M<=1024:=jn (k:=Al) (by rw [mg,show 32*32=Al from rfl] at hM;exact hM)
 have eb:IntKind.i64.wrap ((bl M:Int) - 1)=((bl M - 1:Nat):Int):=by rw [i64_in (by omega)];omega
 refine ⟨_,wy rfl,.inl ⟨_,b1,_,wy rfl,.inl ⟨_,b2,by kernel_rfl,fun h1=>?_,fun h1=>?_⟩⟩⟩
 ·have h1:bl N<=bl M - 1:=by have:=af h1;rw [eb] at this;omega
  have hlt:N < M:=by
   have:2 ^ bl N<=2 ^ (bl M - 1):=Nat.pow_le_pow_right (by omega) h1
   omega
  refine ⟨eL _ _,aI _,by kernel_rfl,?_,trivial⟩
  rw [Nat.div_eq_of_lt hlt,Nat.mod_eq_of_lt hlt]
  refine jY ?_ rfl
  rw [<- EB];rfl
 have h1:bl M - 1 < bl N:=by have:=ag h1;rw [eb] at this;omega
 obtain ⟨T,hT⟩:∃ T,bl N - (bl M - 1)=T:=⟨_,rfl⟩
 have eT:IntKind.i64.wrap ((bl N:Int) - IntKind.i64.wrap ((bl M:Int) - 1))=(T:Nat):=by rw [eb,i64_in (by omega)];omega
 have hsh:=Bf (N:=N) (n:=T) hN (by omega)
 rw [<- eT] at hsh
 have hlow:N / 2 ^ T < M:=by
  have h2:N / 2 ^ T < 2 ^ (bl M - 1):=by
   rw [Nat.div_lt_iff_lt_mul (Nat.pow_pos (by omega)),<- Nat.pow_add,show bl M - 1+T=bl N by omega]
   exact n1
  omega
 refine .inl ⟨_,hsh,aI _,?_⟩
 refine ⟨fun k f mm=>k<=T/\∃ g:Nat->Nat,(∀ j,j < 32->g j=dg (hiP (N / M) k) j)/\f=[(2,SV.ptr 2 0),(3,SV.ptr 3 0),(4,SV.ptr 4 0),(5,SV.ptr 5 0),(8,SV.c (.int .i64 ((k:Int) - 1)))]/\mm=[(2,Blk.row 29 32 (mA N)),(3,Blk.row 29 32 (mA M)),(4,Blk.row 29 32 (lA g 32)),(5,Blk.row 29 32 (mA (N / 2 ^ k % M)))],T,⟨_,_,⟨Nat.le_refl _,fun _=>0,fun j hj=>?_,rfl,rfl⟩,⟨rfl,rfl,rfl,rfl,am (by rw [eT,i64_in (by omega)]),trivial⟩,⟨rfl,rfl,rfl,bE (by rw [Nat.mod_eq_of_lt hlow]),trivial⟩,rfl⟩,?_⟩
 ·unfold hiP
  rw [Nat.div_div_eq_div_mul,Nat.mul_comm M,<- Nat.div_div_eq_div_mul,Nat.div_eq_of_lt hlow,Nat.zero_mul,ur]
 rintro k f mm ⟨hk,g,hg,rfl,rfl⟩
 refine ⟨fun h2=>?_,fun h2=>?_⟩
 ·have h2:(k:Int) - 1 >= 0:=af h2
  obtain ⟨i,rfl⟩:∃ i,k=i+1:=⟨k - 1,by omega⟩
  have hi:i < 1024:=by omega
  have ei:IntKind.i64.wrap (Int.tdiv (((i+1:Nat):Int) - 1) 32)=((i / 32:Nat):Int):=by
   rw [show ((i+1:Nat):Int) - 1=(i:Nat) by omega,show (32:Int)=((32:Nat):Int) from rfl,pW,HM (by omega)]
  have em:IntKind.u64.wrap (Int.tmod (((i+1:Nat):Int) - 1) 32)=((i % 32:Nat):Int):=by
   rw [show ((i+1:Nat):Int) - 1=(i:Nat) by omega,show (32:Int)=((32:Nat):Int) from rfl,pU,zk (by omega)]
  have gx:(mA N)[(IntKind.i64.wrap (Int.tdiv (((i+1:Nat):Int) - 1) 32)).toNat]? = some (.int .u32 (dg N (i / 32):Nat)):=by rw [ei];exact bo (by omega)
  have gq:(lA g 32)[(IntKind.i64.wrap (Int.tdiv (((i+1:Nat):Int) - 1) 32)).toNat]? = some (.int .u32 (g (i / 32):Nat)):=by rw [ei];exact bT g (by omega)
  have hx:=aR N (i / 32)
  rw [aS] at hx
  have ebit:IntKind.u32.wrap (((BitVec.ofInt IntKind.u32.bits (((dg N (i / 32):Nat):Int).fdiv (2 ^ min (Int.toNat (IntKind.u64.wrap (Int.tmod (((i+1:Nat):Int) - 1) 32))) IntKind.u32.bits)) &&& BitVec.ofInt IntKind.u32.bits 1).toNat:Nat):Int)=((N / 2 ^ i % 2:Nat):Int):=by
   rw [em,mF (dg N (i / 32)) (i % 32) (by omega) rfl,show (1:Int)=((1:Nat):Int) from rfl,Qh (Nat.lt_of_le_of_lt (Nat.div_le_self _ _) hx) (by omega),Nat.and_one_is_mod,KG]
  have hb:N / 2 ^ i % 2<=1:=by omega
  have hr:N / 2 ^ (i+1) % M < M:=Nat.mod_lt _ hM0
  have hdb:=Fs (N:=N / 2 ^ (i+1) % M) (b:=N / 2 ^ i % 2) (Nat.lt_trans hr hM) hb
  rw [<- ebit] at hdb
  have hr2:2*(N / 2 ^ (i+1) % M)+N / 2 ^ i % 2 < 2*M:=by omega
  have hrm:=(MB N M i).trans (JU hr2)
  have hqb:=MC N M i hM0
  have hgl:g (i / 32) < 4294967296:=by rw [hg _ (by omega)];exact aR _ _
  have evq:IntKind.u32.wrap (((BitVec.ofInt IntKind.u32.bits ((g (i / 32):Nat):Int) ||| BitVec.ofInt IntKind.u32.bits (IntKind.u32.wrap (1*2 ^ min (Int.toNat (IntKind.u64.wrap (Int.tmod (((i+1:Nat):Int) - 1) 32))) IntKind.u32.bits))).toNat:Nat):Int)=((g (i / 32) ||| 2 ^ (i % 32):Nat):Int):=by
   have hp:2 ^ (i % 32) < 4294967296:=Nat.pow_lt_pow_right (by omega) (Nat.mod_lt i (show 0 < 32 by omega))
   have e8:=mG 1 (i % 32) (Nat.mod_lt i (by omega))
   rw [Nat.one_mul,Nat.mod_eq_of_lt hp] at e8
   rw [em,show (1:Int)=((1:Nat):Int) from rfl,e8]
   exact Bv hgl hp
  refine ⟨by decide,by rw [ei];omega,by rw [ei];show ((i / 32:Nat):Int) < 32;omega,_,gx,by decide,by rw [em];omega,.inl ⟨_,hdb,aI _,by kernel_rfl,fun h3=>?_,fun h3=>?_⟩⟩
  ·have h3:2*(N / 2 ^ (i+1) % M)+N / 2 ^ i % 2 < BB ^ 32:=af (bq h3)
   refine .inl ⟨_,oy (Nat.mod_lt _ (bt 32)) hM,fun h4=>?_,fun h4=>?_⟩
   ·have hc:=af h4
    rw [Nat.mod_eq_of_lt h3] at hc
    have hle:M<=2*(N / 2 ^ (i+1) % M)+N / 2 ^ i % 2:=by
     unfold jK at hc
     split at hc
     ·omega
     ·omega
    have e7:=Ao hM hr2 hle
    have hdf:=g8 (N:=(2*(N / 2 ^ (i+1) % M)+N / 2 ^ i % 2) % BB ^ 32) (Nat.mod_lt _ (bt 32)) hM
    rw [e7] at hdf
    refine .inl ⟨_,hdf,aI _,by decide,by rw [ei];omega,by rw [ei];show ((i / 32:Nat):Int) < 32;omega,_,gq,by decide,by rw [em];omega,by rw [ei];omega,by rw [ei];show ((i / 32:Nat):Int) < 32;omega,by rw [ei];show i / 32 < 32;omega,rfl,_,cG (i:=i / 32) (x:=IntKind.i64.wrap (Int.tdiv (((i+1:Nat):Int) - 1) 32)) ei evq,?_⟩
    refine ⟨i,_,_,by omega,⟨by omega,_,fun j hj=>?_,rfl,rfl⟩,⟨rfl,rfl,rfl,rfl,am (by rw [i64_in (by omega)];omega),trivial⟩,⟨rfl,rfl,rfl,bE (by rw [hrm,if_pos hle]),trivial⟩,rfl⟩
    rw [qG,hqb,if_pos hle,Nat.one_mul,sS _ i j (Ag _ i)]
    by_cases e:j=i / 32
    ·subst e;rw [if_pos rfl,if_pos rfl,hg _ hj]
    ·rw [if_neg e,if_neg e,hg j hj]
   ·have hc:=ag h4
    rw [Nat.mod_eq_of_lt h3] at hc
    have hle:¬ M<=2*(N / 2 ^ (i+1) % M)+N / 2 ^ i % 2:=by
     unfold jK at hc
     split at hc
     ·omega
     ·split at hc<;>omega
    refine ⟨i,_,_,by omega,⟨by omega,g,fun j hj=>?_,rfl,rfl⟩,⟨rfl,rfl,rfl,rfl,am (by rw [i64_in (by omega)];omega),trivial⟩,⟨rfl,rfl,rfl,bE (by rw [hrm,if_neg hle,Nat.mod_eq_of_lt h3]),trivial⟩,rfl⟩
    rw [qG,hqb,if_neg hle,Nat.zero_mul,Nat.add_zero]
    exact hg j hj
  ·have h3:¬ 2*(N / 2 ^ (i+1) % M)+N / 2 ^ i % 2 < BB ^ 32:=ag (bnt h3)
   have hle:M<=2*(N / 2 ^ (i+1) % M)+N / 2 ^ i % 2:=by omega
   have e7:=Ao hM hr2 hle
   have hdf:=g8 (N:=(2*(N / 2 ^ (i+1) % M)+N / 2 ^ i % 2) % BB ^ 32) (Nat.mod_lt _ (bt 32)) hM
   rw [e7] at hdf
   refine ⟨fun _=>.inl ⟨_,hdf,aI _,by decide,by rw [ei];omega,by rw [ei];show ((i / 32:Nat):Int) < 32;omega,_,gq,by decide,by rw [em];omega,by rw [ei];omega,by rw [ei];show ((i / 32:Nat):Int) < 32;omega,by rw [ei];show i / 32 < 32;omega,rfl,_,cG (i:=i / 32) (x:=IntKind.i64.wrap (Int.tdiv (((i+1:Nat):Int) - 1) 32)) ei evq,?_⟩,nofun⟩
   refine ⟨i,_,_,by omega,⟨by omega,_,fun j hj=>?_,rfl,rfl⟩,⟨rfl,rfl,rfl,rfl,am (by rw [i64_in (by omega)];omega),trivial⟩,⟨rfl,rfl,rfl,bE (by rw [hrm,if_pos hle]),trivial⟩,rfl⟩
   rw [qG,hqb,if_pos hle,Nat.one_mul,sS _ i j (Ag _ i)]
   by_cases e:j=i / 32
   ·subst e;rw [if_pos rfl,if_pos rfl,hg _ hj]
   ·rw [if_neg e,if_neg e,hg j hj]
 ·have h2:k=0:=by have:=ag h2;omega
  subst h2
  have hA:lA g 32=mA (N / M):=aV fun j hj=>by rw [hg j hj,EU]
  refine ⟨eL _ _,aI _,by kernel_rfl,?_,trivial⟩
  rw [hA,Nat.pow_zero,Nat.div_one];rfl
theorem Mg:(lA (fun _=>0) 32).setIfInBounds 0 (.int .u32 1)=mA 1:=by
 rw [show (1:Int)=((1:Nat):Int) from rfl,l7]
 refine aV fun i hi=>?_
 by_cases h:i=0
 ·subst h;rfl
 ·rw [if_neg h]
  have:dg 1 i=0:=cw (n:=1) (by decide) (by omega)
  exact this.symm
theorem ko {A B:Array Value} {x y:Int} (hA:IsI A x) (hB:IsI B y) (hy:y≠0):aw Tryz.prog 147 [SV.c (.agg A),SV.c (.agg B)] (.tuple #[.agg (eA (x / y)),.agg (eA (x % y)),.int .i64 0]):=by
 have hx:=hA.lt
 have hyl:=hB.lt
 have hall:=Ft x y hy
 obtain ⟨a,N,hN,rfl,ex⟩:=hA.raw
 obtain ⟨b,M,hM,rfl,ey⟩:=hB.raw
 have eN:x.natAbs=N:=by rw [ex,bD]
 have eM:y.natAbs=M:=by rw [ey,bD]
 rw [eN,eM] at hall
 have hM0:0 < M:=by omega
 have hb:decide (y < 0)=b:=by
  rw [ey];cases b
  ·simp [zN]
  ·simp [zN];omega
 have ha:N≠0->decide (x < 0)=a:=fun h=>by
  rw [ex];cases a
  ·simp [zN]
  ·simp [zN];omega
 refine dz [9] ai ak Pq _ _ rfl rfl fun w=>?_
 have hql:N / M < BB ^ 32:=Nat.lt_of_le_of_lt (Nat.div_le_self _ _) hN
 have hrl:N % M < M:=Nat.mod_lt _ hM0
 have hrb:N % M < BB ^ 32:=Nat.lt_trans hrl hM
 refine ⟨br _ _,br _ _,by decide,_,cz,.inl ⟨_,lf hM,fun h=>?_,fun h=>?_⟩⟩
 ·exfalso
  have:=af h
  omega
 refine ⟨by decide,_,cz,by decide,_,cz,.inl ⟨_,wG hN hM hM0,aI _,aI _,?_⟩⟩
 have fin:∀ q,(q=0->N=0\/True)->True:=fun _ _=>trivial
 refine ⟨fun f mm=>∃ q r:Nat,q < BB ^ 32/\r < BB ^ 32/\x / y=zN (a != b) q/\x % y=r/\f=[(2,SV.ptr 2 0),(3,SV.ptr 3 0),(4,SV.ptr 4 0),(5,SV.ptr 5 0),(7,SV.ptr 7 0),(8,SV.ptr 8 0)]/\mm=[(2,Blk.row 31 33 (iA a N)),(3,Blk.row 31 33 (iA b M)),(4,Blk.row 31 33 fJ.zero),(5,Blk.row 31 33 fJ.zero),(7,Blk.row 29 32 (mA q)),(8,Blk.row 29 32 (mA r))],⟨_,dJ,fun h1=>.inl ⟨_,lf hrb,fun h2=>?_,fun h2=>?_⟩,fun h1=>⟨nofun,fun _=>?_⟩⟩,?_⟩
 ·have h1:a=true:=h1
  have h2:N % M≠0:=ag (bnt h2)
  have hn0:N≠0:=by intro e;rw [e,Nat.zero_mod] at h2;exact h2 rfl
  have hxa:=ha hn0
  rw [h1] at hxa
  rw [if_pos ⟨af hxa,h2⟩,hxa,hb] at hall
  have hql2:N / M+1 < BB ^ 32:=by
   have hb2:2<=M:=by
    rcases Nat.lt_or_ge M 2 with h | h
    ·have:M=1:=by omega
     rw [this,Nat.mod_one] at h2;exact absurd rfl h2
    ·exact h
   have h3:N / M<=N / 2:=Nat.div_le_div_left hb2 (by omega)
   have h4:4<=BB ^ 32:=Nat.le_trans (by omega) jR
   omega
  have hd:=g8 hM hrb
  rw [wI hM (Nat.le_of_lt hrl)] at hd
  have hs:=IH hql (Nat.lt_of_lt_of_le (by omega:1 < 18446744073709551616) jR)
  refine ⟨by decide,_,cz,.inl ⟨_,hd,aI _,by decide,by decide,by decide,rfl,_,Mg,.inl ⟨_,hs,aI _,_,_,⟨N / M+1,_,hql2,Nat.lt_of_le_of_lt (Nat.sub_le _ _) hM,by rw [h1];exact hall.1,hall.2,rfl,rfl⟩,⟨rfl,rfl,rfl,rfl,rfl,rfl,trivial⟩,⟨rfl,rfl,rfl,rfl,bE (by rw [Nat.mod_eq_of_lt hql2]),rfl,trivial⟩,rfl⟩⟩⟩
 ·have h1:a=true:=h1
  have h2:N % M=0:=af (bnf h2)
  rw [if_neg (fun h=>h.2 h2)] at hall
  refine ⟨_,_,⟨_,_,hql,hrb,?_,hall.2,rfl,rfl⟩,⟨rfl,rfl,rfl,rfl,rfl,rfl,trivial⟩,⟨rfl,rfl,rfl,rfl,rfl,rfl,trivial⟩,rfl⟩
  rw [hall.1,hb]
  by_cases hn0:N=0
  ·rw [hn0,Nat.zero_div];unfold zN;split<;>split<;>rfl
  ·rw [ha hn0]
 ·have h1:a=false:=h1
  have hx0:¬ x < 0:=by rw [ex,h1];simp [zN]
  rw [if_neg (fun h=>hx0 h.1),hb,decide_eq_false hx0] at hall
  exact ⟨_,_,⟨_,_,hql,hrb,by rw [h1];exact hall.1,hall.2,rfl,rfl⟩,⟨rfl,rfl,rfl,rfl,rfl,rfl,trivial⟩,⟨rfl,rfl,rfl,rfl,rfl,rfl,trivial⟩,rfl⟩
 ·rintro f mm ⟨q,r,hq,hr,e1,e2,rfl,rfl⟩
  have m1:=fD (a != b) hq
  have m2:=fD false hr
  rw [<- e1] at m1
  rw [show zN false r=x % y from e2.symm] at m2
  exact ⟨_,dJ,_,dJ,.inl ⟨_,m1,.inl ⟨_,m2,ao _,ao _,by kernel_rfl,rfl,trivial⟩⟩⟩
theorem IZ {A B:Array Value} {x y:Int} (hA:IsI A x) (hB:IsI B y):aw Tryz.prog 146 [SV.c (.agg A),SV.c (.agg B)] (.agg (eA ((Int.gcd x y:Nat):Int))):=by
 obtain ⟨a,N,hN,rfl,rfl⟩:=hA.raw
 obtain ⟨b,M,hM,rfl,rfl⟩:=hB.raw
 rw [l8]
 refine aj ai ak Pr _ _ rfl rfl fun w=>?_
 refine ⟨br _ _,br _ _,by decide,_,cz,by decide,_,cz,aI _,aI _,by kernel_rfl,?_⟩
 refine ⟨fun q f mm=>∃ u:Nat,u < BB ^ 32/\q < BB ^ 32/\Nat.gcd u q=Nat.gcd N M/\f=[(4,SV.ptr 4 0),(5,SV.ptr 5 0),(6,SV.ptr 6 0)]/\mm=[(4,Blk.row 31 33 fJ.zero),(5,Blk.row 29 32 (mA u)),(6,Blk.row 29 32 (mA q))],_,⟨_,_,⟨_,hN,hM,rfl,rfl,rfl⟩,⟨rfl,rfl,rfl,trivial⟩,⟨rfl,rfl,rfl,trivial⟩,rfl⟩,?_⟩
 rintro q f mm ⟨u,ha,hq,hg,rfl,rfl⟩
 refine .inl ⟨_,lf hq,fun h=>?_,fun h=>?_⟩
 ·have hq0:0 < q:=by
    have:q≠0:=ag (bnt h)
    omega
  have hr:=Nat.mod_lt u hq0
  exact .inl ⟨_,wG ha hq hq0,aI _,aI _,aI _,aI _,by kernel_rfl,u % q,_,_,hr,⟨_,hq,Nat.lt_trans hr hq,by rw [<- hg,Nat.gcd_comm u q,Nat.gcd_rec q u,Nat.gcd_comm],rfl,rfl⟩,⟨rfl,rfl,rfl,trivial⟩,⟨rfl,rfl,rfl,trivial⟩,rfl⟩
 ·have hq0:q=0:=af (bnf h)
  subst hq0
  have m1:=fD false ha
  rw [Nat.gcd_zero_right] at hg
  rw [show zN false u=((Nat.gcd N M:Nat):Int) by rw [<- hg];rfl] at m1
  exact .inl ⟨_,m1,ao _,rfl,trivial⟩
theorem RQ.ok_of {p q:Int} (h1:bl p.natAbs<=480) (h2:bl q.natAbs<=480) (h3:0 < q) (h4:Int.gcd p q=1):(RQ.of p q).ok=true:=by
 refine decide_eq_true ⟨h1,h2,fun h=>?_,decide_eq_false (by omega),by show 0 < q.natAbs;omega,h4⟩
 have h:=af h
 show p.natAbs≠0
 omega
theorem RQ.of_in {p q:Int} (h1:p.natAbs < BB ^ 32) (h2:q.natAbs < BB ^ 32):(RQ.of p q).In:=⟨h1,h2⟩
theorem ky {n:Int} (h1 : -9223372036854775808<=n) (h2:n<=9223372036854775807):aw Tryz.prog 36 [SV.c (.int .i64 n)] (.agg (RQ.of n 1).A):=by
 refine aj ai ak RY _ _ rfl rfl fun w=>?_
 exact .inl ⟨_,dE n h1 h2,.inl ⟨_,dE 1 (by omega) (by omega),_,eX (bW _) (bW _) rfl rfl,(RQ.of n 1).A_fits,rfl,trivial⟩⟩
theorem GC:aw Tryz.prog 32 [] (.agg (RQ.of 0 1).A):=by
 refine aj ai ak R5 _ _ rfl rfl fun w=>?_
 exact .inl ⟨_,ky (n:=0) (by omega) (by omega),(RQ.of 0 1).A_fits,rfl,trivial⟩
theorem dV {A B:Array Value} {x y:Int} (hA:IsI A x) (hB:IsI B y) (hl:(x*y).natAbs < BB ^ 32):aw Tryz.prog 93 [SV.c (.agg A),SV.c (.agg B)] (.agg (eA (x*y))):=by
 refine aj ai ak Re _ _ rfl rfl fun w=>?_
 have h:=sn hA hB
 rw [eD,if_pos hl] at h
 exact ⟨hA.size,hB.size,.inl ⟨_,h,ao _,ao _,rfl,trivial⟩⟩
theorem xZ {r:RQ} (hr:r.In) (hk:r.ok=true):aw Tryz.prog 96 [SV.c (.agg r.A)] (.agg (RQ.of (-r.p) r.q).A):=by
 have hd:iA r.b r.D=eA r.q:=by
  obtain ⟨k1,k2,k3,k4,k5⟩:=RQ.ok_bits hk
  have h:RQ.A r=RQ.A (.of r.p r.q):=congrArg RQ.A k5
  have h2:=(r.cat_r).symm.trans ((congrArg (fun x=>x.extract 33 (33+33)) h).trans (RQ.cat_r (.of r.p r.q)))
  exact h2
 refine aj ai ak Rb _ _ rfl rfl fun w=>?_
 refine ⟨r.A_size,by decide,_,r.cat_l,.inl ⟨_,zO hr.num,by decide,_,r.cat_r,_,eX (bW _) (br _ _) rfl rfl,ra (ao _) (fA _ _),by kernel_rfl,?_,trivial⟩⟩
 rw [hd];rfl
theorem nq {y:Int} {g:Nat} (hg:0 < g):decide (sgn (y / (g:Int)) < 0)=decide (y < 0):=by
 rw [gQ,decide_eq_decide]
 constructor
 ·intro h
  rcases Int.lt_or_le y 0 with h1 | h1
  ·exact h1
  ·have:=Int.ediv_nonneg h1 (show (0:Int)<=g by omega);omega
 ·intro h;exact Int.ediv_neg_of_neg_of_pos h (by omega)
theorem ol {A B:Array Value} {x y:Int} (hA:IsI A x) (hB:IsI B y):aw Tryz.prog 80 [SV.c (.agg A),SV.c (.agg B)] (iW (mkQ x y)):=by
 refine dz [8] ai ak Rl _ _ rfl rfl fun w=>?_
 refine ⟨hA.size,hB.size,.inl ⟨_,gD hB,fun h=>?_,fun h=>?_⟩⟩
 ·rw [cR] at h
  have h:=af h
  refine ⟨bZ.zero,rfl,(RQ.of 0 0).A_fits,?_,trivial⟩
  rw [mkQ,if_pos h];rfl
 rw [cR] at h
 have h:=ag h
 obtain ⟨g1,g2⟩:=yu (x:=x) h
 have gl:((Int.gcd x y:Nat):Int).natAbs < BB ^ 32:=by have:=hB.lt;omega
 have gn:((Int.gcd x y:Nat):Int)≠0:=by omega
 have d1:=ko hA (aJ gl) gn
 have d2:=ko hB (aJ gl) gn
 have lx:(x / ((Int.gcd x y:Nat):Int)).natAbs < BB ^ 32:=Nat.lt_of_le_of_lt (Int.natAbs_ediv_le_natAbs x _) hA.lt
 have ly:(y / ((Int.gcd x y:Nat):Int)).natAbs < BB ^ 32:=Nat.lt_of_le_of_lt (Int.natAbs_ediv_le_natAbs y _) hB.lt
 refine .inl ⟨_,IZ hA hB,ao _,.inl ⟨_,d1,ao _,ao _,.inl ⟨_,d2,ao _,ao _,fun f mm=>f=[(4,SV.ptr 4 0),(7,SV.ptr 7 0),(10,SV.ptr 10 0)]/\mm=[(4,Blk.row 33 66 bZ.zero),(7,Blk.row 31 33 (eA (x / (sgn y*Int.gcd x y)))),(10,Blk.row 31 33 (eA (y / (sgn y*Int.gcd x y))))],.inl ⟨_,gD (aJ ly),fun h2=>?_,fun h2=>?_⟩,?_⟩⟩⟩
 ·rw [nq g1] at h2
  have h2:=af h2
  have e:sgn y*(Int.gcd x y:Int)=-((Int.gcd x y:Nat):Int):=by unfold sgn;rw [if_pos h2];omega
  refine .inl ⟨_,zO (aJ lx),.inl ⟨_,zO (aJ ly),ao _,ao _,by kernel_rfl,_,_,⟨rfl,rfl⟩,⟨rfl,rfl,rfl,trivial⟩,⟨rfl,bE (by rw [e,Int.ediv_neg]),bE (by rw [e,Int.ediv_neg]),trivial⟩,rfl⟩⟩
 ·rw [nq g1] at h2
  have h2:=ag h2
  have e:sgn y*(Int.gcd x y:Int)=((Int.gcd x y:Nat):Int):=by unfold sgn;rw [if_neg h2,if_neg h];omega
  exact ⟨_,_,⟨rfl,rfl⟩,⟨rfl,rfl,rfl,trivial⟩,⟨rfl,bE (by rw [e]),bE (by rw [e]),trivial⟩,rfl⟩
 rintro f mm ⟨rfl,rfl⟩
 have lx2:(x / (sgn y*Int.gcd x y)).natAbs < BB ^ 32:=Nat.lt_of_le_of_lt (Int.natAbs_ediv_le_natAbs x _) hA.lt
 have ly2:(y / (sgn y*Int.gcd x y)).natAbs < BB ^ 32:=Nat.lt_of_le_of_lt (Int.natAbs_ediv_le_natAbs y _) hB.lt
 rw [mkQ,if_neg h]
 generalize x / (sgn y*Int.gcd x y)=p at *
 generalize y / (sgn y*Int.gcd x y)=q at *
 have bad:¬ (bl p.natAbs<=480/\bl q.natAbs<=480)->cT [.agg bZ.zero,.int .i64 10]=iW (if bl p.natAbs<=480/\bl q.natAbs<=480 then (.of p q,0) else (.of 0 0,10)):=fun h=>by rw [if_neg h];rfl
 refine .inl ⟨_,oD (aJ lx2),fun h2=>.inl ⟨_,oD (aJ ly2),fun h3=>⟨bZ.zero,rfl,(RQ.of 0 0).A_fits,bad ?_,trivial⟩,fun h3=>⟨_,eX (bW _) (bW _) rfl rfl,(RQ.of p q).A_fits,?_,trivial⟩⟩,fun h2=>⟨fun _=>⟨bZ.zero,rfl,(RQ.of 0 0).A_fits,bad ?_,trivial⟩,nofun⟩⟩
 ·have:=af h3
  omega
 ·have h2:=ag h2
  have h3:=ag h3
  rw [if_pos (by omega)];rfl
 ·have:=af h2
  omega
theorem Mj {n d:Int} (h1 : -9223372036854775808<=n) (h2:n<=9223372036854775807) (h3 : -9223372036854775808<=d) (h4:d<=9223372036854775807):aw Tryz.prog 74 [SV.c (.int .i64 n),SV.c (.int .i64 d)] (iW (mkQ n d)):=by
 refine aj ai ak Rq _ _ rfl rfl fun w=>?_
 exact .inl ⟨_,dE n h1 h2,.inl ⟨_,dE d h3 h4,.inl ⟨_,ol (aJ (dP h1 h2)) (aJ (dP h3 h4)),RQ.A_fits _,rfl,trivial⟩⟩⟩
theorem mV (r:RQ):r.ok=((!(r.a && decide (r.N=0))) && (!r.b && !decide (r.D=0)) && (decide (bl r.N<=480) && (decide (bl r.D<=480) && decide (Nat.gcd r.N r.D=1)))):=by
 unfold RQ.ok
 rw [Bool.eq_iff_iff]
 simp only [decide_eq_true_eq,Bool.and_eq_true,Bool.not_eq_true',Bool.and_eq_false_iff,decide_eq_false_iff_not]
 constructor
 ·rintro ⟨h1,h2,h3,h4,h5,h6⟩
  refine ⟨⟨?_,h4,by omega⟩,h1,h2,h6⟩
  by_cases h:r.a=true
  ·exact .inr (h3 h)
  ·exact .inl (by simpa using h)
 ·rintro ⟨⟨h3,h4,h5⟩,h1,h2,h6⟩
  refine ⟨h1,h2,fun h=>?_,h4,by omega,h6⟩
  rcases h3 with h3 | h3
  ·rw [h] at h3;cases h3
  ·exact h3
theorem dt {r:RQ} (h:r.In):aw Tryz.prog 92 [SV.c (.agg r.A)] (.bool r.ok):=by
 refine aj ai ak Rf _ _ rfl rfl fun w=>?_
 have s1:=gD h.num
 have s2:=gD h.den
 have b1:=oD h.num
 have b2:=oD h.den
 have hg:=IZ h.num h.den
 rw [RQ.p,bD] at b1
 rw [RQ.q,bD] at b2
 rw [RQ.p,RQ.q,l8] at hg
 have one:=dE 1 (by omega) (by omega)
 have h1l:(1:Int).natAbs < BB ^ 32:=Nat.lt_of_lt_of_le (by decide:1 < 18446744073709551616) jR
 have gl:((Nat.gcd r.N r.D:Nat):Int).natAbs < BB ^ 32:=by
  rw [Int.natAbs_natCast]
  rcases Nat.eq_zero_or_pos r.N with e | e
  ·rw [e,Nat.gcd_zero_left];exact h.D
  ·exact Nat.lt_of_le_of_lt (Nat.gcd_le_left _ e) h.N
 have z1:(sgn r.p == 0)=decide (r.N=0):=by
  rw [cR,RQ.p,decide_eq_decide]
  cases r.a<;>simp [zN]
 have z2:decide (sgn r.q<=0)=!(!r.b && !decide (r.D=0)):=by
  rw [RQ.q]
  cases hb:r.b
  ·by_cases hd:r.D=0
   ·rw [hd];rfl
   ·have:sgn (zN false r.D)=1:=by unfold sgn zN;rw [if_neg Bool.false_ne_true,if_neg (by omega),if_neg (by omega)]
    rw [this,decide_eq_false hd];rfl
  ·have:sgn (zN true r.D)<=0:=by unfold sgn zN;rw [if_pos rfl];split<;>(try split)<;>omega
   rw [decide_eq_true this];rfl
 have A0:r.A[0]? = some (.bool r.a):=by
  rw [RQ.A,Array.getElem?_append_left (by rw [br];omega)];exact dJ
 have tail:(!(r.a && decide (r.N=0)))=true->(!r.b && !decide (r.D=0))=true->r.ok=(decide (bl r.N<=480) && (decide (bl r.D<=480) && decide (Nat.gcd r.N r.D=1))):=fun h1 h2=>by rw [mV,h1,h2];rfl
 refine ⟨r.A_size,_,A0,fun h1=>⟨by decide,_,r.cat_l,.inl ⟨_,s1,fun h2=>⟨by decide,_,r.cat_r,.inl ⟨_,s2,fun h3=>?_,fun h3=>?_⟩⟩,fun h2=>⟨fun _=>⟨bv ?_,trivial⟩,nofun⟩⟩⟩,fun h1=>⟨fun _=>⟨by decide,_,r.cat_r,.inl ⟨_,s2,fun h3=>?_,fun h3=>?_⟩⟩,nofun⟩⟩
 ·have h3:decide (sgn r.q<=0)=true:=h3
  rw [z2] at h3
  refine ⟨bv ?_,trivial⟩
  rw [mV,bnt h3];simp
 ·have h3:decide (sgn r.q<=0)=false:=h3
  rw [z2] at h3
  have h2:(sgn r.p == 0)=false:=h2
  rw [z1] at h2
  have hok:=tail (by rw [h2];simp) (bq h3)
  refine ⟨by decide,_,r.cat_l,.inl ⟨_,b1,fun h4=>⟨by decide,_,r.cat_r,.inl ⟨_,b2,fun h5=>⟨by decide,_,r.cat_l,by decide,_,r.cat_r,.inl ⟨_,hg,.inl ⟨_,one,_,uk rfl gl h1l,bv ?_,trivial⟩⟩⟩,fun h5=>⟨bv ?_,trivial⟩⟩⟩,fun h4=>⟨nofun,fun _=>⟨bv ?_,trivial⟩⟩⟩⟩
  ·rw [hok,decide_eq_true (show bl r.N<=480 by have:=af h4;omega),decide_eq_true (show bl r.D<=480 by have:=af h5;omega),Bool.true_and,Bool.true_and,decide_eq_decide]
   omega
  ·rw [hok,decide_eq_false (show ¬ bl r.D<=480 by have:=ag h5;omega),Bool.false_and,Bool.and_false]
  ·rw [hok,decide_eq_false (show ¬ bl r.N<=480 by have:=ag h4;omega),Bool.false_and]
 ·have h1:r.a=true:=h1
  have h2:(sgn r.p == 0)=true:=h2
  rw [z1] at h2
  rw [mV,h1,h2];rfl
 ·have h3:decide (sgn r.q<=0)=true:=h3
  rw [z2] at h3
  refine ⟨bv ?_,trivial⟩
  rw [mV,bnt h3];simp
 ·have h3:decide (sgn r.q<=0)=false:=h3
  rw [z2] at h3
  have h1:r.a=false:=h1
  have hok:=tail (by rw [h1];rfl) (bq h3)
  refine ⟨by decide,_,r.cat_l,.inl ⟨_,b1,fun h4=>⟨by decide,_,r.cat_r,.inl ⟨_,b2,fun h5=>⟨by decide,_,r.cat_l,by decide,_,r.cat_r,.inl ⟨_,hg,.inl ⟨_,one,_,uk rfl gl h1l,bv ?_,trivial⟩⟩⟩,fun h5=>⟨bv ?_,trivial⟩⟩⟩,fun h4=>⟨nofun,fun _=>⟨bv ?_,trivial⟩⟩⟩⟩
  ·rw [hok,decide_eq_true (show bl r.N<=480 by have:=af h4;omega),decide_eq_true (show bl r.D<=480 by have:=af h5;omega),Bool.true_and,Bool.true_and,decide_eq_decide]
   omega
  ·rw [hok,decide_eq_false (show ¬ bl r.D<=480 by have:=ag h5;omega),Bool.false_and,Bool.and_false]
  ·rw [hok,decide_eq_false (show ¬ bl r.N<=480 by have:=ag h4;omega),Bool.false_and]
theorem KJ {r s:RQ} (hr:r.In) (hs:s.In):aw Tryz.prog 37 [SV.c (.agg r.A),SV.c (.agg s.A)] (iW (gB false r s)):=by
 refine aj ai ak RX _ _ rfl rfl fun w=>?_
 refine ⟨r.A_size,s.A_size,.inl ⟨_,dt hr,fun h1=>.inl ⟨_,dt hs,fun h2=>?_,fun h2=>?_⟩,fun h1=>?_⟩⟩
 ·have h2:=bnt h2
  refine ⟨bZ.zero,rfl,(RQ.of 0 0).A_fits,?_,trivial⟩
  rw [gB,h2,Bool.and_false,if_neg Bool.false_ne_true];rfl
 ·have h1:=bq h1
  have h2:=bnf h2
  obtain ⟨k1,k2,k3,k4⟩:=j7 h1 h2 false
  have ha:=AR (aJ k1) (aJ (z:=sg false (s.p*r.q)) k2)
  rw [eD,if_pos k4] at ha
  refine ⟨by decide,_,r.cat_l,by decide,_,s.cat_r,.inl ⟨_,dV hr.num hs.den k1,by decide,_,s.cat_l,by decide,_,r.cat_r,.inl ⟨_,dV hs.num hr.den k2,.inl ⟨_,ha,ao _,by kernel_rfl,by decide,_,r.cat_r,by decide,_,s.cat_r,.inl ⟨_,dV hr.den hs.den k3,.inl ⟨_,ol (aJ k4) (aJ k3),RQ.A_fits _,by kernel_rfl,?_,trivial⟩⟩⟩⟩⟩⟩
  rw [gB,h1,h2,Bool.and_true,if_pos rfl];rfl
 ·have h1:=bnt h1
  refine ⟨fun _=>⟨bZ.zero,rfl,(RQ.of 0 0).A_fits,?_,trivial⟩,nofun⟩
  rw [gB,h1,Bool.false_and,if_neg Bool.false_ne_true];rfl
theorem J3 {s:RQ} (h:s.ok=true):(RQ.of (-s.p) s.q).ok=true/\(RQ.of (-s.p) s.q).In:=by
 obtain ⟨k1,k2,k3,k4,k5⟩:=RQ.ok_bits h
 refine ⟨RQ.ok_of (by rw [Int.natAbs_neg];exact k1) k2 k3 (by rw [Int.neg_gcd];exact k4),?_⟩
 have key:∀ z:Int,bl z.natAbs<=480->z.natAbs < BB ^ 32:=fun z h=>Nat.lt_trans (Nat.lt_of_lt_of_le (cW _).1 (Nat.pow_le_pow_right (j:=d7) (by omega) h)) qF
 exact RQ.of_in (by rw [Int.natAbs_neg];exact key _ k1) (key _ k2)
theorem JN {r s:RQ} (hr:r.In) (hs:s.In):aw Tryz.prog 39 [SV.c (.agg r.A),SV.c (.agg s.A)] (iW (gB true r s)):=by
 refine aj ai ak RV _ _ rfl rfl fun w=>?_
 refine ⟨r.A_size,s.A_size,.inl ⟨_,dt hr,fun h1=>.inl ⟨_,dt hs,fun h2=>?_,fun h2=>?_⟩,fun h1=>?_⟩⟩
 ·have h2:=bnt h2
  refine ⟨bZ.zero,rfl,(RQ.of 0 0).A_fits,?_,trivial⟩
  rw [gB,h2,Bool.and_false,if_neg Bool.false_ne_true];rfl
 ·have h1:=bq h1
  have h2:=bnf h2
  obtain ⟨n1,n2⟩:=J3 h2
  have e:gB false r (.of (-s.p) s.q)=gB true r s:=by
   unfold gB
   rw [h1,h2,n1,RQ.of_p,RQ.of_q]
   simp only [sg,Bool.and_true,if_true,Bool.false_eq_true,if_false,Int.neg_mul]
  have ha:=KJ hr n2
  rw [e] at ha
  exact .inl ⟨_,xZ hs h2,.inl ⟨_,ha,RQ.A_fits _,by kernel_rfl,rfl,trivial⟩⟩
 ·have h1:=bnt h1
  refine ⟨fun _=>⟨bZ.zero,rfl,(RQ.of 0 0).A_fits,?_,trivial⟩,nofun⟩
  rw [gB,h1,Bool.false_and,if_neg Bool.false_ne_true];rfl
theorem x6 {r s:RQ} (hr:r.In) (hs:s.In):aw Tryz.prog 35 [SV.c (.agg r.A),SV.c (.agg s.A)] (iW (bI r s)):=by
 refine aj ai ak RZ _ _ rfl rfl fun w=>?_
 refine ⟨r.A_size,s.A_size,.inl ⟨_,dt hr,fun h1=>.inl ⟨_,dt hs,fun h2=>?_,fun h2=>?_⟩,fun h1=>?_⟩⟩
 ·have h2:=bnt h2
  refine ⟨bZ.zero,rfl,(RQ.of 0 0).A_fits,?_,trivial⟩
  rw [bI,h2,Bool.and_false,if_neg Bool.false_ne_true];rfl
 ·have h1:=bq h1
  have h2:=bnf h2
  have k1:=RQ.ok_bits h1
  have k2:=RQ.ok_bits h2
  have m1:=dh k1.1 k2.1
  have m2:=dh k1.2.1 k2.2.1
  refine ⟨by decide,_,r.cat_l,by decide,_,s.cat_l,.inl ⟨_,dV hr.num hs.num m1,by decide,_,r.cat_r,by decide,_,s.cat_r,.inl ⟨_,dV hr.den hs.den m2,.inl ⟨_,ol (aJ m1) (aJ m2),RQ.A_fits _,by kernel_rfl,?_,trivial⟩⟩⟩⟩
  rw [bI,h1,h2,Bool.and_true,if_pos rfl];rfl
 ·have h1:=bnt h1
  refine ⟨fun _=>⟨bZ.zero,rfl,(RQ.of 0 0).A_fits,?_,trivial⟩,nofun⟩
  rw [bI,h1,Bool.false_and,if_neg Bool.false_ne_true];rfl
def fF (r:RQ):RQ×Int:=if r.ok then (.of (r.p.natAbs:Int) r.q,0) else (.of 0 0,20)
theorem FC {r:RQ} (hk:r.ok=true):iA r.b r.D=eA r.q:=by
 obtain ⟨k1,k2,k3,k4,k5⟩:=RQ.ok_bits hk
 have h:RQ.A r=RQ.A (.of r.p r.q):=congrArg RQ.A k5
 exact (r.cat_r).symm.trans ((congrArg (fun x=>x.extract 33 (33+33)) h).trans (RQ.cat_r (.of r.p r.q)))
theorem KL {r:RQ} (hr:r.In):aw Tryz.prog 40 [SV.c (.agg r.A)] (iW (fF r)):=by
 refine aj ai ak RU _ _ rfl rfl fun w=>?_
 refine ⟨r.A_size,.inl ⟨_,dt hr,fun h1=>?_,fun h1=>?_⟩⟩
 ·have h1:=bnt h1
  refine ⟨bZ.zero,rfl,(RQ.of 0 0).A_fits,?_,trivial⟩
  rw [fF,h1,if_neg Bool.false_ne_true];rfl
 ·have h1:=bnf h1
  refine ⟨by decide,_,r.cat_l,.inl ⟨_,Gt hr.num,by decide,_,r.cat_r,_,eX (bW _) (br _ _) rfl rfl,ra (ao _) (fA _ _),by kernel_rfl,?_,trivial⟩⟩
  rw [fF,h1,if_pos rfl,FC h1];rfl
theorem mc {r s:RQ} (hr:r.In) (hs:s.In) (h1:(r.p*s.q).natAbs < BB ^ 32) (h2:(s.p*r.q).natAbs < BB ^ 32):aw Tryz.prog 41 [SV.c (.agg r.A),SV.c (.agg s.A)] (.int .i64 (dp (r.p*s.q) (s.p*r.q))):=by
 refine aj ai ak RR _ _ rfl rfl fun w=>?_
 exact ⟨r.A_size,s.A_size,by decide,_,r.cat_l,by decide,_,s.cat_r,.inl ⟨_,dV hr.num hs.den h1,by decide,_,s.cat_l,by decide,_,r.cat_r,.inl ⟨_,dV hs.num hr.den h2,.inl ⟨_,I2 (aJ h1) (aJ h2),by kernel_rfl,rfl,trivial⟩⟩⟩⟩
def cZ (r:RQ) (lo hi:Int):Bool:=r.ok && (decide (lo*r.q<=r.p) && decide (r.p<=hi*r.q))
theorem As (x y:Int):decide (dp x y >= 0)=decide (y<=x):=by
 rw [Bool.eq_iff_iff];simp only [decide_eq_true_eq];unfold dp;split
 ·omega
 ·split<;>omega
theorem jo {r:RQ} (hr:r.In) {lo hi:Int} (l1 : -9223372036854775808<=lo) (l2:lo<=9223372036854775807) (u1 : -9223372036854775808<=hi) (u2:hi<=9223372036854775807):aw Tryz.prog 136 [SV.c (.agg r.A),SV.c (.int .i64 lo),SV.c (.int .i64 hi)] (.bool (cZ r lo hi)):=by
 refine aj ai ak Px _ _ rfl rfl fun w=>?_
 have key:∀ n:Int,-9223372036854775808<=n->n<=9223372036854775807->r.ok=true->aw Tryz.prog 41 [SV.c (.agg r.A),SV.c (.agg (RQ.of n 1).A)] (.int .i64 (dp r.p (n*r.q))):=fun n a b hk=>by
  have k1:=RQ.ok_bits hk
  have hb:bl n.natAbs<=480:=Nat.le_trans (jn (k:=64) (by omega)) (by omega)
  have h1:(r.p*(RQ.of n 1).q).natAbs < BB ^ 32:=by rw [RQ.of_q];exact dh k1.1 (by decide)
  have h2:((RQ.of n 1).p*r.q).natAbs < BB ^ 32:=by rw [RQ.of_p];exact dh hb k1.2.1
  have:=mc hr (s:=.of n 1) ⟨dP a b,dP (n:=1) (by omega) (by omega)⟩ h1 h2
  rw [RQ.of_p,RQ.of_q,Int.mul_one] at this
  exact this
 refine ⟨r.A_size,.inl ⟨_,dt hr,fun h1=>.inl ⟨_,ky l1 l2,.inl ⟨_,key lo l1 l2 h1,fun h2=>.inl ⟨_,ky u1 u2,.inl ⟨_,key hi u1 u2 h1,by kernel_rfl,bv ?_,trivial⟩⟩,fun h2=>⟨by kernel_rfl,bv ?_,trivial⟩⟩⟩,fun h1=>⟨nofun,fun _=>⟨by kernel_rfl,bv ?_,trivial⟩⟩⟩⟩
 ·have h1:r.ok=true:=h1
  have h2:decide (dp r.p (lo*r.q) >= 0)=true:=h2
  rw [As] at h2
  rw [cZ,h1,h2,uu];rfl
 ·have h2:decide (dp r.p (lo*r.q) >= 0)=false:=h2
  rw [As] at h2
  rw [cZ,h2,Bool.false_and,Bool.and_false]
 ·have h1:r.ok=false:=h1
  rw [cZ,h1];rfl
theorem ve {E:Env} (hE:E.P=Tryz.prog) (r:RQ):bB E (Instr.field 33 (.agg r.A) 0) (.agg (iA r.a r.N)):=fun w _=>by
 rw [hE]
 have h:=cv (P:=Tryz.prog) uP rfl r.A 0 w
 have e:r.A.extract 0 (0+fJ.size)=iA r.a r.N:=r.cat_l
 rw [e] at h
 simp [Instr.field,Sem.run_bind,run_underlying Tryz.underlying33,asAgg,h]
theorem zH {n:Nat} (h:n<=18):aw Tryz.prog 286 [SV.c (.int .i64 n)] (.agg (RQ.of ((tp n:Nat):Int) 1).A):=by
 refine aj ai ak Nb _ _ rfl rfl fun w=>?_
 have hpn:=oJ h
 rw [GN] at hpn
 refine ⟨fun q f m=>∃ i:Nat,q=n - i/\i<=n/\f=[(0,SV.c (.int .i64 n)),(2,SV.ptr 2 0),(3,SV.c (.int .i64 ((tp i:Nat):Int))),(4,SV.c (.int .i64 i))]/\m=[(2,Blk.row 33 66 bZ.zero)],n,⟨_,_,⟨0,rfl,Nat.zero_le _,rfl,rfl⟩,⟨rfl,rfl,rfl,rfl,trivial⟩,⟨rfl,trivial⟩,rfl⟩,?_⟩
 rintro q f m ⟨i,rfl,hi,rfl,rfl⟩
 refine ⟨fun h1=>?_,fun h1=>?_⟩
 ·have h1:(i:Int) < n:=af h1
  have hp:tp (i+1)<=tp 18:=oJ (by omega)
  refine ⟨n - (i+1),_,_,by omega,⟨i+1,rfl,by omega,rfl,rfl⟩,⟨rfl,rfl,am ?_,am (by rw [i64_in (by omega)];rfl),trivial⟩,⟨rfl,trivial⟩,rfl⟩
  rw [pb,GN] at hp
  rw [pb]
  rw [i64_in (by omega)]
  omega
 ·have h1:¬ ((i:Int) < n):=ag h1
  obtain rfl:i=n:=by omega
  exact .inl ⟨_,ky (by omega) (by omega),RQ.A_fits _,rfl,trivial⟩
theorem u4 {r:RQ} (hr:r.In) (hk:r.ok=true) {n:Nat} (hn:n<=9):aw Tryz.prog 243 [SV.c (.agg r.A),SV.c (.int .i64 n)] (.tuple #[.agg (eA (r.p*((tp n:Nat):Int))),.agg (eA r.q)]):=by
 refine aj ai ak NO _ _ rfl rfl fun w=>?_
 obtain ⟨k1,k2,k3,k4,k5⟩:=RQ.ok_bits hk
 have hp:=oJ hn
 rw [tp9] at hp
 have hl:=u5 k1 hn
 have hm:=sn hr.num (aJ (z:=((tp n:Nat):Int)) (dP (by omega) (by omega)))
 rw [eD,if_pos hl] at hm
 rw [<- FC hk]
 exact ⟨r.A_size,by decide,_,r.cat_l,.inl ⟨_,zH (by omega),_,ve rfl (.of _ _),.inl ⟨_,hm,ao _,by kernel_rfl,by decide,_,r.cat_r,ao _,fA _ _,by kernel_rfl,rfl,trivial⟩⟩⟩
def DS (n:Int):Bool:=decide (n >= 0) && decide (n<=9)
theorem mS {n:Int}:DS n=true↔¬ (n < 0\/n > 9):=by
 unfold DS;simp only [Bool.and_eq_true,decide_eq_true_eq];omega
theorem vE (n:Int):aw Tryz.prog 242 [SV.c (.int .i64 n)] (.bool (DS n)):=by
 refine aj ai ak NP _ _ rfl rfl fun w=>?_
 refine ⟨fun h=>⟨bv ?_,trivial⟩,fun h=>⟨bv ?_,trivial⟩⟩
 ·have h:decide (n >= 0)=true:=h
  rw [DS,h,Bool.true_and]
 ·have h:decide (n >= 0)=false:=h
  rw [DS,h,Bool.false_and]
theorem Iv {mode:Int} (_hm:¬ (mode < 1\/mode > 6)) (neg:Bool) (half:Int) (odd:Bool):aw Tryz.prog 244 [SV.c (.int .i64 mode),SV.c (.bool neg),SV.c (.int .i64 half),SV.c (.bool odd)] (.bool (upM mode neg half odd)):=by
 refine aj ai ak NN _ _ rfl rfl fun w=>?_
 unfold upM
 refine ⟨fun h1=>⟨bv ?_,trivial⟩,fun h1=>⟨fun h2=>⟨bv ?_,trivial⟩,fun h2=>⟨fun h3=>⟨bv ?_,trivial⟩,fun h3=>⟨fun h4=>⟨bv ?_,trivial⟩,fun h4=>⟨fun h5=>⟨bv ?_,trivial⟩,fun h5=>⟨fun h6=>⟨bv ?_,trivial⟩,fun h6=>⟨bv ?_,trivial⟩⟩⟩⟩⟩⟩⟩
 all_goals simp only [beq_iff_eq,beq_eq_false_iff_ne,ne_eq,bne_iff_ne,bne_eq_false_iff_eq] at *
 ·rw [if_pos h1]
 ·rw [if_neg h1,if_pos h2]
 ·rw [if_neg h1,if_neg h2,if_pos h3]
 ·rw [if_neg h1,if_neg h2,if_neg h3,if_pos h4]
 ·rw [if_neg h1,if_neg h2,if_neg h3,if_neg h4,if_neg h5,if_neg h5,ite_self]
 ·rw [if_neg h1,if_neg h2,if_neg h3,if_neg h4,if_pos h6,if_pos h5]
 ·rw [if_neg h1,if_neg h2,if_neg h3,if_neg h4,if_neg h6,if_pos h5]
theorem zx {r:RQ} (hr:r.In) (n mode:Int):aw Tryz.prog 202 [SV.c (.agg r.A),SV.c (.int .i64 n),SV.c (.int .i64 mode)] (Md (gS r n mode)):=by
 refine aj ai ak Ou _ _ rfl rfl fun w=>?_
 refine ⟨r.A_size,.inl ⟨_,dt hr,fun h1=>⟨fJ.zero,rfl,ao 0,?_,trivial⟩,fun h1=>.inl ⟨_,vE n,fun h2=>⟨fJ.zero,rfl,ao 0,?_,trivial⟩,fun h2=>⟨fun h3=>⟨fun h4=>⟨fJ.zero,rfl,ao 0,?_,trivial⟩,fun h4=>?_⟩,fun h3=>⟨fun _=>⟨fJ.zero,rfl,ao 0,?_,trivial⟩,nofun⟩⟩⟩⟩⟩
 ·have h1:=bnt h1
  rw [gS,h1,Bool.not_false,if_pos rfl];rfl
 all_goals
  have hk:=bnf h1
  clear h1
 ·have h2:=bnt h2
  have h2:n < 0\/n > 9:=Decidable.of_not_not fun h=>by rw [mS.2 h] at h2;cases h2
  rw [gS,hk,Bool.not_true,if_neg Bool.false_ne_true,if_pos h2];rfl
 all_goals
  have hn:=mS.1 (bnf h2)
  clear h2
 ·have h4:=af h4
  rw [gS,hk,Bool.not_true,if_neg Bool.false_ne_true,if_neg hn,if_pos (.inr h4)];rfl
 rotate_left
 ·have h3:=af h3
  rw [gS,hk,Bool.not_true,if_neg Bool.false_ne_true,if_neg hn,if_pos (.inl h3)];rfl
 have h3:=ag h3
 have h4:=ag h4
 have hm:¬ (mode < 1\/mode > 6):=by omega
 obtain ⟨k,rfl⟩:∃ k:Nat,n=k:=⟨n.toNat,by omega⟩
 have hk9:k<=9:=by omega
 obtain ⟨k1,k2,k3,k4,k5⟩:=RQ.ok_bits hk
 have hs:=u4 hr hk hk9
 have hl:=jg k1 hk9
 have hql:r.q.natAbs < 2 ^ d7:=Nat.lt_of_lt_of_le (cW _).1 (Nat.pow_le_pow_right (by omega) k2)
 have hrl:(r.p*((tp k:Nat):Int) % r.q).natAbs < 2 ^ d7:=by
  have h1:=Int.emod_lt_of_pos (r.p*((tp k:Nat):Int)) k3
  have h2:=Int.emod_nonneg (r.p*((tp k:Nat):Int)) (show r.q≠0 by omega)
  omega
 have hlow:(r.p*((tp k:Nat):Int) / r.q).natAbs < 2 ^ km:=Nat.lt_of_le_of_lt (Int.natAbs_ediv_le_natAbs _ _) hl
 have p1:=qF
 have p2:=wa
 have p3:=Af
 have pp:2 ^ d7+2 ^ d7<=2 ^ km:=by decide +kernel
 have p4:1<=2 ^ km:=Nat.pow_pos (by omega)
 rw [gS,hk,Bool.not_true,if_neg Bool.false_ne_true,if_neg hn,if_neg hm,Int.toNat_natCast]
 unfold rA
 have hd:=ko (aJ (z:=r.p*((tp k:Nat):Int)) (by omega)) (aJ (z:=r.q) (by omega)) (by omega)
 have hsx:=gD (aJ (z:=r.p*((tp k:Nat):Int)) (by omega))
 generalize r.p*((tp k:Nat):Int) / r.q=low at *
 generalize r.p*((tp k:Nat):Int) % r.q=rest at *
 generalize r.p*((tp k:Nat):Int)=x at *
 have ht:=AR (aJ (z:=rest) (by omega)) (aJ (z:=rest) (by omega))
 rw [eD,if_pos (by omega)] at ht
 have hcm:=I2 (aJ (z:=rest+rest) (by omega)) (aJ (z:=r.q) (by omega))
 have ha:=AR (aJ (z:=low) (by omega)) (aJ (z:=1) (by omega))
 rw [eD,if_pos (by omega)] at ha
 have g0:(eA low)[1]? = some (.int .u32 (dg low.natAbs 0:Nat)):=ot (i:=0) (by omega)
 have eodd:(((((dg low.natAbs 0:Nat):Int)).tmod 2) == 1)=decide (low % 2=1):=by
  rw [dg0,Bool.eq_iff_iff]
  simp only [beq_iff_eq,decide_eq_true_eq]
  rw [Int.tmod_eq_emod_of_nonneg (by omega)]
  omega
 have hab:=Iv hm (decide (sgn x < 0)) (dp (rest+rest) r.q) (((((dg low.natAbs 0:Nat):Int)).tmod 2) == 1)
 refine .inl ⟨_,hs,ao _,ao _,.inl ⟨_,hd,ao _,ao _,.inl ⟨_,gD (aJ (z:=rest) (by omega)),fun h1=>?_,fun h1=>?_⟩⟩⟩
 ·rw [cR] at h1
  have h1:rest=0:=af h1
  refine ⟨ao _,?_,trivial⟩
  rw [if_pos h1];rfl
 ·rw [cR] at h1
  have h1:¬ rest=0:=ag h1
  rw [if_neg h1]
  refine .inl ⟨_,ht,ao _,.inl ⟨_,hsx,.inl ⟨_,hcm,by decide,by decide,_,g0,by decide,.inl ⟨_,hab,by kernel_rfl,fun h2=>?_,fun h2=>?_⟩⟩⟩⟩
  ·have h2:upM mode (decide (sgn x < 0)) (dp (rest+rest) r.q) (((((dg low.natAbs 0:Nat):Int)).tmod 2) == 1)=true:=h2
   rw [eodd,gQ] at h2
   refine .inl ⟨_,dE 1 (by omega) (by omega),.inl ⟨_,ha,ao _,by kernel_rfl,ao _,?_,trivial⟩⟩
   rw [h2,if_pos rfl];rfl
  ·have h2:upM mode (decide (sgn x < 0)) (dp (rest+rest) r.q) (((((dg low.natAbs 0:Nat):Int)).tmod 2) == 1)=false:=h2
   rw [eodd,gQ] at h2
   refine ⟨ao _,?_,trivial⟩
   rw [h2,if_neg Bool.false_ne_true];rfl
theorem p9 {r:RQ} (hr:r.In) (n mode:Int):aw Tryz.prog 143 [SV.c (.agg r.A),SV.c (.int .i64 n),SV.c (.int .i64 mode)] (G7 (kS (gS r n mode))):=by
 refine aj ai ak Pu _ _ rfl rfl fun w=>?_
 have hx:=zx hr n mode
 have hlt:=zz r n mode
 generalize gS r n mode=x at *
 obtain ⟨x,e⟩:=x
 have ht:=GT (aJ hlt)
 have hx:aw Tryz.prog 202 [SV.c (.agg r.A),SV.c (.int .i64 n),SV.c (.int .i64 mode)] (.tuple #[.agg (eA x),.int .i64 e]):=hx
 have ht:aw Tryz.prog 203 [SV.c (.agg (eA x))] (dG x):=ht
 refine ⟨r.A_size,.inl ⟨_,hx,ao _,fun h=>?_,fun h=>?_⟩⟩
 ·have h:e≠0:=by simpa using h
  refine ⟨?_,trivial⟩
  rw [kS,if_pos h];rfl
 ·have h:¬ (e≠0):=by simpa using h
  rw [kS,if_neg h]
  by_cases hz : -9223372036854775808<=x/\x<=9223372036854775807
  ·rw [dG,if_pos hz] at ht
   refine .inl ⟨_,ht,fun _=>⟨fun h1=>⟨fun h2=>?_,fun h2=>?_⟩,fun h1=>⟨fun _=>?_,nofun⟩⟩,nofun⟩
   ·have h2:=af h2
    refine ⟨?_,trivial⟩
    rw [if_pos (.inl h2)];rfl
   ·have h1:=ag h1
    have h2:=ag h2
    refine ⟨?_,trivial⟩
    rw [if_neg (by omega)];rfl
   ·have h1:=af h1
    refine ⟨?_,trivial⟩
    rw [if_pos (.inr h1)];rfl
  ·rw [dG,if_neg hz] at ht
   refine .inl ⟨_,ht,nofun,fun _=>⟨nofun,fun _=>⟨fun _=>⟨?_,trivial⟩,nofun⟩⟩⟩
   rw [if_pos (show (x,e).1 < -1000000000000000\/(x,e).1 > 1000000000000000 by show x < _\/x > _;omega)];rfl
def wC (r:RQ) (n:Int):Bool×Int:=if !r.ok then (false,20) else if n < 0\/n > 9 then (false,30) else (decide (r.p*(tp n.toNat:Nat) % r.q=0),0)
theorem H2 {r:RQ} (hr:r.In) (n:Int):aw Tryz.prog 281 [SV.c (.agg r.A),SV.c (.int .i64 n)] (.tuple #[.bool (wC r n).1,.int .i64 (wC r n).2]):=by
 refine aj ai ak Ng _ _ rfl rfl fun w=>?_
 refine ⟨r.A_size,.inl ⟨_,dt hr,fun h1=>⟨?_,trivial⟩,fun h1=>.inl ⟨_,vE n,fun h2=>⟨?_,trivial⟩,fun h2=>?_⟩⟩⟩
 ·have h1:=bnt h1
  rw [wC,h1,Bool.not_false,if_pos rfl];rfl
 all_goals
  have hk:=bnf h1
  clear h1
 ·have h2:=bnt h2
  have h2:n < 0\/n > 9:=Decidable.of_not_not fun h=>by rw [mS.2 h] at h2;cases h2
  rw [wC,hk,Bool.not_true,if_neg Bool.false_ne_true,if_pos h2];rfl
 have hn:=mS.1 (bnf h2)
 obtain ⟨k,rfl⟩:∃ k:Nat,n=k:=⟨n.toNat,by omega⟩
 have hk9:k<=9:=by omega
 obtain ⟨k1,k2,k3,k4,k5⟩:=RQ.ok_bits hk
 have hs:=u4 hr hk hk9
 have hl:=jg k1 hk9
 have hql:r.q.natAbs < 2 ^ d7:=Nat.lt_of_lt_of_le (cW _).1 (Nat.pow_le_pow_right (by omega) k2)
 have hrl:(r.p*((tp k:Nat):Int) % r.q).natAbs < 2 ^ d7:=by
  have h1:=Int.emod_lt_of_pos (r.p*((tp k:Nat):Int)) k3
  have h2:=Int.emod_nonneg (r.p*((tp k:Nat):Int)) (show r.q≠0 by omega)
  omega
 have p1:=qF
 have p2:=wa
 rw [wC,hk,Bool.not_true,if_neg Bool.false_ne_true,if_neg hn,Int.toNat_natCast]
 have hd:=ko (aJ (z:=r.p*((tp k:Nat):Int)) (by omega)) (aJ (z:=r.q) (by omega)) (by omega)
 generalize r.p*((tp k:Nat):Int) % r.q=rest at *
 refine .inl ⟨_,hs,ao _,ao _,.inl ⟨_,hd,ao _,ao _,.inl ⟨_,gD (aJ (z:=rest) (by omega)),jY (bv cR) rfl,trivial⟩⟩⟩
end Go.Proofs.YtklehfchdoikeaaGreatDoor
