/- walks: the reference, quotients. walks: the reference, pairs. walks: the reference, rounding; no condition. -/
import Derived.Test.YtnfmpddhcjkjbaaGreatDoorP16
set_option maxRecDepth 100000
set_option maxHeartbeats 4000000
namespace Go.Proofs.YtnfmpddhcjkjbaaGreatDoor
open Go Go.RowKit Go.SX
theorem low_r {N:Nat} (hN:N < 18446744073709551616):Pure Tryz.prog 109 [SV.c (.agg (mA N))] (.int .u64 (N:Nat)):=by
 refine sx_pure tt_ok mixed at109 _ _ rfl rfl fun w=>?_
 have eu:=hilo (dg_lt N 1) (dg_lt N 0) rfl rfl
 have ed:dg N 1*BB+dg N 0=N:=by
  simp only [dg,BB_eq,Nat.pow_one,Nat.pow_zero,Nat.div_one];omega
 rw [ed] at eu
 have g1:(mA N)[1]? = some (.int .u32 (dg N 1:Nat)):=mA_get (by omega)
 have g0:(mA N)[0]? = some (.int .u32 (dg N 0:Nat)):=mA_get (by omega)
 exact ⟨mA_size _,by decide,by decide,_,g1,by decide,by decide,by decide,_,g0,by rw [eu];rfl,trivial⟩
theorem small_r {N:Nat} (hN:N < 18446744073709551616):Pure Tryz.prog 108 [SV.c (.int .u64 (N:Nat))] (.agg (mA N)):=by
 refine sx_pure tt_ok mixed at108 _ _ rfl rfl fun w=>?_
 have e0:IntKind.u32.wrap ((N:Nat):Int)=((N % 4294967296:Nat):Int):=by rw [u32_wrap];omega
 have e1:IntKind.u32.wrap (((N:Nat):Int).fdiv (2 ^ min (Int.toNat 32) IntKind.u64.bits))=((N / 4294967296:Nat):Int):=by
  rw [show ((N:Nat):Int).fdiv (2 ^ min (Int.toNat 32) IntKind.u64.bits)=((N / 4294967296:Nat):Int) from sh_nat _ 32]
  exact u32_in (by omega)
 have hA:lA (fun k=>if k=1 then N / 4294967296 else (fun k=>if k=0 then N % 4294967296 else (fun _=>0) k) k) 32=mA N:=lA_congr fun i hi=>by
  by_cases h1:i=1
  ·subst h1
   rw [if_pos rfl]
   simp only [dg,BB_eq,Nat.pow_one];omega
  ·rw [if_neg h1]
   by_cases h0:i=0
   ·subst h0
    simp only [if_true]
    simp only [dg,BB_eq,Nat.pow_zero,Nat.div_one]
   ·simp only [if_neg h0]
    rw [dg_hi hN (by omega)]
 refine ⟨by decide,by decide,by decide,by decide,rfl,_,lA_put (G:=fun _=>0) (n:=32) (i:=0) (x:=((0:Nat):Int)) rfl e0,by decide,by decide,by decide,rfl,_,lA_put (i:=1) (x:=((1:Nat):Int)) rfl e1,?_⟩
 exact ⟨lA_fits _ _,by rw [hA];rfl,trivial⟩
theorem and32 {A B:Nat} (hA:A < 4294967296) (hB:B < 4294967296):IntKind.u32.wrap (((BitVec.ofInt IntKind.u32.bits (A:Int) &&& BitVec.ofInt IntKind.u32.bits (B:Int)).toNat:Nat):Int)=((A &&& B:Nat):Int):=by
 have h:A &&& B < 4294967296:=Nat.and_lt_two_pow (n:=32) _ hB
 rw [BitVec.toNat_and,BitVec.ofInt_natCast,BitVec.ofInt_natCast,BitVec.toNat_ofNat,BitVec.toNat_ofNat]
 show IntKind.u32.wrap (((A % 4294967296 &&& B % 4294967296:Nat)):Int)=_
 rw [Nat.mod_eq_of_lt hA,Nat.mod_eq_of_lt hB,u32_in (by omega)]
theorem u64_nat {x:Nat} (h:x < 18446744073709551616):IntKind.u64.wrap (x:Int)=x:=u64_in ⟨Int.natCast_nonneg x,by omega⟩
theorem i64_nat {x:Nat} (h:x≤9223372036854775807):IntKind.i64.wrap (x:Int)=x:=i64_in ⟨by omega,by omega⟩
theorem used2 {N n:Nat} (hu:IsUsed N n):n≤2↔N < 18446744073709551616:=by
 have e:BB ^ 2=18446744073709551616:=by decide
 constructor
 ·intro h
  have h4:BB ^ n≤BB ^ 2:=Nat.pow_le_pow_right BB_pos h
  rw [e] at h4
  have:=hu.1
  omega
 ·intro h
  rcases Nat.lt_or_ge 2 n with h2 | h2
  ·have h3:=hu.2 (by omega)
   have h4:BB ^ 2≤BB ^ (n - 1):=Nat.pow_le_pow_right BB_pos (by omega)
   omega
  ·exact h2
theorem fill_mag {N:Nat} {pl:List (Nat×Nat)} (hpl:pl=[(0,1),(1,32)]):Instr.fill (fun k=>pl[k]?) ti25.zero [(1,.agg (mA N))]=some (iA false N):=by
 subst hpl
 kernel_rfl
theorem bit_at (N i:Nat):dg N (i / 32) / 2 ^ (i % 32) % 2=N / 2 ^ i % 2:=by
 have h:=dg_bit N (i / 32) (i % 32)
 rw [show 32*(i / 32)+i % 32=i by omega,decide_eq_true (Nat.mod_lt i (by omega)),Bool.true_and,Nat.testBit_eq_decide_div_mod_eq,Nat.testBit_eq_decide_div_mod_eq,decide_eq_decide] at h
 have:=Nat.mod_two_eq_zero_or_one (dg N (i / 32) / 2 ^ (i % 32))
 have:=Nat.mod_two_eq_zero_or_one (N / 2 ^ i)
 omega
theorem diff_r2 {M X:Nat} (hM:M < BB ^ 32) (h2:X < 2*M) (h:M≤X):(X % BB ^ 32+BB ^ 32 - M) % BB ^ 32=X - M:=by
 generalize BB ^ 32=P at *
 rcases Nat.lt_or_ge X P with h1 | h1
 ·rw [Nat.mod_eq_of_lt h1,show X+P - M=(X - M)+P by omega,Nat.add_mod_right,Nat.mod_eq_of_lt (by omega)]
 ·have:X % P=X - P:=by
    conv=>lhs;rw [show X=(X - P)+P by omega]
    rw [Nat.add_mod_right,Nat.mod_eq_of_lt (by omega)]
  rw [this,show X - P+P - M=X - M by omega,Nat.mod_eq_of_lt (by omega)]
theorem r2_mod {M X:Nat} (h2:X < 2*M):X % M=if M≤X then X - M else X:=by
 by_cases h:M≤X
 ·rw [if_pos h]
  conv=>lhs;rw [show X=(X - M)+M by omega]
  rw [Nat.add_mod_right,Nat.mod_eq_of_lt (by omega)]
 ·rw [if_neg h,Nat.mod_eq_of_lt (by omega)]
theorem divide_r {N M:Nat} (hN:N < BB ^ 32) (hM:M < BB ^ 32) (hM0:0 < M):Pure Tryz.prog 75 [SV.c (.agg (mA N)),SV.c (.agg (mA M))] (.tuple #[.agg (mA (N / M)),.agg (mA (N % M))]):=by
 obtain ⟨n,hn,hu⟩:=used_ex hN
 obtain ⟨m,hm,hv⟩:=used_ex hM
 have hu2:=used2 hu
 have hv2:=used2 hv
 refine sx_pureC [3] tt_ok mixed at75 _ _ rfl rfl fun w=>?_
 refine ⟨mA_size _,mA_size _,fun f mm=>f=[(2,SV.ptr 2 0),(3,SV.ptr 3 0),(4,SV.ptr 4 0),(5,SV.ptr 5 0)]∧mm=[(2,Blk.row 23 32 (mA N)),(3,Blk.row 23 32 (mA M)),(4,Blk.row 23 32 (lA (fun _=>0) 32)),(5,Blk.row 23 32 (lA (fun _=>0) 32))],.inl ⟨_,limbs_r hu hN,fun h1=>.inl ⟨_,limbs_r hv hM,fun h2=>?_,fun h2=>?_⟩,fun h1=>⟨nofun,fun _=>?_⟩⟩,?_⟩
 ·have h1:N < 18446744073709551616:=hu2.1 (by have:=of_decide_eq_true h1;omega)
  have h2:M < 18446744073709551616:=hv2.1 (by have:=of_decide_eq_true h2;omega)
  have l1:=low_r h1
  have l2:=low_r h2
  have hq:N / M≤N:=Nat.div_le_self _ _
  have hr:N % M < M:=Nat.mod_lt _ hM0
  have s1:=small_r (N:=N / M) (by omega)
  have s2:=small_r (N:=N % M) (by omega)
  have e1:IntKind.u64.wrap (Int.tdiv (N:Nat) (M:Nat))=((N / M:Nat):Int):=by rw [tdiv_nat,u64_nat (by omega)]
  have e2:Int.tmod (N:Nat) (M:Nat)=((N % M:Nat):Int):=tmod_nat N M
  rw [← e1] at s1
  rw [← e2] at s2
  exact .inl ⟨_,l1,.inl ⟨_,l2,by omega,.inl ⟨_,s1,.inl ⟨_,l1,.inl ⟨_,l2,by omega,.inl ⟨_,s2,mA_fits _,mA_fits _,by kernel_rfl,rfl,trivial⟩⟩⟩⟩⟩⟩
 ·exact ⟨_,_,⟨rfl,rfl⟩,⟨rfl,rfl,rfl,rfl,trivial⟩,⟨rfl,rfl,rfl,rfl,trivial⟩,rfl⟩
 ·exact ⟨_,_,⟨rfl,rfl⟩,⟨rfl,rfl,rfl,rfl,trivial⟩,⟨rfl,rfl,rfl,rfl,trivial⟩,rfl⟩
 rintro f mm ⟨rfl,rfl⟩
 have b1:=bits_r (A:=iA false N) (z:=zN false N) ⟨false,N,hN,rfl,rfl⟩
 have b2:=bits_r (A:=iA false M) (z:=zN false M) ⟨false,M,hM,rfl,rfl⟩
 rw [zN_abs] at b1 b2
 obtain ⟨n1,n2⟩:=bl_bits N
 obtain ⟨m1,m2⟩:=bl_bits M
 have hbM:0 < bl M:=by
  rcases Nat.eq_zero_or_pos (bl M) with e | e
  ·rw [e] at m1;simp at m1;omega
  ·exact e
 have m2:=m2 hbM
 have hb1:bl N≤1024:=bl_le (k:=e1024) (by rw [BB_pow,show 32*32=e1024 from rfl] at hN;exact hN)
 have hb2:bl M≤1024:=bl_le (k:=e1024) (by rw [BB_pow,show 32*32=e1024 from rfl] at hM;exact hM)
 have eb:IntKind.i64.wrap ((bl M:Int) - 1)=((bl M - 1:Nat):Int):=by rw [i64_in (by omega)];omega
 refine ⟨_,fill_mag rfl,.inl ⟨_,b1,_,fill_mag rfl,.inl ⟨_,b2,by kernel_rfl,fun h1=>?_,fun h1=>?_⟩⟩⟩
 ·have h1:bl N≤bl M - 1:=by have:=of_decide_eq_true h1;rw [eb] at this;omega
  have hlt:N < M:=by
   have:2 ^ bl N≤2 ^ (bl M - 1):=Nat.pow_le_pow_right (by omega) h1
   omega
  refine ⟨lA_fits _ _,mA_fits _,by kernel_rfl,?_,trivial⟩
  rw [Nat.div_eq_of_lt hlt,Nat.mod_eq_of_lt hlt]
  refine tup2 ?_ rfl
  rw [← lA_rep];rfl
 have h1:bl M - 1 < bl N:=by have:=of_decide_eq_false h1;rw [eb] at this;omega
 obtain ⟨T,hT⟩:∃ T,bl N - (bl M - 1)=T:=⟨_,rfl⟩
 have eT:IntKind.i64.wrap ((bl N:Int) - IntKind.i64.wrap ((bl M:Int) - 1))=(T:Nat):=by rw [eb,i64_in (by omega)];omega
 have hsh:=shifted_r (N:=N) (n:=T) hN (by omega)
 rw [← eT] at hsh
 have hlow:N / 2 ^ T < M:=by
  have h2:N / 2 ^ T < 2 ^ (bl M - 1):=by
   rw [Nat.div_lt_iff_lt_mul (Nat.pow_pos (by omega)),← Nat.pow_add,show bl M - 1+T=bl N by omega]
   exact n1
  omega
 refine .inl ⟨_,hsh,mA_fits _,?_⟩
 refine ⟨fun k f mm=>k≤T∧∃ g:Nat→Nat,(∀ j,j < 32→g j=dg (hiP (N / M) k) j)∧f=[(2,SV.ptr 2 0),(3,SV.ptr 3 0),(4,SV.ptr 4 0),(5,SV.ptr 5 0),(8,SV.c (.int .i64 ((k:Int) - 1)))]∧mm=[(2,Blk.row 23 32 (mA N)),(3,Blk.row 23 32 (mA M)),(4,Blk.row 23 32 (lA g 32)),(5,Blk.row 23 32 (mA (N / 2 ^ k % M)))],T,⟨_,_,⟨Nat.le_refl _,fun _=>0,fun j hj=>?_,rfl,rfl⟩,⟨rfl,rfl,rfl,rfl,c_int (by rw [eT,i64_in (by omega)]),trivial⟩,⟨rfl,rfl,rfl,row_eq (by rw [Nat.mod_eq_of_lt hlow]),trivial⟩,rfl⟩,?_⟩
 ·unfold hiP
  rw [Nat.div_div_eq_div_mul,Nat.mul_comm M,← Nat.div_div_eq_div_mul,Nat.div_eq_of_lt hlow,Nat.zero_mul,dg_zero]
 rintro k f mm ⟨hk,g,hg,rfl,rfl⟩
 refine ⟨fun h2=>?_,fun h2=>?_⟩
 ·have h2:(k:Int) - 1 ≥ 0:=of_decide_eq_true h2
  obtain ⟨i,rfl⟩:∃ i,k=i+1:=⟨k - 1,by omega⟩
  have hi:i < 1024:=by omega
  have ei:IntKind.i64.wrap (Int.tdiv (((i+1:Nat):Int) - 1) 32)=((i / 32:Nat):Int):=by
   rw [show ((i+1:Nat):Int) - 1=(i:Nat) by omega,show (32:Int)=((32:Nat):Int) from rfl,tdiv_nat,i64_nat (by omega)]
  have em:IntKind.u64.wrap (Int.tmod (((i+1:Nat):Int) - 1) 32)=((i % 32:Nat):Int):=by
   rw [show ((i+1:Nat):Int) - 1=(i:Nat) by omega,show (32:Int)=((32:Nat):Int) from rfl,tmod_nat,u64_nat (by omega)]
  have gx:(mA N)[(IntKind.i64.wrap (Int.tdiv (((i+1:Nat):Int) - 1) 32)).toNat]? = some (.int .u32 (dg N (i / 32):Nat)):=by rw [ei];exact mA_get (by omega)
  have gq:(lA g 32)[(IntKind.i64.wrap (Int.tdiv (((i+1:Nat):Int) - 1) 32)).toNat]? = some (.int .u32 (g (i / 32):Nat)):=by rw [ei];exact lA_get g (by omega)
  have hx:=dg_lt N (i / 32)
  rw [BB_eq] at hx
  have ebit:IntKind.u32.wrap (((BitVec.ofInt IntKind.u32.bits (((dg N (i / 32):Nat):Int).fdiv (2 ^ min (Int.toNat (IntKind.u64.wrap (Int.tmod (((i+1:Nat):Int) - 1) 32))) IntKind.u32.bits)) &&& BitVec.ofInt IntKind.u32.bits 1).toNat:Nat):Int)=((N / 2 ^ i % 2:Nat):Int):=by
   rw [em,shr_nat (dg N (i / 32)) (i % 32) (by omega) rfl,show (1:Int)=((1:Nat):Int) from rfl,and32 (Nat.lt_of_le_of_lt (Nat.div_le_self _ _) hx) (by omega),Nat.and_one_is_mod,bit_at]
  have hb:N / 2 ^ i % 2≤1:=by omega
  have hr:N / 2 ^ (i+1) % M < M:=Nat.mod_lt _ hM0
  have hdb:=double_r (N:=N / 2 ^ (i+1) % M) (b:=N / 2 ^ i % 2) (Nat.lt_trans hr hM) hb
  rw [← ebit] at hdb
  have hr2:2*(N / 2 ^ (i+1) % M)+N / 2 ^ i % 2 < 2*M:=by omega
  have hrm:=(bit_r N M i).trans (r2_mod hr2)
  have hqb:=bit_q N M i hM0
  have hgl:g (i / 32) < 4294967296:=by rw [hg _ (by omega)];exact dg_lt _ _
  have evq:IntKind.u32.wrap (((BitVec.ofInt IntKind.u32.bits ((g (i / 32):Nat):Int) ||| BitVec.ofInt IntKind.u32.bits (IntKind.u32.wrap (1*2 ^ min (Int.toNat (IntKind.u64.wrap (Int.tmod (((i+1:Nat):Int) - 1) 32))) IntKind.u32.bits))).toNat:Nat):Int)=((g (i / 32) ||| 2 ^ (i % 32):Nat):Int):=by
   have hp:2 ^ (i % 32) < 4294967296:=Nat.pow_lt_pow_right (by omega) (Nat.mod_lt i (show 0 < 32 by omega))
   have e8:=shl_nat 1 (i % 32) (Nat.mod_lt i (by omega))
   rw [Nat.one_mul,Nat.mod_eq_of_lt hp] at e8
   rw [em,show (1:Int)=((1:Nat):Int) from rfl,e8]
   exact or32 hgl hp
  refine ⟨by decide,by rw [ei];omega,by rw [ei];show ((i / 32:Nat):Int) < 32;omega,_,gx,by decide,by rw [em];omega,.inl ⟨_,hdb,mA_fits _,by kernel_rfl,fun h3=>?_,fun h3=>?_⟩⟩
  ·have h3:2*(N / 2 ^ (i+1) % M)+N / 2 ^ i % 2 < BB ^ 32:=of_decide_eq_true (of_bnf h3)
   refine .inl ⟨_,compare_r (Nat.mod_lt _ (pow_pos' 32)) hM,fun h4=>?_,fun h4=>?_⟩
   ·have hc:=of_decide_eq_true h4
    rw [Nat.mod_eq_of_lt h3] at hc
    have hle:M≤2*(N / 2 ^ (i+1) % M)+N / 2 ^ i % 2:=by
     unfold cmpS at hc
     split at hc
     ·omega
     ·omega
    have e7:=diff_r2 hM hr2 hle
    have hdf:=difference_r (N:=(2*(N / 2 ^ (i+1) % M)+N / 2 ^ i % 2) % BB ^ 32) (Nat.mod_lt _ (pow_pos' 32)) hM
    rw [e7] at hdf
    refine .inl ⟨_,hdf,mA_fits _,by decide,by rw [ei];omega,by rw [ei];show ((i / 32:Nat):Int) < 32;omega,_,gq,by decide,by rw [em];omega,by rw [ei];omega,by rw [ei];show ((i / 32:Nat):Int) < 32;omega,by rw [ei];show i / 32 < 32;omega,rfl,_,lA_put (i:=i / 32) (x:=IntKind.i64.wrap (Int.tdiv (((i+1:Nat):Int) - 1) 32)) ei evq,?_⟩
    refine ⟨i,_,_,by omega,⟨by omega,_,fun j hj=>?_,rfl,rfl⟩,⟨rfl,rfl,rfl,rfl,c_int (by rw [i64_in (by omega)];omega),trivial⟩,⟨rfl,rfl,rfl,row_eq (by rw [hrm,if_pos hle]),trivial⟩,rfl⟩
    rw [hiP_step,hqb,if_pos hle,Nat.one_mul,dg_setbit _ i j (hiP_bit _ i)]
    by_cases e:j=i / 32
    ·subst e;rw [if_pos rfl,if_pos rfl,hg _ hj]
    ·rw [if_neg e,if_neg e,hg j hj]
   ·have hc:=of_decide_eq_false h4
    rw [Nat.mod_eq_of_lt h3] at hc
    have hle:¬ M≤2*(N / 2 ^ (i+1) % M)+N / 2 ^ i % 2:=by
     unfold cmpS at hc
     split at hc
     ·omega
     ·split at hc<;>omega
    refine ⟨i,_,_,by omega,⟨by omega,g,fun j hj=>?_,rfl,rfl⟩,⟨rfl,rfl,rfl,rfl,c_int (by rw [i64_in (by omega)];omega),trivial⟩,⟨rfl,rfl,rfl,row_eq (by rw [hrm,if_neg hle,Nat.mod_eq_of_lt h3]),trivial⟩,rfl⟩
    rw [hiP_step,hqb,if_neg hle,Nat.zero_mul,Nat.add_zero]
    exact hg j hj
  ·have h3:¬ 2*(N / 2 ^ (i+1) % M)+N / 2 ^ i % 2 < BB ^ 32:=of_decide_eq_false (bnt h3)
   have hle:M≤2*(N / 2 ^ (i+1) % M)+N / 2 ^ i % 2:=by omega
   have e7:=diff_r2 hM hr2 hle
   have hdf:=difference_r (N:=(2*(N / 2 ^ (i+1) % M)+N / 2 ^ i % 2) % BB ^ 32) (Nat.mod_lt _ (pow_pos' 32)) hM
   rw [e7] at hdf
   refine ⟨fun _=>.inl ⟨_,hdf,mA_fits _,by decide,by rw [ei];omega,by rw [ei];show ((i / 32:Nat):Int) < 32;omega,_,gq,by decide,by rw [em];omega,by rw [ei];omega,by rw [ei];show ((i / 32:Nat):Int) < 32;omega,by rw [ei];show i / 32 < 32;omega,rfl,_,lA_put (i:=i / 32) (x:=IntKind.i64.wrap (Int.tdiv (((i+1:Nat):Int) - 1) 32)) ei evq,?_⟩,nofun⟩
   refine ⟨i,_,_,by omega,⟨by omega,_,fun j hj=>?_,rfl,rfl⟩,⟨rfl,rfl,rfl,rfl,c_int (by rw [i64_in (by omega)];omega),trivial⟩,⟨rfl,rfl,rfl,row_eq (by rw [hrm,if_pos hle]),trivial⟩,rfl⟩
   rw [hiP_step,hqb,if_pos hle,Nat.one_mul,dg_setbit _ i j (hiP_bit _ i)]
   by_cases e:j=i / 32
   ·subst e;rw [if_pos rfl,if_pos rfl,hg _ hj]
   ·rw [if_neg e,if_neg e,hg j hj]
 ·have h2:k=0:=by have:=of_decide_eq_false h2;omega
  subst h2
  have hA:lA g 32=mA (N / M):=lA_congr fun j hj=>by rw [hg j hj,hiP_zero]
  refine ⟨lA_fits _ _,mA_fits _,by kernel_rfl,?_,trivial⟩
  rw [hA,Nat.pow_zero,Nat.div_one];rfl
theorem one32:(lA (fun _=>0) 32).setIfInBounds 0 (.int .u32 1)=mA 1:=by
 rw [show (1:Int)=((1:Nat):Int) from rfl,lA_set]
 refine lA_congr fun i hi=>?_
 by_cases h:i=0
 ·subst h;rfl
 ·rw [if_neg h]
  have:dg 1 i=0:=dg_of_lt (n:=1) (by decide) (by omega)
  exact this.symm
theorem divmod_r {A B:Array Value} {x y:Int} (hA:IsI A x) (hB:IsI B y) (hy:y≠0):Pure Tryz.prog 37 [SV.c (.agg A),SV.c (.agg B)] (.tuple #[.agg (eA (x / y)),.agg (eA (x % y)),.int .i64 0]):=by
 have hx:=hA.lt
 have hyl:=hB.lt
 have hall:=dm_all x y hy
 obtain ⟨a,N,hN,rfl,ex⟩:=hA.raw
 obtain ⟨b,M,hM,rfl,ey⟩:=hB.raw
 have eN:x.natAbs=N:=by rw [ex,zN_abs]
 have eM:y.natAbs=M:=by rw [ey,zN_abs]
 rw [eN,eM] at hall
 have hM0:0 < M:=by omega
 have hb:decide (y < 0)=b:=by
  rw [ey];cases b
  ·simp [zN]
  ·simp [zN];omega
 have ha:N≠0→decide (x < 0)=a:=fun h=>by
  rw [ex];cases a
  ·simp [zN]
  ·simp [zN];omega
 refine sx_pureC [9] tt_ok mixed at37 _ _ rfl rfl fun w=>?_
 have hql:N / M < BB ^ 32:=Nat.lt_of_le_of_lt (Nat.div_le_self _ _) hN
 have hrl:N % M < M:=Nat.mod_lt _ hM0
 have hrb:N % M < BB ^ 32:=Nat.lt_trans hrl hM
 refine ⟨iA_size _ _,iA_size _ _,by decide,_,iA_mag,.inl ⟨_,zero_r hM,fun h=>?_,fun h=>?_⟩⟩
 ·exfalso
  have:=of_decide_eq_true h
  omega
 refine ⟨by decide,_,iA_mag,by decide,_,iA_mag,.inl ⟨_,divide_r hN hM hM0,mA_fits _,mA_fits _,?_⟩⟩
 have fin:∀ q,(q=0→N=0∨True)→True:=fun _ _=>trivial
 refine ⟨fun f mm=>∃ q r:Nat,q < BB ^ 32∧r < BB ^ 32∧x / y=zN (a != b) q∧x % y=r∧f=[(2,SV.ptr 2 0),(3,SV.ptr 3 0),(4,SV.ptr 4 0),(5,SV.ptr 5 0),(7,SV.ptr 7 0),(8,SV.ptr 8 0)]∧mm=[(2,Blk.row 25 33 (iA a N)),(3,Blk.row 25 33 (iA b M)),(4,Blk.row 25 33 ti25.zero),(5,Blk.row 25 33 ti25.zero),(7,Blk.row 23 32 (mA q)),(8,Blk.row 23 32 (mA r))],⟨_,iA_neg,fun h1=>.inl ⟨_,zero_r hrb,fun h2=>?_,fun h2=>?_⟩,fun h1=>⟨nofun,fun _=>?_⟩⟩,?_⟩
 ·have h1:a=true:=h1
  have h2:N % M≠0:=of_decide_eq_false (bnt h2)
  have hn0:N≠0:=by intro e;rw [e,Nat.zero_mod] at h2;exact h2 rfl
  have hxa:=ha hn0
  rw [h1] at hxa
  rw [if_pos ⟨of_decide_eq_true hxa,h2⟩,hxa,hb] at hall
  have hql2:N / M+1 < BB ^ 32:=by
   have hb2:2≤M:=by
    rcases Nat.lt_or_ge M 2 with h | h
    ·have:M=1:=by omega
     rw [this,Nat.mod_one] at h2;exact absurd rfl h2
    ·exact h
   have h3:N / M≤N / 2:=Nat.div_le_div_left hb2 (by omega)
   have h4:4≤BB ^ 32:=Nat.le_trans (by omega) two64
   omega
  have hd:=difference_r hM hrb
  rw [diff_sub hM (Nat.le_of_lt hrl)] at hd
  have hs:=sum_r hql (Nat.lt_of_lt_of_le (by omega:1 < 18446744073709551616) two64)
  refine ⟨by decide,_,iA_mag,.inl ⟨_,hd,mA_fits _,by decide,by decide,by decide,rfl,_,one32,.inl ⟨_,hs,mA_fits _,_,_,⟨N / M+1,_,hql2,Nat.lt_of_le_of_lt (Nat.sub_le _ _) hM,by rw [h1];exact hall.1,hall.2,rfl,rfl⟩,⟨rfl,rfl,rfl,rfl,rfl,rfl,trivial⟩,⟨rfl,rfl,rfl,rfl,row_eq (by rw [Nat.mod_eq_of_lt hql2]),rfl,trivial⟩,rfl⟩⟩⟩
 ·have h1:a=true:=h1
  have h2:N % M=0:=of_decide_eq_true (bnf h2)
  rw [if_neg (fun h=>h.2 h2)] at hall
  refine ⟨_,_,⟨_,_,hql,hrb,?_,hall.2,rfl,rfl⟩,⟨rfl,rfl,rfl,rfl,rfl,rfl,trivial⟩,⟨rfl,rfl,rfl,rfl,rfl,rfl,trivial⟩,rfl⟩
  rw [hall.1,hb]
  by_cases hn0:N=0
  ·rw [hn0,Nat.zero_div];unfold zN;split<;>split<;>rfl
  ·rw [ha hn0]
 ·have h1:a=false:=h1
  have hx0:¬ x < 0:=by rw [ex,h1];simp [zN]
  rw [if_neg (fun h=>hx0 h.1),hb,decide_eq_false hx0] at hall
  exact ⟨_,_,⟨_,_,hql,hrb,by rw [h1];exact hall.1,hall.2,rfl,rfl⟩,⟨rfl,rfl,rfl,rfl,rfl,rfl,trivial⟩,⟨rfl,rfl,rfl,rfl,rfl,rfl,trivial⟩,rfl⟩
 ·rintro f mm ⟨q,r,hq,hr,e1,e2,rfl,rfl⟩
  have m1:=canon_r (a != b) hq
  have m2:=canon_r false hr
  rw [← e1] at m1
  rw [show zN false r=x % y from e2.symm] at m2
  exact ⟨_,iA_neg,_,iA_neg,.inl ⟨_,m1,.inl ⟨_,m2,eA_fits _,eA_fits _,by kernel_rfl,rfl,trivial⟩⟩⟩
theorem gcd_r {A B:Array Value} {x y:Int} (hA:IsI A x) (hB:IsI B y):Pure Tryz.prog 101 [SV.c (.agg A),SV.c (.agg B)] (.agg (eA ((Int.gcd x y:Nat):Int))):=by
 obtain ⟨a,N,hN,rfl,rfl⟩:=hA.raw
 obtain ⟨b,M,hM,rfl,rfl⟩:=hB.raw
 rw [gcd_zN]
 refine sx_pure tt_ok mixed at101 _ _ rfl rfl fun w=>?_
 refine ⟨iA_size _ _,iA_size _ _,by decide,_,iA_mag,by decide,_,iA_mag,mA_fits _,mA_fits _,by kernel_rfl,?_⟩
 refine ⟨fun q f mm=>∃ u:Nat,u < BB ^ 32∧q < BB ^ 32∧Nat.gcd u q=Nat.gcd N M∧f=[(4,SV.ptr 4 0),(5,SV.ptr 5 0),(6,SV.ptr 6 0)]∧mm=[(4,Blk.row 25 33 ti25.zero),(5,Blk.row 23 32 (mA u)),(6,Blk.row 23 32 (mA q))],_,⟨_,_,⟨_,hN,hM,rfl,rfl,rfl⟩,⟨rfl,rfl,rfl,trivial⟩,⟨rfl,rfl,rfl,trivial⟩,rfl⟩,?_⟩
 rintro q f mm ⟨u,ha,hq,hg,rfl,rfl⟩
 refine .inl ⟨_,zero_r hq,fun h=>?_,fun h=>?_⟩
 ·have hq0:0 < q:=by
    have:q≠0:=of_decide_eq_false (bnt h)
    omega
  have hr:=Nat.mod_lt u hq0
  exact .inl ⟨_,divide_r ha hq hq0,mA_fits _,mA_fits _,mA_fits _,mA_fits _,by kernel_rfl,u % q,_,_,hr,⟨_,hq,Nat.lt_trans hr hq,by rw [← hg,Nat.gcd_comm u q,Nat.gcd_rec q u,Nat.gcd_comm],rfl,rfl⟩,⟨rfl,rfl,rfl,trivial⟩,⟨rfl,rfl,rfl,trivial⟩,rfl⟩
 ·have hq0:q=0:=of_decide_eq_true (bnf h)
  subst hq0
  have m1:=canon_r false ha
  rw [Nat.gcd_zero_right] at hg
  rw [show zN false u=((Nat.gcd N M:Nat):Int) by rw [← hg];rfl] at m1
  exact .inl ⟨_,m1,eA_fits _,rfl,trivial⟩
theorem RQ.ok_of {p q:Int} (h1:bl p.natAbs≤480) (h2:bl q.natAbs≤480) (h3:0 < q) (h4:Int.gcd p q=1):(RQ.of p q).ok=true:=by
 refine decide_eq_true ⟨h1,h2,fun h=>?_,decide_eq_false (by omega),by show 0 < q.natAbs;omega,h4⟩
 have h:=of_decide_eq_true h
 show p.natAbs≠0
 omega
theorem RQ.of_in {p q:Int} (h1:p.natAbs < BB ^ 32) (h2:q.natAbs < BB ^ 32):(RQ.of p q).In:=⟨h1,h2⟩
theorem whole_r {n:Int} (h1 : -9223372036854775808≤n) (h2:n≤9223372036854775807):Pure Tryz.prog 29 [SV.c (.int .i64 n)] (.agg (RQ.of n 1).A):=by
 refine sx_pure tt_ok mixed at29 _ _ rfl rfl fun w=>?_
 exact .inl ⟨_,fromInt_r n h1 h2,.inl ⟨_,fromInt_r 1 (by omega) (by omega),_,fill_ratio (eA_size _) (eA_size _) rfl rfl,(RQ.of n 1).A_fits,rfl,trivial⟩⟩
theorem zeroR_r:Pure Tryz.prog 34 [] (.agg (RQ.of 0 1).A):=by
 refine sx_pure tt_ok mixed at34 _ _ rfl rfl fun w=>?_
 exact .inl ⟨_,whole_r (n:=0) (by omega) (by omega),(RQ.of 0 1).A_fits,rfl,trivial⟩
theorem product_r {A B:Array Value} {x y:Int} (hA:IsI A x) (hB:IsI B y) (hl:(x*y).natAbs < BB ^ 32):Pure Tryz.prog 66 [SV.c (.agg A),SV.c (.agg B)] (.agg (eA (x*y))):=by
 refine sx_pure tt_ok mixed at66 _ _ rfl rfl fun w=>?_
 have h:=mul_r hA hB
 rw [fitR,if_pos hl] at h
 exact ⟨hA.size,hB.size,.inl ⟨_,h,eA_fits _,eA_fits _,rfl,trivial⟩⟩
theorem negative_r {r:RQ} (hr:r.In) (hk:r.ok=true):Pure Tryz.prog 70 [SV.c (.agg r.A)] (.agg (RQ.of (-r.p) r.q).A):=by
 have hd:iA r.b r.D=eA r.q:=by
  obtain ⟨k1,k2,k3,k4,k5⟩:=RQ.ok_bits hk
  have h:RQ.A r=RQ.A (.of r.p r.q):=congrArg RQ.A k5
  have h2:=(r.cat_r).symm.trans ((congrArg (fun x=>x.extract 33 (33+33)) h).trans (RQ.cat_r (.of r.p r.q)))
  exact h2
 refine sx_pure tt_ok mixed at70 _ _ rfl rfl fun w=>?_
 refine ⟨r.A_size,by decide,_,r.cat_l,.inl ⟨_,neg_r hr.num,by decide,_,r.cat_r,_,fill_ratio (eA_size _) (iA_size _ _) rfl rfl,cat_fits (eA_fits _) (iA_fits _ _),by kernel_rfl,?_,trivial⟩⟩
 rw [hd];rfl
theorem ediv_neg_iff {y:Int} {g:Nat} (hg:0 < g):decide (sgn (y / (g:Int)) < 0)=decide (y < 0):=by
 rw [sgn_neg,decide_eq_decide]
 constructor
 ·intro h
  rcases Int.lt_or_le y 0 with h1 | h1
  ·exact h1
  ·have:=Int.ediv_nonneg h1 (show (0:Int)≤g by omega);omega
 ·intro h;exact Int.ediv_neg_of_neg_of_pos h (by omega)
theorem make_r {A B:Array Value} {x y:Int} (hA:IsI A x) (hB:IsI B y):Pure Tryz.prog 54 [SV.c (.agg A),SV.c (.agg B)] (resQ (mkQ x y)):=by
 refine sx_pureC [8] tt_ok mixed at54 _ _ rfl rfl fun w=>?_
 refine ⟨hA.size,hB.size,.inl ⟨_,sign_r hB,fun h=>?_,fun h=>?_⟩⟩
 ·rw [sgn_zero] at h
  have h:=of_decide_eq_true h
  refine ⟨ti27.zero,rfl,(RQ.of 0 0).A_fits,?_,trivial⟩
  rw [mkQ,if_pos h];rfl
 rw [sgn_zero] at h
 have h:=of_decide_eq_false h
 obtain ⟨g1,g2⟩:=gcd_le (x:=x) h
 have gl:((Int.gcd x y:Nat):Int).natAbs < BB ^ 32:=by have:=hB.lt;omega
 have gn:((Int.gcd x y:Nat):Int)≠0:=by omega
 have d1:=divmod_r hA (isI_e gl) gn
 have d2:=divmod_r hB (isI_e gl) gn
 have lx:(x / ((Int.gcd x y:Nat):Int)).natAbs < BB ^ 32:=Nat.lt_of_le_of_lt (Int.natAbs_ediv_le_natAbs x _) hA.lt
 have ly:(y / ((Int.gcd x y:Nat):Int)).natAbs < BB ^ 32:=Nat.lt_of_le_of_lt (Int.natAbs_ediv_le_natAbs y _) hB.lt
 refine .inl ⟨_,gcd_r hA hB,eA_fits _,.inl ⟨_,d1,eA_fits _,eA_fits _,.inl ⟨_,d2,eA_fits _,eA_fits _,fun f mm=>f=[(4,SV.ptr 4 0),(7,SV.ptr 7 0),(10,SV.ptr 10 0)]∧mm=[(4,Blk.row 27 66 ti27.zero),(7,Blk.row 25 33 (eA (x / (sgn y*Int.gcd x y)))),(10,Blk.row 25 33 (eA (y / (sgn y*Int.gcd x y))))],.inl ⟨_,sign_r (isI_e ly),fun h2=>?_,fun h2=>?_⟩,?_⟩⟩⟩
 ·rw [ediv_neg_iff g1] at h2
  have h2:=of_decide_eq_true h2
  have e:sgn y*(Int.gcd x y:Int)=-((Int.gcd x y:Nat):Int):=by unfold sgn;rw [if_pos h2];omega
  refine .inl ⟨_,neg_r (isI_e lx),.inl ⟨_,neg_r (isI_e ly),eA_fits _,eA_fits _,by kernel_rfl,_,_,⟨rfl,rfl⟩,⟨rfl,rfl,rfl,trivial⟩,⟨rfl,row_eq (by rw [e,Int.ediv_neg]),row_eq (by rw [e,Int.ediv_neg]),trivial⟩,rfl⟩⟩
 ·rw [ediv_neg_iff g1] at h2
  have h2:=of_decide_eq_false h2
  have e:sgn y*(Int.gcd x y:Int)=((Int.gcd x y:Nat):Int):=by unfold sgn;rw [if_neg h2,if_neg h];omega
  exact ⟨_,_,⟨rfl,rfl⟩,⟨rfl,rfl,rfl,trivial⟩,⟨rfl,row_eq (by rw [e]),row_eq (by rw [e]),trivial⟩,rfl⟩
 rintro f mm ⟨rfl,rfl⟩
 have lx2:(x / (sgn y*Int.gcd x y)).natAbs < BB ^ 32:=Nat.lt_of_le_of_lt (Int.natAbs_ediv_le_natAbs x _) hA.lt
 have ly2:(y / (sgn y*Int.gcd x y)).natAbs < BB ^ 32:=Nat.lt_of_le_of_lt (Int.natAbs_ediv_le_natAbs y _) hB.lt
 rw [mkQ,if_neg h]
 generalize x / (sgn y*Int.gcd x y)=p at *
 generalize y / (sgn y*Int.gcd x y)=q at *
 have bad:¬ (bl p.natAbs≤480∧bl q.natAbs≤480)→mkRes [.agg ti27.zero,.int .i64 10]=resQ (if bl p.natAbs≤480∧bl q.natAbs≤480 then (.of p q,0) else (.of 0 0,10)):=fun h=>by rw [if_neg h];rfl
 refine .inl ⟨_,bits_r (isI_e lx2),fun h2=>.inl ⟨_,bits_r (isI_e ly2),fun h3=>⟨ti27.zero,rfl,(RQ.of 0 0).A_fits,bad ?_,trivial⟩,fun h3=>⟨_,fill_ratio (eA_size _) (eA_size _) rfl rfl,(RQ.of p q).A_fits,?_,trivial⟩⟩,fun h2=>⟨fun _=>⟨ti27.zero,rfl,(RQ.of 0 0).A_fits,bad ?_,trivial⟩,nofun⟩⟩
 ·have:=of_decide_eq_true h3
  omega
 ·have h2:=of_decide_eq_false h2
  have h3:=of_decide_eq_false h3
  rw [if_pos (by omega)];rfl
 ·have:=of_decide_eq_true h2
  omega
theorem of_r {n d:Int} (h1 : -9223372036854775808≤n) (h2:n≤9223372036854775807) (h3 : -9223372036854775808≤d) (h4:d≤9223372036854775807):Pure Tryz.prog 58 [SV.c (.int .i64 n),SV.c (.int .i64 d)] (resQ (mkQ n d)):=by
 refine sx_pure tt_ok mixed at58 _ _ rfl rfl fun w=>?_
 exact .inl ⟨_,fromInt_r n h1 h2,.inl ⟨_,fromInt_r d h3 h4,.inl ⟨_,make_r (isI_e (i64_lt h1 h2)) (isI_e (i64_lt h3 h4)),RQ.A_fits _,rfl,trivial⟩⟩⟩
theorem ok_parts (r:RQ):r.ok=((!(r.a && decide (r.N=0))) && (!r.b && !decide (r.D=0)) && (decide (bl r.N≤480) && (decide (bl r.D≤480) && decide (Nat.gcd r.N r.D=1)))):=by
 unfold RQ.ok
 rw [Bool.eq_iff_iff]
 simp only [decide_eq_true_eq,Bool.and_eq_true,Bool.not_eq_true',Bool.and_eq_false_iff,decide_eq_false_iff_not]
 constructor
 ·rintro ⟨h1,h2,h3,h4,h5,h6⟩
  refine ⟨⟨?_,h4,by omega⟩,h1,h2,h6⟩
  by_cases h:r.a=true
  ·exact .inr (h3 h)
  ·exact .inl (by simpa using h)
 ·rintro ⟨⟨h3,h4,h5⟩,h1,h2,h6⟩
  refine ⟨h1,h2,fun h=>?_,h4,by omega,h6⟩
  rcases h3 with h3 | h3
  ·rw [h] at h3;cases h3
  ·exact h3
theorem valid_r {r:RQ} (h:r.In):Pure Tryz.prog 65 [SV.c (.agg r.A)] (.bool r.ok):=by
 refine sx_pure tt_ok mixed at65 _ _ rfl rfl fun w=>?_
 have s1:=sign_r h.num
 have s2:=sign_r h.den
 have b1:=bits_r h.num
 have b2:=bits_r h.den
 have hg:=gcd_r h.num h.den
 rw [RQ.p,zN_abs] at b1
 rw [RQ.q,zN_abs] at b2
 rw [RQ.p,RQ.q,gcd_zN] at hg
 have one:=fromInt_r 1 (by omega) (by omega)
 have h1l:(1:Int).natAbs < BB ^ 32:=Nat.lt_of_lt_of_le (by decide:1 < 18446744073709551616) two64
 have gl:((Nat.gcd r.N r.D:Nat):Int).natAbs < BB ^ 32:=by
  rw [Int.natAbs_natCast]
  rcases Nat.eq_zero_or_pos r.N with e | e
  ·rw [e,Nat.gcd_zero_left];exact h.D
  ·exact Nat.lt_of_le_of_lt (Nat.gcd_le_left _ e) h.N
 have z1:(sgn r.p == 0)=decide (r.N=0):=by
  rw [sgn_zero,RQ.p,decide_eq_decide]
  cases r.a<;>simp [zN]
 have z2:decide (sgn r.q≤0)=!(!r.b && !decide (r.D=0)):=by
  rw [RQ.q]
  cases hb:r.b
  ·by_cases hd:r.D=0
   ·rw [hd];rfl
   ·have:sgn (zN false r.D)=1:=by unfold sgn zN;rw [if_neg Bool.false_ne_true,if_neg (by omega),if_neg (by omega)]
    rw [this,decide_eq_false hd];rfl
  ·have:sgn (zN true r.D)≤0:=by unfold sgn zN;rw [if_pos rfl];split<;>(try split)<;>omega
   rw [decide_eq_true this];rfl
 have A0:r.A[0]? = some (.bool r.a):=by
  rw [RQ.A,Array.getElem?_append_left (by rw [iA_size];omega)];exact iA_neg
 have tail:(!(r.a && decide (r.N=0)))=true→(!r.b && !decide (r.D=0))=true→r.ok=(decide (bl r.N≤480) && (decide (bl r.D≤480) && decide (Nat.gcd r.N r.D=1))):=fun h1 h2=>by rw [ok_parts,h1,h2];rfl
 refine ⟨r.A_size,_,A0,fun h1=>⟨by decide,_,r.cat_l,.inl ⟨_,s1,fun h2=>⟨by decide,_,r.cat_r,.inl ⟨_,s2,fun h3=>?_,fun h3=>?_⟩⟩,fun h2=>⟨fun _=>⟨bv ?_,trivial⟩,nofun⟩⟩⟩,fun h1=>⟨fun _=>⟨by decide,_,r.cat_r,.inl ⟨_,s2,fun h3=>?_,fun h3=>?_⟩⟩,nofun⟩⟩
 ·have h3:decide (sgn r.q≤0)=true:=h3
  rw [z2] at h3
  refine ⟨bv ?_,trivial⟩
  rw [ok_parts,bnt h3];simp
 ·have h3:decide (sgn r.q≤0)=false:=h3
  rw [z2] at h3
  have h2:(sgn r.p == 0)=false:=h2
  rw [z1] at h2
  have hok:=tail (by rw [h2];simp) (of_bnf h3)
  refine ⟨by decide,_,r.cat_l,.inl ⟨_,b1,fun h4=>⟨by decide,_,r.cat_r,.inl ⟨_,b2,fun h5=>⟨by decide,_,r.cat_l,by decide,_,r.cat_r,.inl ⟨_,hg,.inl ⟨_,one,_,eql_int rfl gl h1l,bv ?_,trivial⟩⟩⟩,fun h5=>⟨bv ?_,trivial⟩⟩⟩,fun h4=>⟨nofun,fun _=>⟨bv ?_,trivial⟩⟩⟩⟩
  ·rw [hok,decide_eq_true (show bl r.N≤480 by have:=of_decide_eq_true h4;omega),decide_eq_true (show bl r.D≤480 by have:=of_decide_eq_true h5;omega),Bool.true_and,Bool.true_and,decide_eq_decide]
   omega
  ·rw [hok,decide_eq_false (show ¬ bl r.D≤480 by have:=of_decide_eq_false h5;omega),Bool.false_and,Bool.and_false]
  ·rw [hok,decide_eq_false (show ¬ bl r.N≤480 by have:=of_decide_eq_false h4;omega),Bool.false_and]
 ·have h1:r.a=true:=h1
  have h2:(sgn r.p == 0)=true:=h2
  rw [z1] at h2
  rw [ok_parts,h1,h2];rfl
 ·have h3:decide (sgn r.q≤0)=true:=h3
  rw [z2] at h3
  refine ⟨bv ?_,trivial⟩
  rw [ok_parts,bnt h3];simp
 ·have h3:decide (sgn r.q≤0)=false:=h3
  rw [z2] at h3
  have h1:r.a=false:=h1
  have hok:=tail (by rw [h1];rfl) (of_bnf h3)
  refine ⟨by decide,_,r.cat_l,.inl ⟨_,b1,fun h4=>⟨by decide,_,r.cat_r,.inl ⟨_,b2,fun h5=>⟨by decide,_,r.cat_l,by decide,_,r.cat_r,.inl ⟨_,hg,.inl ⟨_,one,_,eql_int rfl gl h1l,bv ?_,trivial⟩⟩⟩,fun h5=>⟨bv ?_,trivial⟩⟩⟩,fun h4=>⟨nofun,fun _=>⟨bv ?_,trivial⟩⟩⟩⟩
  ·rw [hok,decide_eq_true (show bl r.N≤480 by have:=of_decide_eq_true h4;omega),decide_eq_true (show bl r.D≤480 by have:=of_decide_eq_true h5;omega),Bool.true_and,Bool.true_and,decide_eq_decide]
   omega
  ·rw [hok,decide_eq_false (show ¬ bl r.D≤480 by have:=of_decide_eq_false h5;omega),Bool.false_and,Bool.and_false]
  ·rw [hok,decide_eq_false (show ¬ bl r.N≤480 by have:=of_decide_eq_false h4;omega),Bool.false_and]
theorem addR_r {r s:RQ} (hr:r.In) (hs:s.In):Pure Tryz.prog 30 [SV.c (.agg r.A),SV.c (.agg s.A)] (resQ (sumQ false r s)):=by
 refine sx_pure tt_ok mixed at30 _ _ rfl rfl fun w=>?_
 refine ⟨r.A_size,s.A_size,.inl ⟨_,valid_r hr,fun h1=>.inl ⟨_,valid_r hs,fun h2=>?_,fun h2=>?_⟩,fun h1=>?_⟩⟩
 ·have h2:=bnt h2
  refine ⟨ti27.zero,rfl,(RQ.of 0 0).A_fits,?_,trivial⟩
  rw [sumQ,h2,Bool.and_false,if_neg Bool.false_ne_true];rfl
 ·have h1:=of_bnf h1
  have h2:=bnf h2
  obtain ⟨k1,k2,k3,k4⟩:=sum_lt h1 h2 false
  have ha:=add_r (isI_e k1) (isI_e (z:=sg false (s.p*r.q)) k2)
  rw [fitR,if_pos k4] at ha
  refine ⟨by decide,_,r.cat_l,by decide,_,s.cat_r,.inl ⟨_,product_r hr.num hs.den k1,by decide,_,s.cat_l,by decide,_,r.cat_r,.inl ⟨_,product_r hs.num hr.den k2,.inl ⟨_,ha,eA_fits _,by kernel_rfl,by decide,_,r.cat_r,by decide,_,s.cat_r,.inl ⟨_,product_r hr.den hs.den k3,.inl ⟨_,make_r (isI_e k4) (isI_e k3),RQ.A_fits _,by kernel_rfl,?_,trivial⟩⟩⟩⟩⟩⟩
  rw [sumQ,h1,h2,Bool.and_true,if_pos rfl];rfl
 ·have h1:=bnt h1
  refine ⟨fun _=>⟨ti27.zero,rfl,(RQ.of 0 0).A_fits,?_,trivial⟩,nofun⟩
  rw [sumQ,h1,Bool.false_and,if_neg Bool.false_ne_true];rfl
theorem neg_ok {s:RQ} (h:s.ok=true):(RQ.of (-s.p) s.q).ok=true∧(RQ.of (-s.p) s.q).In:=by
 obtain ⟨k1,k2,k3,k4,k5⟩:=RQ.ok_bits h
 refine ⟨RQ.ok_of (by rw [Int.natAbs_neg];exact k1) k2 k3 (by rw [Int.neg_gcd];exact k4),?_⟩
 have key:∀ z:Int,bl z.natAbs≤480→z.natAbs < BB ^ 32:=fun z h=>Nat.lt_trans (Nat.lt_of_lt_of_le (bl_bits _).1 (Nat.pow_le_pow_right (j:=e480) (by omega) h)) hp480
 exact RQ.of_in (by rw [Int.natAbs_neg];exact key _ k1) (key _ k2)
theorem subR_r {r s:RQ} (hr:r.In) (hs:s.In):Pure Tryz.prog 31 [SV.c (.agg r.A),SV.c (.agg s.A)] (resQ (sumQ true r s)):=by
 refine sx_pure tt_ok mixed at31 _ _ rfl rfl fun w=>?_
 refine ⟨r.A_size,s.A_size,.inl ⟨_,valid_r hr,fun h1=>.inl ⟨_,valid_r hs,fun h2=>?_,fun h2=>?_⟩,fun h1=>?_⟩⟩
 ·have h2:=bnt h2
  refine ⟨ti27.zero,rfl,(RQ.of 0 0).A_fits,?_,trivial⟩
  rw [sumQ,h2,Bool.and_false,if_neg Bool.false_ne_true];rfl
 ·have h1:=of_bnf h1
  have h2:=bnf h2
  obtain ⟨n1,n2⟩:=neg_ok h2
  have e:sumQ false r (.of (-s.p) s.q)=sumQ true r s:=by
   unfold sumQ
   rw [h1,h2,n1,RQ.of_p,RQ.of_q]
   simp only [sg,Bool.and_true,if_true,Bool.false_eq_true,if_false,Int.neg_mul]
  have ha:=addR_r hr n2
  rw [e] at ha
  exact .inl ⟨_,negative_r hs h2,.inl ⟨_,ha,RQ.A_fits _,by kernel_rfl,rfl,trivial⟩⟩
 ·have h1:=bnt h1
  refine ⟨fun _=>⟨ti27.zero,rfl,(RQ.of 0 0).A_fits,?_,trivial⟩,nofun⟩
  rw [sumQ,h1,Bool.false_and,if_neg Bool.false_ne_true];rfl
theorem mulR_r {r s:RQ} (hr:r.In) (hs:s.In):Pure Tryz.prog 25 [SV.c (.agg r.A),SV.c (.agg s.A)] (resQ (mulQ r s)):=by
 refine sx_pure tt_ok mixed at25 _ _ rfl rfl fun w=>?_
 refine ⟨r.A_size,s.A_size,.inl ⟨_,valid_r hr,fun h1=>.inl ⟨_,valid_r hs,fun h2=>?_,fun h2=>?_⟩,fun h1=>?_⟩⟩
 ·have h2:=bnt h2
  refine ⟨ti27.zero,rfl,(RQ.of 0 0).A_fits,?_,trivial⟩
  rw [mulQ,h2,Bool.and_false,if_neg Bool.false_ne_true];rfl
 ·have h1:=of_bnf h1
  have h2:=bnf h2
  have k1:=RQ.ok_bits h1
  have k2:=RQ.ok_bits h2
  have m1:=mul_lt' k1.1 k2.1
  have m2:=mul_lt' k1.2.1 k2.2.1
  refine ⟨by decide,_,r.cat_l,by decide,_,s.cat_l,.inl ⟨_,product_r hr.num hs.num m1,by decide,_,r.cat_r,by decide,_,s.cat_r,.inl ⟨_,product_r hr.den hs.den m2,.inl ⟨_,make_r (isI_e m1) (isI_e m2),RQ.A_fits _,by kernel_rfl,?_,trivial⟩⟩⟩⟩
  rw [mulQ,h1,h2,Bool.and_true,if_pos rfl];rfl
 ·have h1:=bnt h1
  refine ⟨fun _=>⟨ti27.zero,rfl,(RQ.of 0 0).A_fits,?_,trivial⟩,nofun⟩
  rw [mulQ,h1,Bool.false_and,if_neg Bool.false_ne_true];rfl
def absQ (r:RQ):RQ×Int:=if r.ok then (.of (r.p.natAbs:Int) r.q,0) else (.of 0 0,20)
theorem den_ok {r:RQ} (hk:r.ok=true):iA r.b r.D=eA r.q:=by
 obtain ⟨k1,k2,k3,k4,k5⟩:=RQ.ok_bits hk
 have h:RQ.A r=RQ.A (.of r.p r.q):=congrArg RQ.A k5
 exact (r.cat_r).symm.trans ((congrArg (fun x=>x.extract 33 (33+33)) h).trans (RQ.cat_r (.of r.p r.q)))
theorem absR_r {r:RQ} (hr:r.In):Pure Tryz.prog 32 [SV.c (.agg r.A)] (resQ (absQ r)):=by
 refine sx_pure tt_ok mixed at32 _ _ rfl rfl fun w=>?_
 refine ⟨r.A_size,.inl ⟨_,valid_r hr,fun h1=>?_,fun h1=>?_⟩⟩
 ·have h1:=bnt h1
  refine ⟨ti27.zero,rfl,(RQ.of 0 0).A_fits,?_,trivial⟩
  rw [absQ,h1,if_neg Bool.false_ne_true];rfl
 ·have h1:=bnf h1
  refine ⟨by decide,_,r.cat_l,.inl ⟨_,abs_r hr.num,by decide,_,r.cat_r,_,fill_ratio (eA_size _) (iA_size _ _) rfl rfl,cat_fits (eA_fits _) (iA_fits _ _),by kernel_rfl,?_,trivial⟩⟩
  rw [absQ,h1,if_pos rfl,den_ok h1];rfl
theorem compareR_r {r s:RQ} (hr:r.In) (hs:s.In) (h1:(r.p*s.q).natAbs < BB ^ 32) (h2:(s.p*r.q).natAbs < BB ^ 32):Pure Tryz.prog 33 [SV.c (.agg r.A),SV.c (.agg s.A)] (.int .i64 (cmpI (r.p*s.q) (s.p*r.q))):=by
 refine sx_pure tt_ok mixed at33 _ _ rfl rfl fun w=>?_
 exact ⟨r.A_size,s.A_size,by decide,_,r.cat_l,by decide,_,s.cat_r,.inl ⟨_,product_r hr.num hs.den h1,by decide,_,s.cat_l,by decide,_,r.cat_r,.inl ⟨_,product_r hs.num hr.den h2,.inl ⟨_,cmp_r (isI_e h1) (isI_e h2),by kernel_rfl,rfl,trivial⟩⟩⟩⟩
def betQ (r:RQ) (lo hi:Int):Bool:=r.ok && (decide (lo*r.q≤r.p) && decide (r.p≤hi*r.q))
theorem cmpI_ge (x y:Int):decide (cmpI x y ≥ 0)=decide (y≤x):=by
 rw [Bool.eq_iff_iff];simp only [decide_eq_true_eq];unfold cmpI;split
 ·omega
 ·split<;>omega
theorem between_r {r:RQ} (hr:r.In) {lo hi:Int} (l1 : -9223372036854775808≤lo) (l2:lo≤9223372036854775807) (u1 : -9223372036854775808≤hi) (u2:hi≤9223372036854775807):Pure Tryz.prog 139 [SV.c (.agg r.A),SV.c (.int .i64 lo),SV.c (.int .i64 hi)] (.bool (betQ r lo hi)):=by
 refine sx_pure tt_ok mixed at139 _ _ rfl rfl fun w=>?_
 have key:∀ n:Int,-9223372036854775808≤n→n≤9223372036854775807→r.ok=true→Pure Tryz.prog 33 [SV.c (.agg r.A),SV.c (.agg (RQ.of n 1).A)] (.int .i64 (cmpI r.p (n*r.q))):=fun n a b hk=>by
  have k1:=RQ.ok_bits hk
  have hb:bl n.natAbs≤480:=Nat.le_trans (bl_le (k:=64) (by omega)) (by omega)
  have h1:(r.p*(RQ.of n 1).q).natAbs < BB ^ 32:=by rw [RQ.of_q];exact mul_lt' k1.1 (by decide)
  have h2:((RQ.of n 1).p*r.q).natAbs < BB ^ 32:=by rw [RQ.of_p];exact mul_lt' hb k1.2.1
  have:=compareR_r hr (s:=.of n 1) ⟨i64_lt a b,i64_lt (n:=1) (by omega) (by omega)⟩ h1 h2
  rw [RQ.of_p,RQ.of_q,Int.mul_one] at this
  exact this
 refine ⟨r.A_size,.inl ⟨_,valid_r hr,fun h1=>.inl ⟨_,whole_r l1 l2,.inl ⟨_,key lo l1 l2 h1,fun h2=>.inl ⟨_,whole_r u1 u2,.inl ⟨_,key hi u1 u2 h1,by kernel_rfl,bv ?_,trivial⟩⟩,fun h2=>⟨by kernel_rfl,bv ?_,trivial⟩⟩⟩,fun h1=>⟨nofun,fun _=>⟨by kernel_rfl,bv ?_,trivial⟩⟩⟩⟩
 ·have h1:r.ok=true:=h1
  have h2:decide (cmpI r.p (lo*r.q) ≥ 0)=true:=h2
  rw [cmpI_ge] at h2
  rw [betQ,h1,h2,cmpI_le];rfl
 ·have h2:decide (cmpI r.p (lo*r.q) ≥ 0)=false:=h2
  rw [cmpI_ge] at h2
  rw [betQ,h2,Bool.false_and,Bool.and_false]
 ·have h1:r.ok=false:=h1
  rw [betQ,h1];rfl
theorem runs_num {E:Env} (hE:E.P=Tryz.prog) (r:RQ):Runs E (Instr.field 27 (.agg r.A) 0) (.agg (iA r.a r.N)):=fun w _=>by
 rw [hE]
 have h:=part_agg (P:=Tryz.prog) tok25 rfl r.A 0 w
 have e:r.A.extract 0 (0+ti25.size)=iA r.a r.N:=r.cat_l
 rw [e] at h
 simp [Instr.field,Sem.run_bind,run_underlying Tryz.underlying27,asAgg,h]
theorem power_r {n:Nat} (h:n≤18):Pure Tryz.prog 106 [SV.c (.int .i64 n)] (.agg (RQ.of ((tp n:Nat):Int) 1).A):=by
 refine sx_pure tt_ok mixed at106 _ _ rfl rfl fun w=>?_
 have hpn:=tp_le h
 rw [tp18] at hpn
 refine ⟨fun q f m=>∃ i:Nat,q=n - i∧i≤n∧f=[(0,SV.c (.int .i64 n)),(2,SV.ptr 2 0),(3,SV.c (.int .i64 ((tp i:Nat):Int))),(4,SV.c (.int .i64 i))]∧m=[(2,Blk.row 27 66 ti27.zero)],n,⟨_,_,⟨0,rfl,Nat.zero_le _,rfl,rfl⟩,⟨rfl,rfl,rfl,rfl,trivial⟩,⟨rfl,trivial⟩,rfl⟩,?_⟩
 rintro q f m ⟨i,rfl,hi,rfl,rfl⟩
 refine ⟨fun h1=>?_,fun h1=>?_⟩
 ·have h1:(i:Int) < n:=of_decide_eq_true h1
  have hp:tp (i+1)≤tp 18:=tp_le (by omega)
  refine ⟨n - (i+1),_,_,by omega,⟨i+1,rfl,by omega,rfl,rfl⟩,⟨rfl,rfl,c_int ?_,c_int (by rw [i64_in (by omega)];rfl),trivial⟩,⟨rfl,trivial⟩,rfl⟩
  rw [tp_succ,tp18] at hp
  rw [tp_succ]
  rw [i64_in (by omega)]
  omega
 ·have h1:¬ ((i:Int) < n):=of_decide_eq_false h1
  obtain rfl:i=n:=by omega
  exact .inl ⟨_,whole_r (by omega) (by omega),RQ.A_fits _,rfl,trivial⟩
theorem scaled_r {r:RQ} (hr:r.In) (hk:r.ok=true) {n:Nat} (hn:n≤9):Pure Tryz.prog 68 [SV.c (.agg r.A),SV.c (.int .i64 n)] (.tuple #[.agg (eA (r.p*((tp n:Nat):Int))),.agg (eA r.q)]):=by
 refine sx_pure tt_ok mixed at68 _ _ rfl rfl fun w=>?_
 obtain ⟨k1,k2,k3,k4,k5⟩:=RQ.ok_bits hk
 have hp:=tp_le hn
 rw [tp9] at hp
 have hl:=scale_lt k1 hn
 have hm:=mul_r hr.num (isI_e (z:=((tp n:Nat):Int)) (i64_lt (by omega) (by omega)))
 rw [fitR,if_pos hl] at hm
 rw [← den_ok hk]
 exact ⟨r.A_size,by decide,_,r.cat_l,.inl ⟨_,power_r (by omega),_,runs_num rfl (.of _ _),.inl ⟨_,hm,eA_fits _,by kernel_rfl,by decide,_,r.cat_r,eA_fits _,iA_fits _ _,by kernel_rfl,rfl,trivial⟩⟩⟩
def plOk (n:Int):Bool:=decide (n ≥ 0) && decide (n≤9)
theorem plOk_iff {n:Int}:plOk n=true↔¬ (n < 0∨n > 9):=by
 unfold plOk;simp only [Bool.and_eq_true,decide_eq_true_eq];omega
theorem places_r (n:Int):Pure Tryz.prog 67 [SV.c (.int .i64 n)] (.bool (plOk n)):=by
 refine sx_pure tt_ok mixed at67 _ _ rfl rfl fun w=>?_
 refine ⟨fun h=>⟨bv ?_,trivial⟩,fun h=>⟨bv ?_,trivial⟩⟩
 ·have h:decide (n ≥ 0)=true:=h
  rw [plOk,h,Bool.true_and]
 ·have h:decide (n ≥ 0)=false:=h
  rw [plOk,h,Bool.false_and]
theorem above_r {mode:Int} (_hm:¬ (mode < 1∨mode > 6)) (neg:Bool) (half:Int) (odd:Bool):Pure Tryz.prog 140 [SV.c (.int .i64 mode),SV.c (.bool neg),SV.c (.int .i64 half),SV.c (.bool odd)] (.bool (upM mode neg half odd)):=by
 refine sx_pure tt_ok mixed at140 _ _ rfl rfl fun w=>?_
 unfold upM
 refine ⟨fun h1=>⟨bv ?_,trivial⟩,fun h1=>⟨fun h2=>⟨bv ?_,trivial⟩,fun h2=>⟨fun h3=>⟨bv ?_,trivial⟩,fun h3=>⟨fun h4=>⟨bv ?_,trivial⟩,fun h4=>⟨fun h5=>⟨bv ?_,trivial⟩,fun h5=>⟨fun h6=>⟨bv ?_,trivial⟩,fun h6=>⟨bv ?_,trivial⟩⟩⟩⟩⟩⟩⟩
 all_goals simp only [beq_iff_eq,beq_eq_false_iff_ne,ne_eq,bne_iff_ne,bne_eq_false_iff_eq] at *
 ·rw [if_pos h1]
 ·rw [if_neg h1,if_pos h2]
 ·rw [if_neg h1,if_neg h2,if_pos h3]
 ·rw [if_neg h1,if_neg h2,if_neg h3,if_pos h4]
 ·rw [if_neg h1,if_neg h2,if_neg h3,if_neg h4,if_neg h5,if_neg h5,ite_self]
 ·rw [if_neg h1,if_neg h2,if_neg h3,if_neg h4,if_pos h6,if_pos h5]
 ·rw [if_neg h1,if_neg h2,if_neg h3,if_neg h4,if_neg h6,if_pos h5]
theorem round_r {r:RQ} (hr:r.In) (n mode:Int):Pure Tryz.prog 104 [SV.c (.agg r.A),SV.c (.int .i64 n),SV.c (.int .i64 mode)] (resZ (rndQ r n mode)):=by
 refine sx_pure tt_ok mixed at104 _ _ rfl rfl fun w=>?_
 refine ⟨r.A_size,.inl ⟨_,valid_r hr,fun h1=>⟨ti25.zero,rfl,eA_fits 0,?_,trivial⟩,fun h1=>.inl ⟨_,places_r n,fun h2=>⟨ti25.zero,rfl,eA_fits 0,?_,trivial⟩,fun h2=>⟨fun h3=>⟨fun h4=>⟨ti25.zero,rfl,eA_fits 0,?_,trivial⟩,fun h4=>?_⟩,fun h3=>⟨fun _=>⟨ti25.zero,rfl,eA_fits 0,?_,trivial⟩,nofun⟩⟩⟩⟩⟩
 ·have h1:=bnt h1
  rw [rndQ,h1,Bool.not_false,if_pos rfl];rfl
 all_goals
  have hk:=bnf h1
  clear h1
 ·have h2:=bnt h2
  have h2:n < 0∨n > 9:=Decidable.of_not_not fun h=>by rw [plOk_iff.2 h] at h2;cases h2
  rw [rndQ,hk,Bool.not_true,if_neg Bool.false_ne_true,if_pos h2];rfl
 all_goals
  have hn:=plOk_iff.1 (bnf h2)
  clear h2
 ·have h4:=of_decide_eq_true h4
  rw [rndQ,hk,Bool.not_true,if_neg Bool.false_ne_true,if_neg hn,if_pos (.inr h4)];rfl
 rotate_left
 ·have h3:=of_decide_eq_true h3
  rw [rndQ,hk,Bool.not_true,if_neg Bool.false_ne_true,if_neg hn,if_pos (.inl h3)];rfl
 have h3:=of_decide_eq_false h3
 have h4:=of_decide_eq_false h4
 have hm:¬ (mode < 1∨mode > 6):=by omega
 obtain ⟨k,rfl⟩:∃ k:Nat,n=k:=⟨n.toNat,by omega⟩
 have hk9:k≤9:=by omega
 obtain ⟨k1,k2,k3,k4,k5⟩:=RQ.ok_bits hk
 have hs:=scaled_r hr hk hk9
 have hl:=scale_lt2 k1 hk9
 have hql:r.q.natAbs < 2 ^ e480:=Nat.lt_of_lt_of_le (bl_bits _).1 (Nat.pow_le_pow_right (by omega) k2)
 have hrl:(r.p*((tp k:Nat):Int) % r.q).natAbs < 2 ^ e480:=by
  have h1:=Int.emod_lt_of_pos (r.p*((tp k:Nat):Int)) k3
  have h2:=Int.emod_nonneg (r.p*((tp k:Nat):Int)) (show r.q≠0 by omega)
  omega
 have hlow:(r.p*((tp k:Nat):Int) / r.q).natAbs < 2 ^ e960:=Nat.lt_of_le_of_lt (Int.natAbs_ediv_le_natAbs _ _) hl
 have p1:=hp480
 have p2:=hp960
 have p3:=hp961
 have pp:2 ^ e480+2 ^ e480≤2 ^ e960:=by decide +kernel
 have p4:1≤2 ^ e960:=Nat.pow_pos (by omega)
 rw [rndQ,hk,Bool.not_true,if_neg Bool.false_ne_true,if_neg hn,if_neg hm,Int.toNat_natCast]
 unfold rndZ
 have hd:=divmod_r (isI_e (z:=r.p*((tp k:Nat):Int)) (by omega)) (isI_e (z:=r.q) (by omega)) (by omega)
 have hsx:=sign_r (isI_e (z:=r.p*((tp k:Nat):Int)) (by omega))
 generalize r.p*((tp k:Nat):Int) / r.q=low at *
 generalize r.p*((tp k:Nat):Int) % r.q=rest at *
 generalize r.p*((tp k:Nat):Int)=x at *
 have ht:=add_r (isI_e (z:=rest) (by omega)) (isI_e (z:=rest) (by omega))
 rw [fitR,if_pos (by omega)] at ht
 have hcm:=cmp_r (isI_e (z:=rest+rest) (by omega)) (isI_e (z:=r.q) (by omega))
 have ha:=add_r (isI_e (z:=low) (by omega)) (isI_e (z:=1) (by omega))
 rw [fitR,if_pos (by omega)] at ha
 have g0:(eA low)[1]? = some (.int .u32 (dg low.natAbs 0:Nat)):=iA_lim (i:=0) (by omega)
 have eodd:(((((dg low.natAbs 0:Nat):Int)).tmod 2) == 1)=decide (low % 2=1):=by
  rw [dg0,Bool.eq_iff_iff]
  simp only [beq_iff_eq,decide_eq_true_eq]
  rw [Int.tmod_eq_emod_of_nonneg (by omega)]
  omega
 have hab:=above_r hm (decide (sgn x < 0)) (cmpI (rest+rest) r.q) (((((dg low.natAbs 0:Nat):Int)).tmod 2) == 1)
 refine .inl ⟨_,hs,eA_fits _,eA_fits _,.inl ⟨_,hd,eA_fits _,eA_fits _,.inl ⟨_,sign_r (isI_e (z:=rest) (by omega)),fun h1=>?_,fun h1=>?_⟩⟩⟩
 ·rw [sgn_zero] at h1
  have h1:rest=0:=of_decide_eq_true h1
  refine ⟨eA_fits _,?_,trivial⟩
  rw [if_pos h1];rfl
 ·rw [sgn_zero] at h1
  have h1:¬ rest=0:=of_decide_eq_false h1
  rw [if_neg h1]
  refine .inl ⟨_,ht,eA_fits _,.inl ⟨_,hsx,.inl ⟨_,hcm,by decide,by decide,_,g0,by decide,.inl ⟨_,hab,by kernel_rfl,fun h2=>?_,fun h2=>?_⟩⟩⟩⟩
  ·have h2:upM mode (decide (sgn x < 0)) (cmpI (rest+rest) r.q) (((((dg low.natAbs 0:Nat):Int)).tmod 2) == 1)=true:=h2
   rw [eodd,sgn_neg] at h2
   refine .inl ⟨_,fromInt_r 1 (by omega) (by omega),.inl ⟨_,ha,eA_fits _,by kernel_rfl,eA_fits _,?_,trivial⟩⟩
   rw [h2,if_pos rfl];rfl
  ·have h2:upM mode (decide (sgn x < 0)) (cmpI (rest+rest) r.q) (((((dg low.natAbs 0:Nat):Int)).tmod 2) == 1)=false:=h2
   rw [eodd,sgn_neg] at h2
   refine ⟨eA_fits _,?_,trivial⟩
   rw [h2,if_neg Bool.false_ne_true];rfl
theorem roundInt_r {r:RQ} (hr:r.In) (n mode:Int):Pure Tryz.prog 55 [SV.c (.agg r.A),SV.c (.int .i64 n),SV.c (.int .i64 mode)] (resI (rndI (rndQ r n mode))):=by
 refine sx_pure tt_ok mixed at55 _ _ rfl rfl fun w=>?_
 have hx:=round_r hr n mode
 have hlt:=rndQ_lt r n mode
 generalize rndQ r n mode=x at *
 obtain ⟨x,e⟩:=x
 have ht:=toInt_r (isI_e hlt)
 have hx:Pure Tryz.prog 104 [SV.c (.agg r.A),SV.c (.int .i64 n),SV.c (.int .i64 mode)] (.tuple #[.agg (eA x),.int .i64 e]):=hx
 have ht:Pure Tryz.prog 53 [SV.c (.agg (eA x))] (toIntR x):=ht
 refine ⟨r.A_size,.inl ⟨_,hx,eA_fits _,fun h=>?_,fun h=>?_⟩⟩
 ·have h:e≠0:=by simpa using h
  refine ⟨?_,trivial⟩
  rw [rndI,if_pos h];rfl
 ·have h:¬ (e≠0):=by simpa using h
  rw [rndI,if_neg h]
  by_cases hz : -9223372036854775808≤x∧x≤9223372036854775807
  ·rw [toIntR,if_pos hz] at ht
   refine .inl ⟨_,ht,fun _=>⟨fun h1=>⟨fun h2=>?_,fun h2=>?_⟩,fun h1=>⟨fun _=>?_,nofun⟩⟩,nofun⟩
   ·have h2:=of_decide_eq_true h2
    refine ⟨?_,trivial⟩
    rw [if_pos (.inl h2)];rfl
   ·have h1:=of_decide_eq_false h1
    have h2:=of_decide_eq_false h2
    refine ⟨?_,trivial⟩
    rw [if_neg (by omega)];rfl
   ·have h1:=of_decide_eq_true h1
    refine ⟨?_,trivial⟩
    rw [if_pos (.inr h1)];rfl
  ·rw [toIntR,if_neg hz] at ht
   refine .inl ⟨_,ht,nofun,fun _=>⟨nofun,fun _=>⟨fun _=>⟨?_,trivial⟩,nofun⟩⟩⟩
   rw [if_pos (show (x,e).1 < -1000000000000000∨(x,e).1 > 1000000000000000 by show x < _∨x > _;omega)];rfl
def exaQ (r:RQ) (n:Int):Bool×Int:=if !r.ok then (false,20) else if n < 0∨n > 9 then (false,30) else (decide (r.p*(tp n.toNat:Nat) % r.q=0),0)
theorem exact_r {r:RQ} (hr:r.In) (n:Int):Pure Tryz.prog 27 [SV.c (.agg r.A),SV.c (.int .i64 n)] (.tuple #[.bool (exaQ r n).1,.int .i64 (exaQ r n).2]):=by
 refine sx_pure tt_ok mixed at27 _ _ rfl rfl fun w=>?_
 refine ⟨r.A_size,.inl ⟨_,valid_r hr,fun h1=>⟨?_,trivial⟩,fun h1=>.inl ⟨_,places_r n,fun h2=>⟨?_,trivial⟩,fun h2=>?_⟩⟩⟩
 ·have h1:=bnt h1
  rw [exaQ,h1,Bool.not_false,if_pos rfl];rfl
 all_goals
  have hk:=bnf h1
  clear h1
 ·have h2:=bnt h2
  have h2:n < 0∨n > 9:=Decidable.of_not_not fun h=>by rw [plOk_iff.2 h] at h2;cases h2
  rw [exaQ,hk,Bool.not_true,if_neg Bool.false_ne_true,if_pos h2];rfl
 have hn:=plOk_iff.1 (bnf h2)
 obtain ⟨k,rfl⟩:∃ k:Nat,n=k:=⟨n.toNat,by omega⟩
 have hk9:k≤9:=by omega
 obtain ⟨k1,k2,k3,k4,k5⟩:=RQ.ok_bits hk
 have hs:=scaled_r hr hk hk9
 have hl:=scale_lt2 k1 hk9
 have hql:r.q.natAbs < 2 ^ e480:=Nat.lt_of_lt_of_le (bl_bits _).1 (Nat.pow_le_pow_right (by omega) k2)
 have hrl:(r.p*((tp k:Nat):Int) % r.q).natAbs < 2 ^ e480:=by
  have h1:=Int.emod_lt_of_pos (r.p*((tp k:Nat):Int)) k3
  have h2:=Int.emod_nonneg (r.p*((tp k:Nat):Int)) (show r.q≠0 by omega)
  omega
 have p1:=hp480
 have p2:=hp960
 rw [exaQ,hk,Bool.not_true,if_neg Bool.false_ne_true,if_neg hn,Int.toNat_natCast]
 have hd:=divmod_r (isI_e (z:=r.p*((tp k:Nat):Int)) (by omega)) (isI_e (z:=r.q) (by omega)) (by omega)
 generalize r.p*((tp k:Nat):Int) % r.q=rest at *
 refine .inl ⟨_,hs,eA_fits _,eA_fits _,.inl ⟨_,hd,eA_fits _,eA_fits _,.inl ⟨_,sign_r (isI_e (z:=rest) (by omega)),tup2 (bv sgn_zero) rfl,trivial⟩⟩⟩
end Go.Proofs.YtnfmpddhcjkjbaaGreatDoor
