/- walks: the reference, products. walks: the reference, shifts. walks: the reference, quotients. walks: the reference, pairs; no condition. -/
import Derived.Test.YtofllflnmmjijaaGreatDoorP18
set_option maxRecDepth 100000
set_option maxHeartbeats 4000000
namespace Go.Proofs.YtofllflnmmjijaaGreatDoor
open Go Go.RowKit Go.SX
theorem mul_r {A B:Array Value} {x y:Int} (hA:IsI A x) (hB:IsI B y):Pure Tryz.prog 47 [SV.c (.agg A),SV.c (.agg B)] (fitR (x*y)):=by
 obtain ⟨a,N,hN,rfl,rfl⟩:=hA.raw
 obtain ⟨b,M,hM,rfl,rfl⟩:=hB.raw
 obtain ⟨n,hn,hu⟩:=used_ex hN
 obtain ⟨m,hm,hv⟩:=used_ex hM
 have ez:zN (a != b) (N*M)=zN a N*zN b M:=by
  cases a<;>cases b<;>simp [zN,Int.neg_mul,Int.mul_neg]
 have eab:(zN a N*zN b M).natAbs=N*M:=by rw [← ez,zN_abs]
 refine sx_pure tt_ok mixed at47 _ _ rfl rfl fun w=>?_
 refine ⟨iA_size _ _,iA_size _ _,by decide,_,iA_mag,.inl ⟨_,limbs_r hu hN,by decide,_,iA_mag,.inl ⟨_,limbs_r hv hM,by kernel_rfl,?_⟩⟩⟩
 refine ⟨fun q f mm=>∃ (i:Nat) (F:Nat→Nat),q=n - i∧i≤n∧MulO N M m i F∧f=[(2,SV.ptr 2 0),(3,SV.ptr 3 0),(4,SV.ptr 4 0),(6,SV.ptr 6 0),(7,SV.c (.int .i64 n)),(8,SV.c (.int .i64 m)),(9,SV.c (.int .i64 i))]∧mm=[(2,Blk.row 31 33 (iA a N)),(3,Blk.row 31 33 (iA b M)),(4,Blk.row 31 33 ti31.zero),(6,Blk.row 153 64 (lA F 64))],n,⟨_,_,⟨0,fun _=>0,rfl,Nat.zero_le _,MulO.start N M m,rfl,rfl⟩,⟨rfl,rfl,rfl,rfl,rfl,rfl,rfl,trivial⟩,⟨rfl,rfl,rfl,rfl,trivial⟩,rfl⟩,?_⟩
 rintro q f mm ⟨i,F,rfl,hi,hF,rfl,rfl⟩
 refine ⟨fun h=>?_,fun h=>?_⟩
 ·have hin:i < n:=by have:=of_decide_eq_true h;omega
  refine ⟨fun q f mm=>∃ (j c:Nat) (G:Nat→Nat),q=m - j∧j≤m∧MulI N M m i j F G c∧f=[(2,SV.ptr 2 0),(3,SV.ptr 3 0),(4,SV.ptr 4 0),(6,SV.ptr 6 0),(7,SV.c (.int .i64 n)),(8,SV.c (.int .i64 m)),(9,SV.c (.int .i64 i)),(10,SV.c (.int .u64 c)),(11,SV.c (.int .i64 j))]∧mm=[(2,Blk.row 31 33 (iA a N)),(3,Blk.row 31 33 (iA b M)),(4,Blk.row 31 33 ti31.zero),(6,Blk.row 153 64 (lA G 64))],m,⟨_,_,⟨0,0,F,rfl,Nat.zero_le _,hF.row,rfl,rfl⟩,⟨rfl,rfl,rfl,rfl,rfl,rfl,rfl,rfl,rfl,trivial⟩,⟨rfl,rfl,rfl,rfl,trivial⟩,rfl⟩,?_⟩
  rintro q f mm ⟨j,c,G,rfl,hj,hG,rfl,rfl⟩
  refine ⟨fun h2=>?_,fun h2=>?_⟩
  ·have hjm:j < m:=by have:=of_decide_eq_true h2;omega
   have e1:IntKind.i64.wrap ((i:Int)+j)=((i+j:Nat):Int):=by rw [i64_in (by omega)];omega
   have gN:(iA a N)[1+i]? = _:=iA_lim (show i < 32 by omega)
   have gM:(iA b M)[1+j]? = _:=iA_lim (show j < 32 by omega)
   have gC:(lA G 64)[(IntKind.i64.wrap ((i:Int)+j)).toNat]? = some (.int .u32 (G (i+j):Nat)):=by rw [e1];exact lA_get G (by omega)
   have eM:=mul64 (dg_lt N i) (dg_lt M j) (hG.lt (i+j)) hG.carry
   have hlt:=mul_lt (dg_lt N i) (dg_lt M j) (hG.lt (i+j)) hG.carry
   refine ⟨by omega,by show (i:Int) < 32;omega,_,gN,by omega,by show (j:Int) < 32;omega,_,gM,by rw [e1];omega,by rw [e1];show ((i+j:Nat):Int) < 64;omega,_,gC,by kernel_rfl,by rw [e1];omega,by rw [e1];show ((i+j:Nat):Int) < 64;omega,by rw [e1];show i+j < 64;omega,rfl,_,lA_put e1 (v:=(dg N i*dg M j+G (i+j)+c) % BB) (by rw [eM,u32_wrap,BB_eq];rfl),by decide,?_⟩
   refine ⟨m - (j+1),_,_,by omega,⟨j+1,_,_,rfl,by omega,hG.step,rfl,rfl⟩,⟨rfl,rfl,rfl,rfl,rfl,rfl,rfl,c_int (by rw [eM];exact shr32 _),c_int (by rw [i64_in (by omega)];rfl),trivial⟩,⟨rfl,rfl,rfl,rfl,trivial⟩,rfl⟩
  ·have:j=m:=by have:=of_decide_eq_false h2;omega
   subst this
   have e1:IntKind.i64.wrap ((i:Int)+j)=((i+j:Nat):Int):=by rw [i64_in (by omega)];omega
   have hcc:=hG.carry
   rw [BB_eq] at hcc
   refine ⟨by rw [e1];omega,by rw [e1];show ((i+j:Nat):Int) < 64;omega,by rw [e1];show i+j < 64;omega,rfl,_,lA_put e1 (v:=c) (u32_in (by omega)),?_⟩
   exact ⟨n - (i+1),_,_,by omega,⟨i+1,_,rfl,by omega,hG.done hF hv.1,rfl,rfl⟩,⟨rfl,rfl,rfl,rfl,rfl,rfl,c_int (by rw [i64_in (by omega)];rfl),trivial⟩,⟨rfl,rfl,rfl,rfl,trivial⟩,rfl⟩
 ·have:i=n:=by have:=of_decide_eq_false h;omega
  subst this
  obtain ⟨h1,h2,h3⟩:=mul_low hF.lt (hF.full hu.1 (by omega))
  refine ⟨fun q f mm=>∃ (k:Nat) (g:Nat→Nat),q=32 - k∧k≤32∧(∀ j,j < k→dg (N*M / BB ^ 32) j=0∧g j=dg (N*M % BB ^ 32) j)∧f=[(2,SV.ptr 2 0),(3,SV.ptr 3 0),(4,SV.ptr 4 0),(6,SV.ptr 6 0),(13,SV.ptr 13 0),(14,SV.c (.int .i64 k))]∧mm=[(2,Blk.row 31 33 (iA a N)),(3,Blk.row 31 33 (iA b M)),(4,Blk.row 31 33 ti31.zero),(6,Blk.row 153 64 (lA F 64)),(13,Blk.row 29 32 (lA g 32))],32,⟨_,_,⟨0,fun _=>0,rfl,Nat.zero_le _,fun j hj=>absurd hj (by omega),rfl,rfl⟩,⟨rfl,rfl,rfl,rfl,rfl,rfl,trivial⟩,⟨rfl,rfl,rfl,rfl,rfl,trivial⟩,rfl⟩,?_⟩
  rintro q f mm ⟨k,g,rfl,hk,hg,rfl,rfl⟩
  refine ⟨fun h4=>?_,fun h4=>?_⟩
  ·have h4:k < 32:=by have:=of_decide_eq_true h4;omega
   have e1:IntKind.i64.wrap (32+(k:Int))=((32+k:Nat):Int):=by rw [i64_in (by omega)];omega
   have gH:(lA F 64)[(IntKind.i64.wrap (32+(k:Int))).toNat]? = some (.int .u32 (F (32+k):Nat)):=by rw [e1];exact lA_get F (by omega)
   have gL:(lA F 64)[k]? = some (.int .u32 (F k:Nat)):=lA_get F (by omega)
   refine ⟨by rw [e1];omega,by rw [e1];show ((32+k:Nat):Int) < 64;omega,_,gH,fun h5=>?_,fun h5=>?_⟩
   ·have h5:F (32+k)≠0:=by intro e;rw [e] at h5;simp at h5
    rw [h2 k h4] at h5
    have:¬ N*M < BB ^ 32:=by
     intro hl
     rw [Nat.div_eq_of_lt hl,dg_zero] at h5
     exact h5 rfl
    refine ⟨ti31.zero,rfl,eA_fits 0,?_,trivial⟩
    rw [fitR,if_neg (by rw [eab];exact this)];rfl
   ·have h5:F (32+k)=0:=by
      have:((F (32+k):Nat):Int)=0:=by simpa using h5
      omega
    rw [h2 k h4] at h5
    refine ⟨by omega,by show (k:Int) < 64;omega,_,gL,by omega,by show (k:Int) < 32;omega,by show k < 32;omega,rfl,_,lA_put (i:=k) (x:=(k:Int)) rfl rfl,?_⟩
    refine ⟨32 - (k+1),_,_,by omega,⟨k+1,_,rfl,by omega,fun j hj=>?_,rfl,rfl⟩,⟨rfl,rfl,rfl,rfl,rfl,c_int (by rw [i64_in (by omega)];rfl),trivial⟩,⟨rfl,rfl,rfl,rfl,rfl,trivial⟩,rfl⟩
    by_cases e:j=k
    ·subst e
     exact ⟨h5,by rw [if_pos rfl];exact h1 j h4⟩
    ·rw [if_neg e];exact hg j (by omega)
  ·have h4:k=32:=by have:=of_decide_eq_false h4;omega
   subst h4
   have hz:N*M / BB ^ 32=0:=dg_ext (n:=32) h3 (pow_pos' 32) fun j hj=>by rw [(hg j hj).1,dg_zero]
   have hl:N*M < BB ^ 32:=(Nat.div_eq_zero_iff_lt (pow_pos' 32)).1 hz
   have hA:lA g 32=mA (N*M):=lA_congr fun j hj=>by rw [(hg j hj).2,Nat.mod_eq_of_lt hl]
   rw [hA]
   have cc:=canon_r (a != b) hl
   rw [ez] at cc
   refine ⟨_,iA_neg,_,iA_neg,.inl ⟨_,cc,eA_fits _,?_,trivial⟩⟩
   rw [fitR,if_pos (by rw [eab];exact hl)];rfl
theorem dg_mod_pow {T j:Nat} (h:j < 32):dg (T % BB ^ 32) j=dg T j:=by
 rw [← nv_dg];exact dg_nv (fun j _=>dg_lt T j) h
theorem dbl_top {N b:Nat} (hN:N < BB ^ 32) (hb:b≤1):((dg N 31 / 2147483648:Nat):Int)=1↔¬ 2*N+b < BB ^ 32:=by
 have h:=dg_double N b 32 hb
 rw [dg_of_lt hN (Nat.le_refl 32),if_neg (by omega)] at h
 simp only [Nat.zero_mul,Nat.zero_mod,Nat.zero_or] at h
 rw [show 32 - 1=31 from rfl] at h
 rw [← h]
 unfold dg
 have hP:=pow_pos' 32
 have hlt:(2*N+b) / BB ^ 32 < 2:=by
  rw [Nat.div_lt_iff_lt_mul hP];omega
 have hlt2:(2*N+b) / BB ^ 32 < BB:=Nat.lt_trans hlt (by decide)
 rw [Nat.mod_eq_of_lt hlt2]
 constructor
 ·intro h1 h2
  rw [Nat.div_eq_of_lt h2] at h1;simp at h1
 ·intro h1
  have:1≤(2*N+b) / BB ^ 32:=(Nat.le_div_iff_mul_le hP).2 (by omega)
  omega
theorem double_r {N b:Nat} (hN:N < BB ^ 32) (hb:b≤1):Pure Tryz.prog 206 [SV.c (.agg (mA N)),SV.c (.int .u32 (b:Nat))] (.tuple #[.agg (mA ((2*N+b) % BB ^ 32)),.bool (!decide (2*N+b < BB ^ 32))]):=by
 refine sx_pure tt_ok mixed at206 _ _ rfl rfl fun w=>?_
 refine ⟨mA_size _,fun q f m=>∃ (k:Nat) (g:Nat→Nat),q=32 - k∧k≤32∧(∀ j,j < 32→g j=if j < k then dg (2*N+b) j else dg N j)∧f=[(1,SV.c (.int .u32 (if k=0 then b else dg N (k - 1) / 2147483648:Nat))),(2,SV.ptr 2 0),(4,SV.ptr 4 0),(6,SV.c (.int .i64 k))]∧m=[(2,Blk.row 29 32 (lA g 32)),(4,Blk.row 29 32 (lA (fun _=>0) 32))],32,⟨_,_,⟨0,dg N,rfl,Nat.zero_le _,fun j hj=>by rw [if_neg (by omega)],rfl,rfl⟩,⟨rfl,rfl,rfl,rfl,trivial⟩,⟨rfl,rfl,trivial⟩,rfl⟩,?_⟩
 rintro q f m ⟨k,g,rfl,hk,hg,rfl,rfl⟩
 refine ⟨fun h=>?_,fun h=>?_⟩
 ·have h1:k < 32:=by have:=of_decide_eq_true h;omega
  have hx:=dg_lt N k
  have gk:g k=dg N k:=by rw [hg k h1,if_neg (by omega)]
  have gx:(lA g 32)[k]? = some (.int .u32 (dg N k:Nat)):=by rw [lA_get g h1,gk]
  rw [BB_eq] at hx
  have hbit:(if k=0 then b else dg N (k - 1) / 2147483648) < 4294967296:=by
   split
   ·omega
   ·have:=dg_lt N (k - 1);rw [BB_eq] at this;omega
  have es:IntKind.u32.wrap ((dg N k:Nat)*2 ^ min (Int.toNat 1) IntKind.u32.bits)=((dg N k*2 % 4294967296:Nat):Int):=by
   rw [u32_wrap];show ((dg N k:Nat):Int)*2 % 4294967296=_;omega
  have ev:=or32 (A:=dg N k*2 % 4294967296) (B:=if k=0 then b else dg N (k - 1) / 2147483648) (Nat.mod_lt _ (by omega)) hbit
  rw [← es] at ev
  refine ⟨by omega,by show (k:Int) < 32;omega,_,gx,by decide,by omega,by show (k:Int) < 32;omega,_,gx,by decide,by omega,by show (k:Int) < 32;omega,by show k < 32;omega,rfl,_,lA_put (i:=k) (x:=(k:Int)) rfl ev,by kernel_rfl,?_⟩
  refine ⟨32 - (k+1),_,_,by omega,⟨k+1,_,rfl,by omega,fun j hj=>?_,rfl,rfl⟩,⟨c_int (by rw [if_neg (by omega),show k+1 - 1=k by omega];exact sh_nat _ 31),rfl,rfl,c_int (by rw [i64_in (by omega)];rfl),trivial⟩,⟨rfl,rfl,trivial⟩,rfl⟩
  by_cases e:j=k
  ·subst e
   rw [if_pos rfl,if_pos (show j < j+1 by omega),dg_double N b j hb]
  ·rw [if_neg e,hg j hj]
   by_cases e2:j < k
   ·rw [if_pos e2,if_pos (by omega)]
   ·rw [if_neg e2,if_neg (by omega)]
 ·have h1:k=32:=by have:=of_decide_eq_false h;omega
  subst h1
  have hA:lA g 32=mA ((2*N+b) % BB ^ 32):=lA_congr fun j hj=>by
   rw [hg j hj,if_pos hj]
   exact (dg_mod_pow hj).symm
  refine ⟨lA_fits _ _,tup2 (by rw [hA]) (bv ?_),trivial⟩
  rw [Bool.eq_iff_iff]
  simp only [if_neg (show ¬ 32=0 by omega),show 32 - 1=31 from rfl,beq_iff_eq,Bool.not_eq_true',decide_eq_false_iff_not]
  exact dbl_top hN hb
theorem tmod_nat (a b:Nat):Int.tmod (a:Int) (b:Int)=((a % b:Nat):Int):=(Int.ofNat_tmod a b).symm
theorem tdiv_nat (a b:Nat):Int.tdiv (a:Int) (b:Int)=((a / b:Nat):Int):=(Int.ofNat_tdiv a b).symm
theorem shifted_r {N n:Nat} (hN:N < BB ^ 32) (hn:n≤1024):Pure Tryz.prog 205 [SV.c (.agg (mA N)),SV.c (.int .i64 (n:Nat))] (.agg (mA (N / 2 ^ n))):=by
 refine sx_pure tt_ok mixed at205 _ _ rfl rfl fun w=>?_
 obtain ⟨k,s,hs,rfl⟩:∃ k s,s < 32∧n=32*k+s:=⟨n / 32,n % 32,Nat.mod_lt _ (by omega),by omega⟩
 have ek:IntKind.i64.wrap (Int.tdiv ((32*k+s:Nat):Int) 32)=(k:Nat):=by
  have:=tdiv_nat (32*k+s) 32
  rw [show ((32:Nat):Int)=32 from rfl] at this
  rw [this,show (32*k+s) / 32=k by omega,i64_in (by omega)]
 have es:IntKind.u64.wrap (Int.tmod ((32*k+s:Nat):Int) 32)=(s:Nat):=by
  have:=tmod_nat (32*k+s) 32
  rw [show ((32:Nat):Int)=32 from rfl] at this
  rw [this,show (32*k+s) % 32=s by omega,u64_in (by omega)]
 refine ⟨mA_size _,by decide,by decide,fun q f m=>∃ (i:Nat) (g:Nat→Nat),q=32 - (i+k)∧i+k≤32∧(∀ j,j < 32→g j=if j < i then dg (N / 2 ^ (32*k+s)) j else 0)∧f=[(2,SV.ptr 2 0),(4,SV.ptr 4 0),(5,SV.ptr 5 0),(6,SV.c (.int .i64 k)),(7,SV.c (.int .u64 s)),(8,SV.c (.int .i64 i))]∧m=[(2,Blk.row 29 32 (mA N)),(4,Blk.row 29 32 (lA (fun _=>0) 32)),(5,Blk.row 29 32 (lA g 32))],32 - (0+k),⟨_,_,⟨0,fun _=>0,rfl,by omega,fun j hj=>by rw [if_neg (by omega)],rfl,rfl⟩,⟨rfl,rfl,rfl,c_int ek,c_int es,rfl,trivial⟩,⟨rfl,rfl,rfl,trivial⟩,rfl⟩,?_⟩
 rintro q f m ⟨i,g,rfl,hi,hg,rfl,rfl⟩
 have e1:IntKind.i64.wrap ((i:Int)+k)=((i+k:Nat):Int):=by rw [i64_in (by omega)];omega
 refine ⟨fun h=>?_,fun h=>?_⟩
 ·have h1:i+k < 32:=by have:=of_decide_eq_true h;rw [e1] at this;omega
  have gx:(mA N)[(IntKind.i64.wrap ((i:Int)+k)).toNat]? = some (.int .u32 (dg N (i+k):Nat)):=by rw [e1];exact mA_get h1
  have hsh:=dg_shr N k s i hs
  have hx:=dg_lt N (i+k)
  have hy:=dg_lt N (i+k+1)
  rw [BB_eq] at hx hy
  have esh:((dg N (i+k):Nat):Int).fdiv (2 ^ min (Int.toNat (s:Int)) IntKind.u32.bits)=((dg N (i+k) / 2 ^ s:Nat):Int):=shr_nat _ s (by omega) rfl
  have e2:IntKind.i64.wrap (IntKind.i64.wrap ((i:Int)+k)+1)=((i+k+1:Nat):Int):=by rw [e1,i64_in (by omega)];omega
  refine ⟨by rw [e1];omega,by rw [e1];show ((i+k:Nat):Int) < 32;omega,_,gx,by omega,by omega,by show (i:Int) < 32;omega,by show i < 32;omega,rfl,_,lA_put (i:=i) (x:=(i:Int)) rfl esh,fun h2=>⟨fun h3=>?_,fun h3=>?_⟩,fun h2=>⟨nofun,fun _=>?_⟩⟩
  ·have h2:0 < s:=by have:=of_decide_eq_true h2;omega
   have h3:i+k+1 < 32:=by have:=of_decide_eq_true h3;rw [e2] at this;omega
   have gz:(mA N)[(IntKind.i64.wrap (IntKind.i64.wrap ((i:Int)+k)+1)).toNat]? = some (.int .u32 (dg N (i+k+1):Nat)):=by rw [e2];exact mA_get h3
   have ge:(lA (fun x=>if x=i then dg N (i+k) / 2 ^ s else g x) 32)[i]? = some (.int .u32 (dg N (i+k) / 2 ^ s:Nat)):=by rw [lA_get _ (by omega),if_pos rfl]
   have e5:IntKind.u64.wrap (32 - (s:Int))=((32 - s:Nat):Int):=by rw [u64_in (by omega)];omega
   have e6:IntKind.u32.wrap (((dg N (i+k+1):Nat):Int)*2 ^ min (Int.toNat (IntKind.u64.wrap (32 - (s:Int)))) IntKind.u32.bits)=((dg N (i+k+1)*2 ^ (32 - s) % 4294967296:Nat):Int):=by
    rw [e5];exact shl_nat _ (32 - s) (by omega)
   have hd1:dg N (i+k) / 2 ^ s < 4294967296:=Nat.lt_of_le_of_lt (Nat.div_le_self _ _) hx
   have ev:=or32 (A:=dg N (i+k) / 2 ^ s) (B:=dg N (i+k+1)*2 ^ (32 - s) % 4294967296) hd1 (Nat.mod_lt _ (by omega))
   rw [← e6] at ev
   refine ⟨by omega,by show (i:Int) < 32;omega,_,ge,by rw [e2];omega,by rw [e2];show ((i+k+1:Nat):Int) < 32;omega,_,gz,by rw [e5];omega,by omega,by show (i:Int) < 32;omega,by show i < 32;omega,rfl,_,lA_put (i:=i) (x:=(i:Int)) rfl ev,by kernel_rfl,?_⟩
   refine ⟨32 - (i+1+k),_,_,by omega,⟨i+1,_,rfl,by omega,fun j hj=>?_,rfl,rfl⟩,⟨rfl,rfl,rfl,rfl,rfl,c_int (by rw [i64_in (by omega)];rfl),trivial⟩,⟨rfl,rfl,rfl,trivial⟩,rfl⟩
   by_cases e:j=i
   ·subst e
    rw [if_pos rfl,if_pos (show j < j+1 by omega),hsh,if_pos h2]
   ·rw [if_neg e,if_neg e,hg j hj]
    by_cases e2:j < i
    ·rw [if_pos e2,if_pos (show j < i+1 by omega)]
    ·rw [if_neg e2,if_neg (show ¬ j < i+1 by omega)]
  ·have h2:0 < s:=by have:=of_decide_eq_true h2;omega
   have h3:¬ i+k+1 < 32:=by have:=of_decide_eq_false h3;rw [e2] at this;omega
   refine ⟨32 - (i+1+k),_,_,by omega,⟨i+1,_,rfl,by omega,fun j hj=>?_,rfl,rfl⟩,⟨rfl,rfl,rfl,rfl,rfl,c_int (by rw [i64_in (by omega)];rfl),trivial⟩,⟨rfl,rfl,rfl,trivial⟩,rfl⟩
   by_cases e:j=i
   ·subst e
    rw [if_pos rfl,if_pos (show j < j+1 by omega),hsh,if_pos h2,dg_of_lt hN (show 32≤j+k+1 by omega)];simp
   ·rw [if_neg e,hg j hj]
    by_cases e2:j < i
    ·rw [if_pos e2,if_pos (show j < i+1 by omega)]
    ·rw [if_neg e2,if_neg (show ¬ j < i+1 by omega)]
  ·have h2:s=0:=by have:=of_decide_eq_false h2;omega
   refine ⟨32 - (i+1+k),_,_,by omega,⟨i+1,_,rfl,by omega,fun j hj=>?_,rfl,rfl⟩,⟨rfl,rfl,rfl,rfl,rfl,c_int (by rw [i64_in (by omega)];rfl),trivial⟩,⟨rfl,rfl,rfl,trivial⟩,rfl⟩
   by_cases e:j=i
   ·subst e
    rw [if_pos rfl,if_pos (show j < j+1 by omega),hsh,if_neg (show ¬ 0 < s by omega)];simp
   ·rw [if_neg e,hg j hj]
    by_cases e2:j < i
    ·rw [if_pos e2,if_pos (show j < i+1 by omega)]
    ·rw [if_neg e2,if_neg (show ¬ j < i+1 by omega)]
 ·have h1:¬ i+k < 32:=by have:=of_decide_eq_false h;rw [e1] at this;omega
  have hA:lA g 32=mA (N / 2 ^ (32*k+s)):=lA_congr fun j hj=>by
   rw [hg j hj]
   by_cases e:j < i
   ·rw [if_pos e]
   ·rw [if_neg e,dg_shr N k s j hs,dg_of_lt hN (show 32≤j+k by omega),dg_of_lt hN (show 32≤j+k+1 by omega)]
    simp
  exact ⟨lA_fits _ _,by rw [hA];rfl,trivial⟩
theorem low_r {N:Nat} (hN:N < 18446744073709551616):Pure Tryz.prog 204 [SV.c (.agg (mA N))] (.int .u64 (N:Nat)):=by
 refine sx_pure tt_ok mixed at204 _ _ rfl rfl fun w=>?_
 have eu:=hilo (dg_lt N 1) (dg_lt N 0) rfl rfl
 have ed:dg N 1*BB+dg N 0=N:=by
  simp only [dg,BB_eq,Nat.pow_one,Nat.pow_zero,Nat.div_one];omega
 rw [ed] at eu
 have g1:(mA N)[1]? = some (.int .u32 (dg N 1:Nat)):=mA_get (by omega)
 have g0:(mA N)[0]? = some (.int .u32 (dg N 0:Nat)):=mA_get (by omega)
 exact ⟨mA_size _,by decide,by decide,_,g1,by decide,by decide,by decide,_,g0,by rw [eu];rfl,trivial⟩
theorem small_r {N:Nat} (hN:N < 18446744073709551616):Pure Tryz.prog 203 [SV.c (.int .u64 (N:Nat))] (.agg (mA N)):=by
 refine sx_pure tt_ok mixed at203 _ _ rfl rfl fun w=>?_
 have e0:IntKind.u32.wrap ((N:Nat):Int)=((N % 4294967296:Nat):Int):=by rw [u32_wrap];omega
 have e1:IntKind.u32.wrap (((N:Nat):Int).fdiv (2 ^ min (Int.toNat 32) IntKind.u64.bits))=((N / 4294967296:Nat):Int):=by
  rw [show ((N:Nat):Int).fdiv (2 ^ min (Int.toNat 32) IntKind.u64.bits)=((N / 4294967296:Nat):Int) from sh_nat _ 32]
  exact u32_in (by omega)
 have hA:lA (fun k=>if k=1 then N / 4294967296 else (fun k=>if k=0 then N % 4294967296 else (fun _=>0) k) k) 32=mA N:=lA_congr fun i hi=>by
  by_cases h1:i=1
  ·subst h1
   rw [if_pos rfl]
   simp only [dg,BB_eq,Nat.pow_one];omega
  ·rw [if_neg h1]
   by_cases h0:i=0
   ·subst h0
    simp only [if_true]
    simp only [dg,BB_eq,Nat.pow_zero,Nat.div_one]
   ·simp only [if_neg h0]
    rw [dg_hi hN (by omega)]
 refine ⟨by decide,by decide,by decide,by decide,rfl,_,lA_put (G:=fun _=>0) (n:=32) (i:=0) (x:=((0:Nat):Int)) rfl e0,by decide,by decide,by decide,rfl,_,lA_put (i:=1) (x:=((1:Nat):Int)) rfl e1,?_⟩
 exact ⟨lA_fits _ _,by rw [hA];rfl,trivial⟩
theorem and32 {A B:Nat} (hA:A < 4294967296) (hB:B < 4294967296):IntKind.u32.wrap (((BitVec.ofInt IntKind.u32.bits (A:Int) &&& BitVec.ofInt IntKind.u32.bits (B:Int)).toNat:Nat):Int)=((A &&& B:Nat):Int):=by
 have h:A &&& B < 4294967296:=Nat.and_lt_two_pow (n:=32) _ hB
 rw [BitVec.toNat_and,BitVec.ofInt_natCast,BitVec.ofInt_natCast,BitVec.toNat_ofNat,BitVec.toNat_ofNat]
 show IntKind.u32.wrap (((A % 4294967296 &&& B % 4294967296:Nat)):Int)=_
 rw [Nat.mod_eq_of_lt hA,Nat.mod_eq_of_lt hB,u32_in (by omega)]
theorem u64_nat {x:Nat} (h:x < 18446744073709551616):IntKind.u64.wrap (x:Int)=x:=u64_in ⟨Int.natCast_nonneg x,by omega⟩
theorem i64_nat {x:Nat} (h:x≤9223372036854775807):IntKind.i64.wrap (x:Int)=x:=i64_in ⟨by omega,by omega⟩
theorem used2 {N n:Nat} (hu:IsUsed N n):n≤2↔N < 18446744073709551616:=by
 have e:BB ^ 2=18446744073709551616:=by decide
 constructor
 ·intro h
  have h4:BB ^ n≤BB ^ 2:=Nat.pow_le_pow_right BB_pos h
  rw [e] at h4
  have:=hu.1
  omega
 ·intro h
  rcases Nat.lt_or_ge 2 n with h2 | h2
  ·have h3:=hu.2 (by omega)
   have h4:BB ^ 2≤BB ^ (n - 1):=Nat.pow_le_pow_right BB_pos (by omega)
   omega
  ·exact h2
theorem fill_mag {N:Nat} {pl:List (Nat×Nat)} (hpl:pl=[(0,1),(1,32)]):Instr.fill (fun k=>pl[k]?) ti31.zero [(1,.agg (mA N))]=some (iA false N):=by
 subst hpl
 kernel_rfl
theorem bit_at (N i:Nat):dg N (i / 32) / 2 ^ (i % 32) % 2=N / 2 ^ i % 2:=by
 have h:=dg_bit N (i / 32) (i % 32)
 rw [show 32*(i / 32)+i % 32=i by omega,decide_eq_true (Nat.mod_lt i (by omega)),Bool.true_and,Nat.testBit_eq_decide_div_mod_eq,Nat.testBit_eq_decide_div_mod_eq,decide_eq_decide] at h
 have:=Nat.mod_two_eq_zero_or_one (dg N (i / 32) / 2 ^ (i % 32))
 have:=Nat.mod_two_eq_zero_or_one (N / 2 ^ i)
 omega
theorem diff_r2 {M X:Nat} (hM:M < BB ^ 32) (h2:X < 2*M) (h:M≤X):(X % BB ^ 32+BB ^ 32 - M) % BB ^ 32=X - M:=by
 generalize BB ^ 32=P at *
 rcases Nat.lt_or_ge X P with h1 | h1
 ·rw [Nat.mod_eq_of_lt h1,show X+P - M=(X - M)+P by omega,Nat.add_mod_right,Nat.mod_eq_of_lt (by omega)]
 ·have:X % P=X - P:=by
    conv=>lhs;rw [show X=(X - P)+P by omega]
    rw [Nat.add_mod_right,Nat.mod_eq_of_lt (by omega)]
  rw [this,show X - P+P - M=X - M by omega,Nat.mod_eq_of_lt (by omega)]
theorem r2_mod {M X:Nat} (h2:X < 2*M):X % M=if M≤X then X - M else X:=by
 by_cases h:M≤X
 ·rw [if_pos h]
  conv=>lhs;rw [show X=(X - M)+M by omega]
  rw [Nat.add_mod_right,Nat.mod_eq_of_lt (by omega)]
 ·rw [if_neg h,Nat.mod_eq_of_lt (by omega)]
theorem divide_r {N M:Nat} (hN:N < BB ^ 32) (hM:M < BB ^ 32) (hM0:0 < M):Pure Tryz.prog 154 [SV.c (.agg (mA N)),SV.c (.agg (mA M))] (.tuple #[.agg (mA (N / M)),.agg (mA (N % M))]):=by
 obtain ⟨n,hn,hu⟩:=used_ex hN
 obtain ⟨m,hm,hv⟩:=used_ex hM
 have hu2:=used2 hu
 have hv2:=used2 hv
 refine sx_pureC [3] tt_ok mixed at154 _ _ rfl rfl fun w=>?_
 refine ⟨mA_size _,mA_size _,fun f mm=>f=[(2,SV.ptr 2 0),(3,SV.ptr 3 0),(4,SV.ptr 4 0),(5,SV.ptr 5 0)]∧mm=[(2,Blk.row 29 32 (mA N)),(3,Blk.row 29 32 (mA M)),(4,Blk.row 29 32 (lA (fun _=>0) 32)),(5,Blk.row 29 32 (lA (fun _=>0) 32))],.inl ⟨_,limbs_r hu hN,fun h1=>.inl ⟨_,limbs_r hv hM,fun h2=>?_,fun h2=>?_⟩,fun h1=>⟨nofun,fun _=>?_⟩⟩,?_⟩
 ·have h1:N < 18446744073709551616:=hu2.1 (by have:=of_decide_eq_true h1;omega)
  have h2:M < 18446744073709551616:=hv2.1 (by have:=of_decide_eq_true h2;omega)
  have l1:=low_r h1
  have l2:=low_r h2
  have hq:N / M≤N:=Nat.div_le_self _ _
  have hr:N % M < M:=Nat.mod_lt _ hM0
  have s1:=small_r (N:=N / M) (by omega)
  have s2:=small_r (N:=N % M) (by omega)
  have e1:IntKind.u64.wrap (Int.tdiv (N:Nat) (M:Nat))=((N / M:Nat):Int):=by rw [tdiv_nat,u64_nat (by omega)]
  have e2:Int.tmod (N:Nat) (M:Nat)=((N % M:Nat):Int):=tmod_nat N M
  rw [← e1] at s1
  rw [← e2] at s2
  exact .inl ⟨_,l1,.inl ⟨_,l2,by omega,.inl ⟨_,s1,.inl ⟨_,l1,.inl ⟨_,l2,by omega,.inl ⟨_,s2,mA_fits _,mA_fits _,by kernel_rfl,rfl,trivial⟩⟩⟩⟩⟩⟩
 ·exact ⟨_,_,⟨rfl,rfl⟩,⟨rfl,rfl,rfl,rfl,trivial⟩,⟨rfl,rfl,rfl,rfl,trivial⟩,rfl⟩
 ·exact ⟨_,_,⟨rfl,rfl⟩,⟨rfl,rfl,rfl,rfl,trivial⟩,⟨rfl,rfl,rfl,rfl,trivial⟩,rfl⟩
 rintro f mm ⟨rfl,rfl⟩
 have b1:=bits_r (A:=iA false N) (z:=zN false N) ⟨false,N,hN,rfl,rfl⟩
 have b2:=bits_r (A:=iA false M) (z:=zN false M) ⟨false,M,hM,rfl,rfl⟩
 rw [zN_abs] at b1 b2
 obtain ⟨n1,n2⟩:=bl_bits N
 obtain ⟨m1,m2⟩:=bl_bits M
 have hbM:0 < bl M:=by
  rcases Nat.eq_zero_or_pos (bl M) with e | e
  ·rw [e] at m1;simp at m1;omega
  ·exact e
 have m2:=m2 hbM
 have hb1:bl N≤1024:=bl_le (k:=e1024) (by rw [BB_pow,show 32*32=e1024 from rfl] at hN;exact hN)
 have hb2:bl M≤1024:=bl_le (k:=e1024) (by rw [BB_pow,show 32*32=e1024 from rfl] at hM;exact hM)
 have eb:IntKind.i64.wrap ((bl M:Int) - 1)=((bl M - 1:Nat):Int):=by rw [i64_in (by omega)];omega
 refine ⟨_,fill_mag rfl,.inl ⟨_,b1,_,fill_mag rfl,.inl ⟨_,b2,by kernel_rfl,fun h1=>?_,fun h1=>?_⟩⟩⟩
 ·have h1:bl N≤bl M - 1:=by have:=of_decide_eq_true h1;rw [eb] at this;omega
  have hlt:N < M:=by
   have:2 ^ bl N≤2 ^ (bl M - 1):=Nat.pow_le_pow_right (by omega) h1
   omega
  refine ⟨lA_fits _ _,mA_fits _,by kernel_rfl,?_,trivial⟩
  rw [Nat.div_eq_of_lt hlt,Nat.mod_eq_of_lt hlt]
  refine tup2 ?_ rfl
  rw [← lA_rep];rfl
 have h1:bl M - 1 < bl N:=by have:=of_decide_eq_false h1;rw [eb] at this;omega
 obtain ⟨T,hT⟩:∃ T,bl N - (bl M - 1)=T:=⟨_,rfl⟩
 have eT:IntKind.i64.wrap ((bl N:Int) - IntKind.i64.wrap ((bl M:Int) - 1))=(T:Nat):=by rw [eb,i64_in (by omega)];omega
 have hsh:=shifted_r (N:=N) (n:=T) hN (by omega)
 rw [← eT] at hsh
 have hlow:N / 2 ^ T < M:=by
  have h2:N / 2 ^ T < 2 ^ (bl M - 1):=by
   rw [Nat.div_lt_iff_lt_mul (Nat.pow_pos (by omega)),← Nat.pow_add,show bl M - 1+T=bl N by omega]
   exact n1
  omega
 refine .inl ⟨_,hsh,mA_fits _,?_⟩
 refine ⟨fun k f mm=>k≤T∧∃ g:Nat→Nat,(∀ j,j < 32→g j=dg (hiP (N / M) k) j)∧f=[(2,SV.ptr 2 0),(3,SV.ptr 3 0),(4,SV.ptr 4 0),(5,SV.ptr 5 0),(8,SV.c (.int .i64 ((k:Int) - 1)))]∧mm=[(2,Blk.row 29 32 (mA N)),(3,Blk.row 29 32 (mA M)),(4,Blk.row 29 32 (lA g 32)),(5,Blk.row 29 32 (mA (N / 2 ^ k % M)))],T,⟨_,_,⟨Nat.le_refl _,fun _=>0,fun j hj=>?_,rfl,rfl⟩,⟨rfl,rfl,rfl,rfl,c_int (by rw [eT,i64_in (by omega)]),trivial⟩,⟨rfl,rfl,rfl,row_eq (by rw [Nat.mod_eq_of_lt hlow]),trivial⟩,rfl⟩,?_⟩
 ·unfold hiP
  rw [Nat.div_div_eq_div_mul,Nat.mul_comm M,← Nat.div_div_eq_div_mul,Nat.div_eq_of_lt hlow,Nat.zero_mul,dg_zero]
 rintro k f mm ⟨hk,g,hg,rfl,rfl⟩
 refine ⟨fun h2=>?_,fun h2=>?_⟩
 ·have h2:(k:Int) - 1 ≥ 0:=of_decide_eq_true h2
  obtain ⟨i,rfl⟩:∃ i,k=i+1:=⟨k - 1,by omega⟩
  have hi:i < 1024:=by omega
  have ei:IntKind.i64.wrap (Int.tdiv (((i+1:Nat):Int) - 1) 32)=((i / 32:Nat):Int):=by
   rw [show ((i+1:Nat):Int) - 1=(i:Nat) by omega,show (32:Int)=((32:Nat):Int) from rfl,tdiv_nat,i64_nat (by omega)]
  have em:IntKind.u64.wrap (Int.tmod (((i+1:Nat):Int) - 1) 32)=((i % 32:Nat):Int):=by
   rw [show ((i+1:Nat):Int) - 1=(i:Nat) by omega,show (32:Int)=((32:Nat):Int) from rfl,tmod_nat,u64_nat (by omega)]
  have gx:(mA N)[(IntKind.i64.wrap (Int.tdiv (((i+1:Nat):Int) - 1) 32)).toNat]? = some (.int .u32 (dg N (i / 32):Nat)):=by rw [ei];exact mA_get (by omega)
  have gq:(lA g 32)[(IntKind.i64.wrap (Int.tdiv (((i+1:Nat):Int) - 1) 32)).toNat]? = some (.int .u32 (g (i / 32):Nat)):=by rw [ei];exact lA_get g (by omega)
  have hx:=dg_lt N (i / 32)
  rw [BB_eq] at hx
  have ebit:IntKind.u32.wrap (((BitVec.ofInt IntKind.u32.bits (((dg N (i / 32):Nat):Int).fdiv (2 ^ min (Int.toNat (IntKind.u64.wrap (Int.tmod (((i+1:Nat):Int) - 1) 32))) IntKind.u32.bits)) &&& BitVec.ofInt IntKind.u32.bits 1).toNat:Nat):Int)=((N / 2 ^ i % 2:Nat):Int):=by
   rw [em,shr_nat (dg N (i / 32)) (i % 32) (by omega) rfl,show (1:Int)=((1:Nat):Int) from rfl,and32 (Nat.lt_of_le_of_lt (Nat.div_le_self _ _) hx) (by omega),Nat.and_one_is_mod,bit_at]
  have hb:N / 2 ^ i % 2≤1:=by omega
  have hr:N / 2 ^ (i+1) % M < M:=Nat.mod_lt _ hM0
  have hdb:=double_r (N:=N / 2 ^ (i+1) % M) (b:=N / 2 ^ i % 2) (Nat.lt_trans hr hM) hb
  rw [← ebit] at hdb
  have hr2:2*(N / 2 ^ (i+1) % M)+N / 2 ^ i % 2 < 2*M:=by omega
  have hrm:=(bit_r N M i).trans (r2_mod hr2)
  have hqb:=bit_q N M i hM0
  have hgl:g (i / 32) < 4294967296:=by rw [hg _ (by omega)];exact dg_lt _ _
  have evq:IntKind.u32.wrap (((BitVec.ofInt IntKind.u32.bits ((g (i / 32):Nat):Int) ||| BitVec.ofInt IntKind.u32.bits (IntKind.u32.wrap (1*2 ^ min (Int.toNat (IntKind.u64.wrap (Int.tmod (((i+1:Nat):Int) - 1) 32))) IntKind.u32.bits))).toNat:Nat):Int)=((g (i / 32) ||| 2 ^ (i % 32):Nat):Int):=by
   have hp:2 ^ (i % 32) < 4294967296:=Nat.pow_lt_pow_right (by omega) (Nat.mod_lt i (show 0 < 32 by omega))
   have e8:=shl_nat 1 (i % 32) (Nat.mod_lt i (by omega))
   rw [Nat.one_mul,Nat.mod_eq_of_lt hp] at e8
   rw [em,show (1:Int)=((1:Nat):Int) from rfl,e8]
   exact or32 hgl hp
  refine ⟨by decide,by rw [ei];omega,by rw [ei];show ((i / 32:Nat):Int) < 32;omega,_,gx,by decide,by rw [em];omega,.inl ⟨_,hdb,mA_fits _,by kernel_rfl,fun h3=>?_,fun h3=>?_⟩⟩
  ·have h3:2*(N / 2 ^ (i+1) % M)+N / 2 ^ i % 2 < BB ^ 32:=of_decide_eq_true (of_bnf h3)
   refine .inl ⟨_,compare_r (Nat.mod_lt _ (pow_pos' 32)) hM,fun h4=>?_,fun h4=>?_⟩
   ·have hc:=of_decide_eq_true h4
    rw [Nat.mod_eq_of_lt h3] at hc
    have hle:M≤2*(N / 2 ^ (i+1) % M)+N / 2 ^ i % 2:=by
     unfold cmpS at hc
     split at hc
     ·omega
     ·omega
    have e7:=diff_r2 hM hr2 hle
    have hdf:=difference_r (N:=(2*(N / 2 ^ (i+1) % M)+N / 2 ^ i % 2) % BB ^ 32) (Nat.mod_lt _ (pow_pos' 32)) hM
    rw [e7] at hdf
    refine .inl ⟨_,hdf,mA_fits _,by decide,by rw [ei];omega,by rw [ei];show ((i / 32:Nat):Int) < 32;omega,_,gq,by decide,by rw [em];omega,by rw [ei];omega,by rw [ei];show ((i / 32:Nat):Int) < 32;omega,by rw [ei];show i / 32 < 32;omega,rfl,_,lA_put (i:=i / 32) (x:=IntKind.i64.wrap (Int.tdiv (((i+1:Nat):Int) - 1) 32)) ei evq,?_⟩
    refine ⟨i,_,_,by omega,⟨by omega,_,fun j hj=>?_,rfl,rfl⟩,⟨rfl,rfl,rfl,rfl,c_int (by rw [i64_in (by omega)];omega),trivial⟩,⟨rfl,rfl,rfl,row_eq (by rw [hrm,if_pos hle]),trivial⟩,rfl⟩
    rw [hiP_step,hqb,if_pos hle,Nat.one_mul,dg_setbit _ i j (hiP_bit _ i)]
    by_cases e:j=i / 32
    ·subst e;rw [if_pos rfl,if_pos rfl,hg _ hj]
    ·rw [if_neg e,if_neg e,hg j hj]
   ·have hc:=of_decide_eq_false h4
    rw [Nat.mod_eq_of_lt h3] at hc
    have hle:¬ M≤2*(N / 2 ^ (i+1) % M)+N / 2 ^ i % 2:=by
     unfold cmpS at hc
     split at hc
     ·omega
     ·split at hc<;>omega
    refine ⟨i,_,_,by omega,⟨by omega,g,fun j hj=>?_,rfl,rfl⟩,⟨rfl,rfl,rfl,rfl,c_int (by rw [i64_in (by omega)];omega),trivial⟩,⟨rfl,rfl,rfl,row_eq (by rw [hrm,if_neg hle,Nat.mod_eq_of_lt h3]),trivial⟩,rfl⟩
    rw [hiP_step,hqb,if_neg hle,Nat.zero_mul,Nat.add_zero]
    exact hg j hj
  ·have h3:¬ 2*(N / 2 ^ (i+1) % M)+N / 2 ^ i % 2 < BB ^ 32:=of_decide_eq_false (bnt h3)
   have hle:M≤2*(N / 2 ^ (i+1) % M)+N / 2 ^ i % 2:=by omega
   have e7:=diff_r2 hM hr2 hle
   have hdf:=difference_r (N:=(2*(N / 2 ^ (i+1) % M)+N / 2 ^ i % 2) % BB ^ 32) (Nat.mod_lt _ (pow_pos' 32)) hM
   rw [e7] at hdf
   refine ⟨fun _=>.inl ⟨_,hdf,mA_fits _,by decide,by rw [ei];omega,by rw [ei];show ((i / 32:Nat):Int) < 32;omega,_,gq,by decide,by rw [em];omega,by rw [ei];omega,by rw [ei];show ((i / 32:Nat):Int) < 32;omega,by rw [ei];show i / 32 < 32;omega,rfl,_,lA_put (i:=i / 32) (x:=IntKind.i64.wrap (Int.tdiv (((i+1:Nat):Int) - 1) 32)) ei evq,?_⟩,nofun⟩
   refine ⟨i,_,_,by omega,⟨by omega,_,fun j hj=>?_,rfl,rfl⟩,⟨rfl,rfl,rfl,rfl,c_int (by rw [i64_in (by omega)];omega),trivial⟩,⟨rfl,rfl,rfl,row_eq (by rw [hrm,if_pos hle]),trivial⟩,rfl⟩
   rw [hiP_step,hqb,if_pos hle,Nat.one_mul,dg_setbit _ i j (hiP_bit _ i)]
   by_cases e:j=i / 32
   ·subst e;rw [if_pos rfl,if_pos rfl,hg _ hj]
   ·rw [if_neg e,if_neg e,hg j hj]
 ·have h2:k=0:=by have:=of_decide_eq_false h2;omega
  subst h2
  have hA:lA g 32=mA (N / M):=lA_congr fun j hj=>by rw [hg j hj,hiP_zero]
  refine ⟨lA_fits _ _,mA_fits _,by kernel_rfl,?_,trivial⟩
  rw [hA,Nat.pow_zero,Nat.div_one];rfl
theorem one32:(lA (fun _=>0) 32).setIfInBounds 0 (.int .u32 1)=mA 1:=by
 rw [show (1:Int)=((1:Nat):Int) from rfl,lA_set]
 refine lA_congr fun i hi=>?_
 by_cases h:i=0
 ·subst h;rfl
 ·rw [if_neg h]
  have:dg 1 i=0:=dg_of_lt (n:=1) (by decide) (by omega)
  exact this.symm
theorem divmod_r {A B:Array Value} {x y:Int} (hA:IsI A x) (hB:IsI B y) (hy:y≠0):Pure Tryz.prog 105 [SV.c (.agg A),SV.c (.agg B)] (.tuple #[.agg (eA (x / y)),.agg (eA (x % y)),.int .i64 0]):=by
 have hx:=hA.lt
 have hyl:=hB.lt
 have hall:=dm_all x y hy
 obtain ⟨a,N,hN,rfl,ex⟩:=hA.raw
 obtain ⟨b,M,hM,rfl,ey⟩:=hB.raw
 have eN:x.natAbs=N:=by rw [ex,zN_abs]
 have eM:y.natAbs=M:=by rw [ey,zN_abs]
 rw [eN,eM] at hall
 have hM0:0 < M:=by omega
 have hb:decide (y < 0)=b:=by
  rw [ey];cases b
  ·simp [zN]
  ·simp [zN];omega
 have ha:N≠0→decide (x < 0)=a:=fun h=>by
  rw [ex];cases a
  ·simp [zN]
  ·simp [zN];omega
 refine sx_pureC [9] tt_ok mixed at105 _ _ rfl rfl fun w=>?_
 have hql:N / M < BB ^ 32:=Nat.lt_of_le_of_lt (Nat.div_le_self _ _) hN
 have hrl:N % M < M:=Nat.mod_lt _ hM0
 have hrb:N % M < BB ^ 32:=Nat.lt_trans hrl hM
 refine ⟨iA_size _ _,iA_size _ _,by decide,_,iA_mag,.inl ⟨_,zero_r hM,fun h=>?_,fun h=>?_⟩⟩
 ·exfalso
  have:=of_decide_eq_true h
  omega
 refine ⟨by decide,_,iA_mag,by decide,_,iA_mag,.inl ⟨_,divide_r hN hM hM0,mA_fits _,mA_fits _,?_⟩⟩
 have fin:∀ q,(q=0→N=0∨True)→True:=fun _ _=>trivial
 refine ⟨fun f mm=>∃ q r:Nat,q < BB ^ 32∧r < BB ^ 32∧x / y=zN (a != b) q∧x % y=r∧f=[(2,SV.ptr 2 0),(3,SV.ptr 3 0),(4,SV.ptr 4 0),(5,SV.ptr 5 0),(7,SV.ptr 7 0),(8,SV.ptr 8 0)]∧mm=[(2,Blk.row 31 33 (iA a N)),(3,Blk.row 31 33 (iA b M)),(4,Blk.row 31 33 ti31.zero),(5,Blk.row 31 33 ti31.zero),(7,Blk.row 29 32 (mA q)),(8,Blk.row 29 32 (mA r))],⟨_,iA_neg,fun h1=>.inl ⟨_,zero_r hrb,fun h2=>?_,fun h2=>?_⟩,fun h1=>⟨nofun,fun _=>?_⟩⟩,?_⟩
 ·have h1:a=true:=h1
  have h2:N % M≠0:=of_decide_eq_false (bnt h2)
  have hn0:N≠0:=by intro e;rw [e,Nat.zero_mod] at h2;exact h2 rfl
  have hxa:=ha hn0
  rw [h1] at hxa
  rw [if_pos ⟨of_decide_eq_true hxa,h2⟩,hxa,hb] at hall
  have hql2:N / M+1 < BB ^ 32:=by
   have hb2:2≤M:=by
    rcases Nat.lt_or_ge M 2 with h | h
    ·have:M=1:=by omega
     rw [this,Nat.mod_one] at h2;exact absurd rfl h2
    ·exact h
   have h3:N / M≤N / 2:=Nat.div_le_div_left hb2 (by omega)
   have h4:4≤BB ^ 32:=Nat.le_trans (by omega) two64
   omega
  have hd:=difference_r hM hrb
  rw [diff_sub hM (Nat.le_of_lt hrl)] at hd
  have hs:=sum_r hql (Nat.lt_of_lt_of_le (by omega:1 < 18446744073709551616) two64)
  refine ⟨by decide,_,iA_mag,.inl ⟨_,hd,mA_fits _,by decide,by decide,by decide,rfl,_,one32,.inl ⟨_,hs,mA_fits _,_,_,⟨N / M+1,_,hql2,Nat.lt_of_le_of_lt (Nat.sub_le _ _) hM,by rw [h1];exact hall.1,hall.2,rfl,rfl⟩,⟨rfl,rfl,rfl,rfl,rfl,rfl,trivial⟩,⟨rfl,rfl,rfl,rfl,row_eq (by rw [Nat.mod_eq_of_lt hql2]),rfl,trivial⟩,rfl⟩⟩⟩
 ·have h1:a=true:=h1
  have h2:N % M=0:=of_decide_eq_true (bnf h2)
  rw [if_neg (fun h=>h.2 h2)] at hall
  refine ⟨_,_,⟨_,_,hql,hrb,?_,hall.2,rfl,rfl⟩,⟨rfl,rfl,rfl,rfl,rfl,rfl,trivial⟩,⟨rfl,rfl,rfl,rfl,rfl,rfl,trivial⟩,rfl⟩
  rw [hall.1,hb]
  by_cases hn0:N=0
  ·rw [hn0,Nat.zero_div];unfold zN;split<;>split<;>rfl
  ·rw [ha hn0]
 ·have h1:a=false:=h1
  have hx0:¬ x < 0:=by rw [ex,h1];simp [zN]
  rw [if_neg (fun h=>hx0 h.1),hb,decide_eq_false hx0] at hall
  exact ⟨_,_,⟨_,_,hql,hrb,by rw [h1];exact hall.1,hall.2,rfl,rfl⟩,⟨rfl,rfl,rfl,rfl,rfl,rfl,trivial⟩,⟨rfl,rfl,rfl,rfl,rfl,rfl,trivial⟩,rfl⟩
 ·rintro f mm ⟨q,r,hq,hr,e1,e2,rfl,rfl⟩
  have m1:=canon_r (a != b) hq
  have m2:=canon_r false hr
  rw [← e1] at m1
  rw [show zN false r=x % y from e2.symm] at m2
  exact ⟨_,iA_neg,_,iA_neg,.inl ⟨_,m1,.inl ⟨_,m2,eA_fits _,eA_fits _,by kernel_rfl,rfl,trivial⟩⟩⟩
theorem gcd_r {A B:Array Value} {x y:Int} (hA:IsI A x) (hB:IsI B y):Pure Tryz.prog 102 [SV.c (.agg A),SV.c (.agg B)] (.agg (eA ((Int.gcd x y:Nat):Int))):=by
 obtain ⟨a,N,hN,rfl,rfl⟩:=hA.raw
 obtain ⟨b,M,hM,rfl,rfl⟩:=hB.raw
 rw [gcd_zN]
 refine sx_pure tt_ok mixed at102 _ _ rfl rfl fun w=>?_
 refine ⟨iA_size _ _,iA_size _ _,by decide,_,iA_mag,by decide,_,iA_mag,mA_fits _,mA_fits _,by kernel_rfl,?_⟩
 refine ⟨fun q f mm=>∃ u:Nat,u < BB ^ 32∧q < BB ^ 32∧Nat.gcd u q=Nat.gcd N M∧f=[(4,SV.ptr 4 0),(5,SV.ptr 5 0),(6,SV.ptr 6 0)]∧mm=[(4,Blk.row 31 33 ti31.zero),(5,Blk.row 29 32 (mA u)),(6,Blk.row 29 32 (mA q))],_,⟨_,_,⟨_,hN,hM,rfl,rfl,rfl⟩,⟨rfl,rfl,rfl,trivial⟩,⟨rfl,rfl,rfl,trivial⟩,rfl⟩,?_⟩
 rintro q f mm ⟨u,ha,hq,hg,rfl,rfl⟩
 refine .inl ⟨_,zero_r hq,fun h=>?_,fun h=>?_⟩
 ·have hq0:0 < q:=by
    have:q≠0:=of_decide_eq_false (bnt h)
    omega
  have hr:=Nat.mod_lt u hq0
  exact .inl ⟨_,divide_r ha hq hq0,mA_fits _,mA_fits _,mA_fits _,mA_fits _,by kernel_rfl,u % q,_,_,hr,⟨_,hq,Nat.lt_trans hr hq,by rw [← hg,Nat.gcd_comm u q,Nat.gcd_rec q u,Nat.gcd_comm],rfl,rfl⟩,⟨rfl,rfl,rfl,trivial⟩,⟨rfl,rfl,rfl,trivial⟩,rfl⟩
 ·have hq0:q=0:=of_decide_eq_true (bnf h)
  subst hq0
  have m1:=canon_r false ha
  rw [Nat.gcd_zero_right] at hg
  rw [show zN false u=((Nat.gcd N M:Nat):Int) by rw [← hg];rfl] at m1
  exact .inl ⟨_,m1,eA_fits _,rfl,trivial⟩
theorem RQ.ok_of {p q:Int} (h1:bl p.natAbs≤480) (h2:bl q.natAbs≤480) (h3:0 < q) (h4:Int.gcd p q=1):(RQ.of p q).ok=true:=by
 refine decide_eq_true ⟨h1,h2,fun h=>?_,decide_eq_false (by omega),by show 0 < q.natAbs;omega,h4⟩
 have h:=of_decide_eq_true h
 show p.natAbs≠0
 omega
theorem RQ.of_in {p q:Int} (h1:p.natAbs < BB ^ 32) (h2:q.natAbs < BB ^ 32):(RQ.of p q).In:=⟨h1,h2⟩
theorem whole_r {n:Int} (h1 : -9223372036854775808≤n) (h2:n≤9223372036854775807):Pure Tryz.prog 58 [SV.c (.int .i64 n)] (.agg (RQ.of n 1).A):=by
 refine sx_pure tt_ok mixed at58 _ _ rfl rfl fun w=>?_
 exact .inl ⟨_,fromInt_r n h1 h2,.inl ⟨_,fromInt_r 1 (by omega) (by omega),_,fill_ratio (eA_size _) (eA_size _) rfl rfl,(RQ.of n 1).A_fits,rfl,trivial⟩⟩
theorem product_r {A B:Array Value} {x y:Int} (hA:IsI A x) (hB:IsI B y) (hl:(x*y).natAbs < BB ^ 32):Pure Tryz.prog 187 [SV.c (.agg A),SV.c (.agg B)] (.agg (eA (x*y))):=by
 refine sx_pure tt_ok mixed at187 _ _ rfl rfl fun w=>?_
 have h:=mul_r hA hB
 rw [fitR,if_pos hl] at h
 exact ⟨hA.size,hB.size,.inl ⟨_,h,eA_fits _,eA_fits _,rfl,trivial⟩⟩
theorem negative_r {r:RQ} (hr:r.In) (hk:r.ok=true):Pure Tryz.prog 239 [SV.c (.agg r.A)] (.agg (RQ.of (-r.p) r.q).A):=by
 have hd:iA r.b r.D=eA r.q:=by
  obtain ⟨k1,k2,k3,k4,k5⟩:=RQ.ok_bits hk
  have h:RQ.A r=RQ.A (.of r.p r.q):=congrArg RQ.A k5
  have h2:=(r.cat_r).symm.trans ((congrArg (fun x=>x.extract 33 (33+33)) h).trans (RQ.cat_r (.of r.p r.q)))
  exact h2
 refine sx_pure tt_ok mixed at239 _ _ rfl rfl fun w=>?_
 refine ⟨r.A_size,by decide,_,r.cat_l,.inl ⟨_,neg_r hr.num,by decide,_,r.cat_r,_,fill_ratio (eA_size _) (iA_size _ _) rfl rfl,cat_fits (eA_fits _) (iA_fits _ _),by kernel_rfl,?_,trivial⟩⟩
 rw [hd];rfl
theorem ediv_neg_iff {y:Int} {g:Nat} (hg:0 < g):decide (sgn (y / (g:Int)) < 0)=decide (y < 0):=by
 rw [sgn_neg,decide_eq_decide]
 constructor
 ·intro h
  rcases Int.lt_or_le y 0 with h1 | h1
  ·exact h1
  ·have:=Int.ediv_nonneg h1 (show (0:Int)≤g by omega);omega
 ·intro h;exact Int.ediv_neg_of_neg_of_pos h (by omega)
theorem make_r {A B:Array Value} {x y:Int} (hA:IsI A x) (hB:IsI B y):Pure Tryz.prog 49 [SV.c (.agg A),SV.c (.agg B)] (resQ (mkQ x y)):=by
 refine sx_pureC [8] tt_ok mixed at49 _ _ rfl rfl fun w=>?_
 refine ⟨hA.size,hB.size,.inl ⟨_,sign_r hB,fun h=>?_,fun h=>?_⟩⟩
 ·rw [sgn_zero] at h
  have h:=of_decide_eq_true h
  refine ⟨ti33.zero,rfl,(RQ.of 0 0).A_fits,?_,trivial⟩
  rw [mkQ,if_pos h];rfl
 rw [sgn_zero] at h
 have h:=of_decide_eq_false h
 obtain ⟨g1,g2⟩:=gcd_le (x:=x) h
 have gl:((Int.gcd x y:Nat):Int).natAbs < BB ^ 32:=by have:=hB.lt;omega
 have gn:((Int.gcd x y:Nat):Int)≠0:=by omega
 have d1:=divmod_r hA (isI_e gl) gn
 have d2:=divmod_r hB (isI_e gl) gn
 have lx:(x / ((Int.gcd x y:Nat):Int)).natAbs < BB ^ 32:=Nat.lt_of_le_of_lt (Int.natAbs_ediv_le_natAbs x _) hA.lt
 have ly:(y / ((Int.gcd x y:Nat):Int)).natAbs < BB ^ 32:=Nat.lt_of_le_of_lt (Int.natAbs_ediv_le_natAbs y _) hB.lt
 refine .inl ⟨_,gcd_r hA hB,eA_fits _,.inl ⟨_,d1,eA_fits _,eA_fits _,.inl ⟨_,d2,eA_fits _,eA_fits _,fun f mm=>f=[(4,SV.ptr 4 0),(7,SV.ptr 7 0),(10,SV.ptr 10 0)]∧mm=[(4,Blk.row 33 66 ti33.zero),(7,Blk.row 31 33 (eA (x / (sgn y*Int.gcd x y)))),(10,Blk.row 31 33 (eA (y / (sgn y*Int.gcd x y))))],.inl ⟨_,sign_r (isI_e ly),fun h2=>?_,fun h2=>?_⟩,?_⟩⟩⟩
 ·rw [ediv_neg_iff g1] at h2
  have h2:=of_decide_eq_true h2
  have e:sgn y*(Int.gcd x y:Int)=-((Int.gcd x y:Nat):Int):=by unfold sgn;rw [if_pos h2];omega
  refine .inl ⟨_,neg_r (isI_e lx),.inl ⟨_,neg_r (isI_e ly),eA_fits _,eA_fits _,by kernel_rfl,_,_,⟨rfl,rfl⟩,⟨rfl,rfl,rfl,trivial⟩,⟨rfl,row_eq (by rw [e,Int.ediv_neg]),row_eq (by rw [e,Int.ediv_neg]),trivial⟩,rfl⟩⟩
 ·rw [ediv_neg_iff g1] at h2
  have h2:=of_decide_eq_false h2
  have e:sgn y*(Int.gcd x y:Int)=((Int.gcd x y:Nat):Int):=by unfold sgn;rw [if_neg h2,if_neg h];omega
  exact ⟨_,_,⟨rfl,rfl⟩,⟨rfl,rfl,rfl,trivial⟩,⟨rfl,row_eq (by rw [e]),row_eq (by rw [e]),trivial⟩,rfl⟩
 rintro f mm ⟨rfl,rfl⟩
 have lx2:(x / (sgn y*Int.gcd x y)).natAbs < BB ^ 32:=Nat.lt_of_le_of_lt (Int.natAbs_ediv_le_natAbs x _) hA.lt
 have ly2:(y / (sgn y*Int.gcd x y)).natAbs < BB ^ 32:=Nat.lt_of_le_of_lt (Int.natAbs_ediv_le_natAbs y _) hB.lt
 rw [mkQ,if_neg h]
 generalize x / (sgn y*Int.gcd x y)=p at *
 generalize y / (sgn y*Int.gcd x y)=q at *
 have bad:¬ (bl p.natAbs≤480∧bl q.natAbs≤480)→mkRes [.agg ti33.zero,.int .i64 10]=resQ (if bl p.natAbs≤480∧bl q.natAbs≤480 then (.of p q,0) else (.of 0 0,10)):=fun h=>by rw [if_neg h];rfl
 refine .inl ⟨_,bits_r (isI_e lx2),fun h2=>.inl ⟨_,bits_r (isI_e ly2),fun h3=>⟨ti33.zero,rfl,(RQ.of 0 0).A_fits,bad ?_,trivial⟩,fun h3=>⟨_,fill_ratio (eA_size _) (eA_size _) rfl rfl,(RQ.of p q).A_fits,?_,trivial⟩⟩,fun h2=>⟨fun _=>⟨ti33.zero,rfl,(RQ.of 0 0).A_fits,bad ?_,trivial⟩,nofun⟩⟩
 ·have:=of_decide_eq_true h3
  omega
 ·have h2:=of_decide_eq_false h2
  have h3:=of_decide_eq_false h3
  rw [if_pos (by omega)];rfl
 ·have:=of_decide_eq_true h2
  omega
theorem of_r {n d:Int} (h1 : -9223372036854775808≤n) (h2:n≤9223372036854775807) (h3 : -9223372036854775808≤d) (h4:d≤9223372036854775807):Pure Tryz.prog 57 [SV.c (.int .i64 n),SV.c (.int .i64 d)] (resQ (mkQ n d)):=by
 refine sx_pure tt_ok mixed at57 _ _ rfl rfl fun w=>?_
 exact .inl ⟨_,fromInt_r n h1 h2,.inl ⟨_,fromInt_r d h3 h4,.inl ⟨_,make_r (isI_e (i64_lt h1 h2)) (isI_e (i64_lt h3 h4)),RQ.A_fits _,rfl,trivial⟩⟩⟩
theorem ok_parts (r:RQ):r.ok=((!(r.a && decide (r.N=0))) && (!r.b && !decide (r.D=0)) && (decide (bl r.N≤480) && (decide (bl r.D≤480) && decide (Nat.gcd r.N r.D=1)))):=by
 unfold RQ.ok
 rw [Bool.eq_iff_iff]
 simp only [decide_eq_true_eq,Bool.and_eq_true,Bool.not_eq_true',Bool.and_eq_false_iff,decide_eq_false_iff_not]
 constructor
 ·rintro ⟨h1,h2,h3,h4,h5,h6⟩
  refine ⟨⟨?_,h4,by omega⟩,h1,h2,h6⟩
  by_cases h:r.a=true
  ·exact .inr (h3 h)
  ·exact .inl (by simpa using h)
 ·rintro ⟨⟨h3,h4,h5⟩,h1,h2,h6⟩
  refine ⟨h1,h2,fun h=>?_,h4,by omega,h6⟩
  rcases h3 with h3 | h3
  ·rw [h] at h3;cases h3
  ·exact h3
theorem valid_r {r:RQ} (h:r.In):Pure Tryz.prog 46 [SV.c (.agg r.A)] (.bool r.ok):=by
 refine sx_pure tt_ok mixed at46 _ _ rfl rfl fun w=>?_
 have s1:=sign_r h.num
 have s2:=sign_r h.den
 have b1:=bits_r h.num
 have b2:=bits_r h.den
 have hg:=gcd_r h.num h.den
 rw [RQ.p,zN_abs] at b1
 rw [RQ.q,zN_abs] at b2
 rw [RQ.p,RQ.q,gcd_zN] at hg
 have one:=fromInt_r 1 (by omega) (by omega)
 have h1l:(1:Int).natAbs < BB ^ 32:=Nat.lt_of_lt_of_le (by decide:1 < 18446744073709551616) two64
 have gl:((Nat.gcd r.N r.D:Nat):Int).natAbs < BB ^ 32:=by
  rw [Int.natAbs_natCast]
  rcases Nat.eq_zero_or_pos r.N with e | e
  ·rw [e,Nat.gcd_zero_left];exact h.D
  ·exact Nat.lt_of_le_of_lt (Nat.gcd_le_left _ e) h.N
 have z1:(sgn r.p == 0)=decide (r.N=0):=by
  rw [sgn_zero,RQ.p,decide_eq_decide]
  cases r.a<;>simp [zN]
 have z2:decide (sgn r.q≤0)=!(!r.b && !decide (r.D=0)):=by
  rw [RQ.q]
  cases hb:r.b
  ·by_cases hd:r.D=0
   ·rw [hd];rfl
   ·have:sgn (zN false r.D)=1:=by unfold sgn zN;rw [if_neg Bool.false_ne_true,if_neg (by omega),if_neg (by omega)]
    rw [this,decide_eq_false hd];rfl
  ·have:sgn (zN true r.D)≤0:=by unfold sgn zN;rw [if_pos rfl];split<;>(try split)<;>omega
   rw [decide_eq_true this];rfl
 have A0:r.A[0]? = some (.bool r.a):=by
  rw [RQ.A,Array.getElem?_append_left (by rw [iA_size];omega)];exact iA_neg
 have tail:(!(r.a && decide (r.N=0)))=true→(!r.b && !decide (r.D=0))=true→r.ok=(decide (bl r.N≤480) && (decide (bl r.D≤480) && decide (Nat.gcd r.N r.D=1))):=fun h1 h2=>by rw [ok_parts,h1,h2];rfl
 refine ⟨r.A_size,_,A0,fun h1=>⟨by decide,_,r.cat_l,.inl ⟨_,s1,fun h2=>⟨by decide,_,r.cat_r,.inl ⟨_,s2,fun h3=>?_,fun h3=>?_⟩⟩,fun h2=>⟨fun _=>⟨bv ?_,trivial⟩,nofun⟩⟩⟩,fun h1=>⟨fun _=>⟨by decide,_,r.cat_r,.inl ⟨_,s2,fun h3=>?_,fun h3=>?_⟩⟩,nofun⟩⟩
 ·have h3:decide (sgn r.q≤0)=true:=h3
  rw [z2] at h3
  refine ⟨bv ?_,trivial⟩
  rw [ok_parts,bnt h3];simp
 ·have h3:decide (sgn r.q≤0)=false:=h3
  rw [z2] at h3
  have h2:(sgn r.p == 0)=false:=h2
  rw [z1] at h2
  have hok:=tail (by rw [h2];simp) (of_bnf h3)
  refine ⟨by decide,_,r.cat_l,.inl ⟨_,b1,fun h4=>⟨by decide,_,r.cat_r,.inl ⟨_,b2,fun h5=>⟨by decide,_,r.cat_l,by decide,_,r.cat_r,.inl ⟨_,hg,.inl ⟨_,one,_,eql_int rfl gl h1l,bv ?_,trivial⟩⟩⟩,fun h5=>⟨bv ?_,trivial⟩⟩⟩,fun h4=>⟨nofun,fun _=>⟨bv ?_,trivial⟩⟩⟩⟩
  ·rw [hok,decide_eq_true (show bl r.N≤480 by have:=of_decide_eq_true h4;omega),decide_eq_true (show bl r.D≤480 by have:=of_decide_eq_true h5;omega),Bool.true_and,Bool.true_and,decide_eq_decide]
   omega
  ·rw [hok,decide_eq_false (show ¬ bl r.D≤480 by have:=of_decide_eq_false h5;omega),Bool.false_and,Bool.and_false]
  ·rw [hok,decide_eq_false (show ¬ bl r.N≤480 by have:=of_decide_eq_false h4;omega),Bool.false_and]
 ·have h1:r.a=true:=h1
  have h2:(sgn r.p == 0)=true:=h2
  rw [z1] at h2
  rw [ok_parts,h1,h2];rfl
 ·have h3:decide (sgn r.q≤0)=true:=h3
  rw [z2] at h3
  refine ⟨bv ?_,trivial⟩
  rw [ok_parts,bnt h3];simp
 ·have h3:decide (sgn r.q≤0)=false:=h3
  rw [z2] at h3
  have h1:r.a=false:=h1
  have hok:=tail (by rw [h1];rfl) (of_bnf h3)
  refine ⟨by decide,_,r.cat_l,.inl ⟨_,b1,fun h4=>⟨by decide,_,r.cat_r,.inl ⟨_,b2,fun h5=>⟨by decide,_,r.cat_l,by decide,_,r.cat_r,.inl ⟨_,hg,.inl ⟨_,one,_,eql_int rfl gl h1l,bv ?_,trivial⟩⟩⟩,fun h5=>⟨bv ?_,trivial⟩⟩⟩,fun h4=>⟨nofun,fun _=>⟨bv ?_,trivial⟩⟩⟩⟩
  ·rw [hok,decide_eq_true (show bl r.N≤480 by have:=of_decide_eq_true h4;omega),decide_eq_true (show bl r.D≤480 by have:=of_decide_eq_true h5;omega),Bool.true_and,Bool.true_and,decide_eq_decide]
   omega
  ·rw [hok,decide_eq_false (show ¬ bl r.D≤480 by have:=of_decide_eq_false h5;omega),Bool.false_and,Bool.and_false]
  ·rw [hok,decide_eq_false (show ¬ bl r.N≤480 by have:=of_decide_eq_false h4;omega),Bool.false_and]
theorem addR_r {r s:RQ} (hr:r.In) (hs:s.In):Pure Tryz.prog 238 [SV.c (.agg r.A),SV.c (.agg s.A)] (resQ (sumQ false r s)):=by
 refine sx_pure tt_ok mixed at238 _ _ rfl rfl fun w=>?_
 refine ⟨r.A_size,s.A_size,.inl ⟨_,valid_r hr,fun h1=>.inl ⟨_,valid_r hs,fun h2=>?_,fun h2=>?_⟩,fun h1=>?_⟩⟩
 ·have h2:=bnt h2
  refine ⟨ti33.zero,rfl,(RQ.of 0 0).A_fits,?_,trivial⟩
  rw [sumQ,h2,Bool.and_false,if_neg Bool.false_ne_true];rfl
 ·have h1:=of_bnf h1
  have h2:=bnf h2
  obtain ⟨k1,k2,k3,k4⟩:=sum_lt h1 h2 false
  have ha:=add_r (isI_e k1) (isI_e (z:=sg false (s.p*r.q)) k2)
  rw [fitR,if_pos k4] at ha
  refine ⟨by decide,_,r.cat_l,by decide,_,s.cat_r,.inl ⟨_,product_r hr.num hs.den k1,by decide,_,s.cat_l,by decide,_,r.cat_r,.inl ⟨_,product_r hs.num hr.den k2,.inl ⟨_,ha,eA_fits _,by kernel_rfl,by decide,_,r.cat_r,by decide,_,s.cat_r,.inl ⟨_,product_r hr.den hs.den k3,.inl ⟨_,make_r (isI_e k4) (isI_e k3),RQ.A_fits _,by kernel_rfl,?_,trivial⟩⟩⟩⟩⟩⟩
  rw [sumQ,h1,h2,Bool.and_true,if_pos rfl];rfl
 ·have h1:=bnt h1
  refine ⟨fun _=>⟨ti33.zero,rfl,(RQ.of 0 0).A_fits,?_,trivial⟩,nofun⟩
  rw [sumQ,h1,Bool.false_and,if_neg Bool.false_ne_true];rfl
theorem neg_ok {s:RQ} (h:s.ok=true):(RQ.of (-s.p) s.q).ok=true∧(RQ.of (-s.p) s.q).In:=by
 obtain ⟨k1,k2,k3,k4,k5⟩:=RQ.ok_bits h
 refine ⟨RQ.ok_of (by rw [Int.natAbs_neg];exact k1) k2 k3 (by rw [Int.neg_gcd];exact k4),?_⟩
 have key:∀ z:Int,bl z.natAbs≤480→z.natAbs < BB ^ 32:=fun z h=>Nat.lt_trans (Nat.lt_of_lt_of_le (bl_bits _).1 (Nat.pow_le_pow_right (j:=e480) (by omega) h)) hp480
 exact RQ.of_in (by rw [Int.natAbs_neg];exact key _ k1) (key _ k2)
theorem subR_r {r s:RQ} (hr:r.In) (hs:s.In):Pure Tryz.prog 213 [SV.c (.agg r.A),SV.c (.agg s.A)] (resQ (sumQ true r s)):=by
 refine sx_pure tt_ok mixed at213 _ _ rfl rfl fun w=>?_
 refine ⟨r.A_size,s.A_size,.inl ⟨_,valid_r hr,fun h1=>.inl ⟨_,valid_r hs,fun h2=>?_,fun h2=>?_⟩,fun h1=>?_⟩⟩
 ·have h2:=bnt h2
  refine ⟨ti33.zero,rfl,(RQ.of 0 0).A_fits,?_,trivial⟩
  rw [sumQ,h2,Bool.and_false,if_neg Bool.false_ne_true];rfl
 ·have h1:=of_bnf h1
  have h2:=bnf h2
  obtain ⟨n1,n2⟩:=neg_ok h2
  have e:sumQ false r (.of (-s.p) s.q)=sumQ true r s:=by
   unfold sumQ
   rw [h1,h2,n1,RQ.of_p,RQ.of_q]
   simp only [sg,Bool.and_true,if_true,Bool.false_eq_true,if_false,Int.neg_mul]
  have ha:=addR_r hr n2
  rw [e] at ha
  exact .inl ⟨_,negative_r hs h2,.inl ⟨_,ha,RQ.A_fits _,by kernel_rfl,rfl,trivial⟩⟩
 ·have h1:=bnt h1
  refine ⟨fun _=>⟨ti33.zero,rfl,(RQ.of 0 0).A_fits,?_,trivial⟩,nofun⟩
  rw [sumQ,h1,Bool.false_and,if_neg Bool.false_ne_true];rfl
theorem mulR_r {r s:RQ} (hr:r.In) (hs:s.In):Pure Tryz.prog 171 [SV.c (.agg r.A),SV.c (.agg s.A)] (resQ (mulQ r s)):=by
 refine sx_pure tt_ok mixed at171 _ _ rfl rfl fun w=>?_
 refine ⟨r.A_size,s.A_size,.inl ⟨_,valid_r hr,fun h1=>.inl ⟨_,valid_r hs,fun h2=>?_,fun h2=>?_⟩,fun h1=>?_⟩⟩
 ·have h2:=bnt h2
  refine ⟨ti33.zero,rfl,(RQ.of 0 0).A_fits,?_,trivial⟩
  rw [mulQ,h2,Bool.and_false,if_neg Bool.false_ne_true];rfl
 ·have h1:=of_bnf h1
  have h2:=bnf h2
  have k1:=RQ.ok_bits h1
  have k2:=RQ.ok_bits h2
  have m1:=mul_lt' k1.1 k2.1
  have m2:=mul_lt' k1.2.1 k2.2.1
  refine ⟨by decide,_,r.cat_l,by decide,_,s.cat_l,.inl ⟨_,product_r hr.num hs.num m1,by decide,_,r.cat_r,by decide,_,s.cat_r,.inl ⟨_,product_r hr.den hs.den m2,.inl ⟨_,make_r (isI_e m1) (isI_e m2),RQ.A_fits _,by kernel_rfl,?_,trivial⟩⟩⟩⟩
  rw [mulQ,h1,h2,Bool.and_true,if_pos rfl];rfl
 ·have h1:=bnt h1
  refine ⟨fun _=>⟨ti33.zero,rfl,(RQ.of 0 0).A_fits,?_,trivial⟩,nofun⟩
  rw [mulQ,h1,Bool.false_and,if_neg Bool.false_ne_true];rfl
def absQ (r:RQ):RQ×Int:=if r.ok then (.of (r.p.natAbs:Int) r.q,0) else (.of 0 0,20)
theorem den_ok {r:RQ} (hk:r.ok=true):iA r.b r.D=eA r.q:=by
 obtain ⟨k1,k2,k3,k4,k5⟩:=RQ.ok_bits hk
 have h:RQ.A r=RQ.A (.of r.p r.q):=congrArg RQ.A k5
 exact (r.cat_r).symm.trans ((congrArg (fun x=>x.extract 33 (33+33)) h).trans (RQ.cat_r (.of r.p r.q)))
theorem absR_r {r:RQ} (hr:r.In):Pure Tryz.prog 214 [SV.c (.agg r.A)] (resQ (absQ r)):=by
 refine sx_pure tt_ok mixed at214 _ _ rfl rfl fun w=>?_
 refine ⟨r.A_size,.inl ⟨_,valid_r hr,fun h1=>?_,fun h1=>?_⟩⟩
 ·have h1:=bnt h1
  refine ⟨ti33.zero,rfl,(RQ.of 0 0).A_fits,?_,trivial⟩
  rw [absQ,h1,if_neg Bool.false_ne_true];rfl
 ·have h1:=bnf h1
  refine ⟨by decide,_,r.cat_l,.inl ⟨_,abs_r hr.num,by decide,_,r.cat_r,_,fill_ratio (eA_size _) (iA_size _ _) rfl rfl,cat_fits (eA_fits _) (iA_fits _ _),by kernel_rfl,?_,trivial⟩⟩
  rw [absQ,h1,if_pos rfl,den_ok h1];rfl
theorem compareR_r {r s:RQ} (hr:r.In) (hs:s.In) (h1:(r.p*s.q).natAbs < BB ^ 32) (h2:(s.p*r.q).natAbs < BB ^ 32):Pure Tryz.prog 140 [SV.c (.agg r.A),SV.c (.agg s.A)] (.int .i64 (cmpI (r.p*s.q) (s.p*r.q))):=by
 refine sx_pure tt_ok mixed at140 _ _ rfl rfl fun w=>?_
 exact ⟨r.A_size,s.A_size,by decide,_,r.cat_l,by decide,_,s.cat_r,.inl ⟨_,product_r hr.num hs.den h1,by decide,_,s.cat_l,by decide,_,r.cat_r,.inl ⟨_,product_r hs.num hr.den h2,.inl ⟨_,cmp_r (isI_e h1) (isI_e h2),by kernel_rfl,rfl,trivial⟩⟩⟩⟩
def betQ (r:RQ) (lo hi:Int):Bool:=r.ok && (decide (lo*r.q≤r.p) && decide (r.p≤hi*r.q))
end Go.Proofs.YtofllflnmmjijaaGreatDoor
