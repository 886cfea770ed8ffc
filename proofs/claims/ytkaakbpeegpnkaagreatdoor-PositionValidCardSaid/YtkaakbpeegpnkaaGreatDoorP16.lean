/- walks: what actions do. walks: the reference, magnitudes. walks: the reference, whole numbers. walks: the reference, products. walks: the reference, shifts. walks: the reference, quotients; no condition. -/
import Derived.Test.YtkaakbpeegpnkaaGreatDoorP15
set_option maxRecDepth 100000
set_option maxHeartbeats 4000000
namespace Go.Proofs.YtkaakbpeegpnkaaGreatDoor
open Go Go.RowKit Go.SX
structure EF where
 ins:List UInt8
 qty:Int
 cash:Int
def EF.A (x:EF):Array Value:=#[.string (S x.ins),.int .i64 x.qty,.int .i64 x.cash]
theorem EF.fits (x:EF):Fits x.A 3:=⟨rfl,by simp [EF.A,Value.oneCell']⟩
def EF.zero:EF:=⟨[],0,0⟩
theorem fill_ef (x:EF) {pl:List (Nat×Nat)} (hpl:pl=[(0,1),(1,1),(2,1)]):Instr.fill (fun k=>pl[k]?) ti113.zero [(0,.string (S x.ins)),(1,.int .i64 x.qty),(2,.int .i64 x.cash)]=some x.A:=by
 subst hpl;rfl
def actOk (a:AC):Bool:=!a.void && validA a
theorem ofA_bad {a:AC} (h:actOk a=false):ofA a=(.zero,170):=by
 unfold ofA;unfold actOk at h
 cases hv:a.void<;>cases hb:validA a<;>simp_all
theorem ofA_good {a:AC} (h:actOk a=true):ofA a=(a,0):=by
 unfold ofA;unfold actOk at h
 cases hv:a.void<;>cases hb:validA a<;>simp_all
theorem facOk_iff {n:Int} (h:facOk n=true):1≤n∧n≤1000000:=by
 unfold facOk at h
 simpa using h
theorem act_kind {a:AC} (h:actOk a=true):(a.kind=2∧0 < a.cash.p)∨((a.kind=1∨a.kind=3)∧1≤a.num∧a.num≤1000000∧1≤a.den∧a.den≤1000000):=by
 unfold actOk validA at h
 simp only [Bool.and_eq_true,Bool.not_eq_true'] at h
 obtain ⟨hv,-,h⟩:=h
 rw [hv,if_neg Bool.false_ne_true] at h
 simp only [Bool.and_eq_true] at h
 obtain ⟨-,h⟩:=h
 unfold kindOk at h
 by_cases h1:a.kind=1
 ·rw [if_pos h1] at h
  simp only [Bool.and_eq_true] at h
  exact .inr ⟨.inl h1,(facOk_iff h.2.1).1,(facOk_iff h.2.1).2,(facOk_iff h.2.2).1,(facOk_iff h.2.2).2⟩
 ·rw [if_neg h1] at h
  by_cases h2:a.kind=2
  ·rw [if_pos h2] at h
   simp only [Bool.and_eq_true,decide_eq_true_eq] at h
   refine .inl ⟨h2,?_⟩
   have:=h.2.2.2
   unfold sgn at this
   split at this
   ·omega
   ·split at this<;>omega
  ·rw [if_neg h2] at h
   by_cases h3:a.kind=3
   ·rw [if_pos h3] at h
    simp only [Bool.and_eq_true] at h
    exact .inr ⟨.inr h3,(facOk_iff h.2.2.1).1,(facOk_iff h.2.2.1).2,(facOk_iff h.2.2.2).1,(facOk_iff h.2.2.2).2⟩
   ·rw [if_neg h3] at h;cases h
def applyA (a:AC) (q:Int):EF×Int :=
 if actOk a=false then (.zero,170)
 else if q < 0∨q > 1000000000000000 then (.zero,171)
 else if pieQ a q > 1000000000000000 then (.zero,171)
 else if (rndI (rndQ (mulQ (paidQ a q) a.cash).1 2 6)).2≠0 then (.zero,(rndI (rndQ (mulQ (paidQ a q) a.cash).1 2 6)).2)
 else (⟨intoA a,pieQ a q,(rndI (rndQ (mulQ (paidQ a q) a.cash).1 2 6)).1⟩,0)
def resE (x:EF×Int):Value:=.tuple #[.agg x.1.A,.int .i64 x.2]
theorem pieQ_bd {a:AC} {q:Int} (h0:0≤q) (h1:q≤1000000000000000) (hk:a.kind=2∨(1≤a.num∧a.num≤1000000∧1≤a.den∧a.den≤1000000)):0≤pieQ a q∧pieQ a q≤1000000000000000000000:=by
 unfold pieQ;split
 ·omega
 ·rename_i h
  obtain ⟨n1,n2,d1,d2⟩:=hk.resolve_left h
  have hb:0≤q*a.num∧q*a.num≤1000000000000000*1000000:=⟨Int.mul_nonneg h0 (by omega),Int.mul_le_mul h1 n2 (by omega) (by omega)⟩
  refine ⟨Int.ediv_nonneg hb.1 (by omega),?_⟩
  have:=Int.ediv_le_self a.den hb.1
  omega
theorem apply_z {a:AC} (ha:a.In) (q:Int):Pure Tryz.prog 64 [SV.c (.agg a.A),SV.c (.int .i64 q)] (resE (applyA a q)):=by
 refine sx_pure tt_ok mixed at64 _ _ rfl rfl fun w=>?_
 have hof:=of_a ha
 cases hk:actOk a with
 | false =>
  rw [ofA_bad hk] at hof
  refine ⟨a.size,.inl ⟨_,hof,AC.zero.fits,fun _=>⟨ti113.zero,rfl,EF.zero.fits,?_,trivial⟩,nofun⟩⟩
  rw [applyA,if_pos hk];rfl
 | true =>
  rw [ofA_good hk] at hof
  have hk2:¬ (actOk a=false):=by rw [hk];simp
  rw [applyA,if_neg hk2]
  refine ⟨a.size,.inl ⟨_,hof,a.fits,nofun,fun _=>⟨fun h1=>⟨fun h2=>⟨ti113.zero,rfl,EF.zero.fits,?_,trivial⟩,fun h2=>?_⟩,fun h1=>⟨fun _=>⟨ti113.zero,rfl,EF.zero.fits,?_,trivial⟩,nofun⟩⟩⟩⟩
  ·have h2:=of_decide_eq_true h2
   rw [if_pos (.inr h2)];rfl
  ·have h1:=of_decide_eq_false h1
   have h2:=of_decide_eq_false h2
   rw [if_neg (by omega)]
   have hkk:a.kind=2∨(1≤a.num∧a.num≤1000000∧1≤a.den∧a.den≤1000000):=by
    rcases act_kind hk with h | h
    ·exact .inl h.1
    ·exact .inr h.2
   have hpc:=pieces_z (a:=a) (q:=q) (by omega) (by omega) hkk
   obtain ⟨b1,b2⟩:=pieQ_bd (a:=a) (q:=q) (by omega) (by omega) hkk
   have hpi:=paidQ_in a (q:=q) (by omega) (by omega)
   have big:1000000000000000000000 < BB ^ 32:=Nat.lt_of_lt_of_le (by decide:1000000000000000000000 < BB ^ 3) (Nat.pow_le_pow_right BB_pos (by omega))
   have ht:=toInt_z (isI_e (z:=pieQ a q) (by omega))
   have hm:=mulR_z hpi ha.cash
   have hr:=roundInt_z (mulQ_in (paidQ a q) a.cash) 2 6
   have hin:=into_z a
   generalize rndI (rndQ (mulQ (paidQ a q) a.cash).1 2 6)=x at *
   obtain ⟨c,e⟩:=x
   have hr:Pure Tryz.prog 98 [SV.c (.agg (mulQ (paidQ a q) a.cash).1.A),SV.c (.int .i64 2),SV.c (.int .i64 6)] (.tuple #[.int .i64 c,.int .i64 e]):=hr
   by_cases hn:pieQ a q > 1000000000000000
   ·rw [if_pos hn]
    by_cases hz : -9223372036854775808≤pieQ a q∧pieQ a q≤9223372036854775807
    ·rw [toIntR,if_pos hz] at ht
     refine .inl ⟨_,hpc,eA_fits _,RQ.A_fits _,.inl ⟨_,ht,fun _=>⟨fun _=>⟨ti113.zero,rfl,EF.zero.fits,rfl,trivial⟩,fun h=>?_⟩,nofun⟩⟩
     exact absurd hn (of_decide_eq_false h)
    ·rw [toIntR,if_neg hz] at ht
     exact .inl ⟨_,hpc,eA_fits _,RQ.A_fits _,.inl ⟨_,ht,nofun,fun _=>⟨fun _=>⟨ti113.zero,rfl,EF.zero.fits,rfl,trivial⟩,nofun⟩⟩⟩
   ·rw [if_neg hn]
    rw [toIntR,if_pos (by omega)] at ht
    refine .inl ⟨_,hpc,eA_fits _,RQ.A_fits _,.inl ⟨_,ht,fun _=>⟨fun h=>absurd (of_decide_eq_true h) hn,fun _=>⟨by decide,_,a.gcash,.inl ⟨_,hm,RQ.A_fits _,.inl ⟨_,hr,fun h3=>⟨ti113.zero,rfl,EF.zero.fits,?_,trivial⟩,fun h3=>.inl ⟨_,hin,_,fill_ef ⟨intoA a,pieQ a q,c⟩ rfl,EF.fits _,?_,trivial⟩⟩⟩⟩⟩,nofun⟩⟩
    ·have h3:e≠0:=by simpa using h3
     rw [if_pos (show (c,e).2≠0 from h3)];rfl
    ·have h3:¬ (e≠0):=by simpa using h3
     rw [if_neg (show ¬ (c,e).2≠0 from h3)];rfl
  ·have h1:=of_decide_eq_true h1
   rw [if_pos (.inl h1)];rfl
theorem limbs_r {N n:Nat} (hu:IsUsed N n) (hN:N < BB ^ 32):Pure Tryz.prog 154 [SV.c (.agg (mA N))] (.int .i64 n):=by
 refine sx_pure tt_ok mixed at154 _ _ rfl rfl fun w=>?_
 refine ⟨mA_size _,fun k f m=>k≤32∧N < BB ^ k∧f=[(1,SV.ptr 1 0),(3,SV.c (.int .i64 k))]∧m=[(1,Blk.row 55 32 (mA N))],32,⟨_,_,⟨by omega,hN,rfl,rfl⟩,⟨rfl,rfl,trivial⟩,⟨rfl,trivial⟩,rfl⟩,?_⟩
 rintro k f m ⟨hk,hlt,rfl,rfl⟩
 refine ⟨fun h=>?_,fun h=>?_⟩
 ·have h1:(0:Int) < k:=of_decide_eq_true h
  have e:IntKind.i64.wrap ((k:Int) - 1)=((k - 1:Nat):Int):=by rw [i64_in (by omega)];omega
  have hg:(mA N)[(IntKind.i64.wrap ((k:Int) - 1)).toNat]? = some (.int .u32 ((dg N (k - 1):Nat):Int)):=by rw [e];exact mA_get (by omega)
  refine ⟨by rw [e];omega,by rw [e];show ((k - 1:Nat):Int) < 32;omega,_,hg,fun h2=>?_,fun h2=>?_⟩
  ·have h3:dg N (k - 1)=0:=by have:((dg N (k - 1):Nat):Int)=0:=by simpa using h2
                              omega
   exact ⟨k - 1,_,_,by omega,⟨by omega,lt_of_top (by rw [show k - 1+1=k by omega];exact hlt) h3,rfl,rfl⟩,⟨rfl,c_int e,trivial⟩,⟨rfl,trivial⟩,rfl⟩
  ·have h3:dg N (k - 1)≠0:=by intro h;rw [h] at h2;simp at h2
   have:k=n:=IsUsed.unique (used_of hlt (.inr h3)) hu
   exact ⟨by rw [this];rfl,trivial⟩
 ·refine ⟨nofun,fun _=>?_⟩
  have h1:¬ ((k:Int) > 0):=of_decide_eq_false h
  have:k=n:=IsUsed.unique ⟨hlt,fun hk=>absurd hk (by omega)⟩ hu
  exact ⟨by rw [this];rfl,trivial⟩
theorem used_zero {N n:Nat} (hu:IsUsed N n):decide (N=0)=(((n:Nat):Int) == 0):=by
 rw [Bool.eq_iff_iff]
 simp only [decide_eq_true_eq,beq_iff_eq]
 constructor
 ·intro h;subst h
  rcases Nat.eq_zero_or_pos n with e | e
  ·rw [e];rfl
  ·have h2:=hu.2 e
   have:=pow_pos' (n - 1)
   omega
 ·intro h
  have:n=0:=by omega
  subst this
  have:=hu.1;simp at this;omega
theorem zero_r {N:Nat} (hN:N < BB ^ 32):Pure Tryz.prog 156 [SV.c (.agg (mA N))] (.bool (decide (N=0))):=by
 obtain ⟨n,hn,hu⟩:=used_ex hN
 refine sx_pure tt_ok mixed at156 _ _ rfl rfl fun w=>?_
 rw [used_zero hu]
 exact ⟨mA_size _,.inl ⟨_,limbs_r hu hN,rfl,trivial⟩⟩
theorem canon_r (neg:Bool) {N:Nat} (hN:N < BB ^ 32):Pure Tryz.prog 155 [SV.c (.bool neg),SV.c (.agg (mA N))] (.agg (eA (zN neg N))):=by
 have e:eA (zN neg N)=iA (neg && !decide (N=0)) N:=by unfold eA;rw [zN_abs,zN_neg]
 rw [e]
 refine sx_pure tt_ok mixed at155 _ _ rfl rfl fun w=>?_
 refine ⟨mA_size _,fun h=>.inl ⟨_,zero_r hN,_,fill_int rfl rfl,iA_fits _ _,by kernel_rfl,?_,trivial⟩,fun h=>⟨_,fill_int rfl rfl,iA_fits _ _,by kernel_rfl,?_,trivial⟩⟩
 ·have h:neg=true:=h
  rw [h];rfl
 ·have h:neg=false:=h
  rw [h];rfl
theorem compare_r {N M:Nat} (hN:N < BB ^ 32) (hM:M < BB ^ 32):Pure Tryz.prog 201 [SV.c (.agg (mA N)),SV.c (.agg (mA M))] (.int .i64 (cmpS N M)):=by
 refine sx_pure tt_ok mixed at201 _ _ rfl rfl fun w=>?_
 refine ⟨mA_size _,mA_size _,fun k f m=>k≤32∧N / BB ^ k=M / BB ^ k∧f=[(2,SV.ptr 2 0),(3,SV.ptr 3 0),(5,SV.c (.int .i64 ((k:Int) - 1)))]∧m=[(2,Blk.row 55 32 (mA N)),(3,Blk.row 55 32 (mA M))],32,⟨_,_,⟨by omega,by rw [Nat.div_eq_of_lt hN,Nat.div_eq_of_lt hM],rfl,rfl⟩,⟨rfl,rfl,rfl,trivial⟩,⟨rfl,rfl,trivial⟩,rfl⟩,?_⟩
 rintro k f m ⟨hk,heq,rfl,rfl⟩
 refine ⟨fun h=>?_,fun h=>?_⟩
 ·have h1:(k:Int) - 1 ≥ 0:=of_decide_eq_true h
  have e:((k:Int) - 1).toNat=k - 1:=by omega
  have hn:(mA N)[((k:Int) - 1).toNat]? = some (.int .u32 ((dg N (k - 1):Nat):Int)):=by rw [e];exact mA_get (by omega)
  have hm:(mA M)[((k:Int) - 1).toNat]? = some (.int .u32 ((dg M (k - 1):Nat):Int)):=by rw [e];exact mA_get (by omega)
  have hb:(k:Int) - 1 < 32:=by omega
  have hs:N / BB ^ (k - 1+1)=M / BB ^ (k - 1+1):=by rw [show k - 1+1=k by omega];exact heq
  refine ⟨h1,hb,_,hn,h1,hb,_,hm,by kernel_rfl,fun h2=>?_,fun h2=>⟨h1,hb,_,hn,h1,hb,_,hm,by kernel_rfl,fun h3=>?_,fun h3=>?_⟩⟩
  ·have h3:dg N (k - 1) < dg M (k - 1):=by have:=of_decide_eq_true h2;omega
   have:=cmp_lt hs h3
   exact ⟨by simp only [cmpS,if_pos this];rfl,trivial⟩
  ·have h4:dg M (k - 1) < dg N (k - 1):=by have:=of_decide_eq_true h3;omega
   have:=cmp_lt hs.symm h4
   exact ⟨by simp only [cmpS,if_neg (show ¬ N < M by omega),if_pos this];rfl,trivial⟩
  ·have h4:dg N (k - 1)=dg M (k - 1):=by
     have:=of_decide_eq_false h2
     have:=of_decide_eq_false h3
     omega
   exact ⟨k - 1,_,_,by omega,⟨by omega,cmp_step hs h4,rfl,rfl⟩,⟨rfl,rfl,c_int (by rw [i64_in (by omega)];omega),trivial⟩,⟨rfl,rfl,trivial⟩,rfl⟩
 ·have h1:¬ ((k:Int) - 1 ≥ 0):=of_decide_eq_false h
  obtain rfl:k=0:=by omega
  simp only [Nat.pow_zero,Nat.div_one] at heq
  exact ⟨by simp only [cmpS,heq,Nat.lt_irrefl,if_false];rfl,trivial⟩
theorem sum_r {N M:Nat} (hN:N < BB ^ 32) (hM:M < BB ^ 32):Pure Tryz.prog 159 [SV.c (.agg (mA N)),SV.c (.agg (mA M))] (.tuple #[.agg (mA ((N+M) % BB ^ 32)),.bool (decide (N+M < BB ^ 32))]):=by
 refine sx_pure tt_ok mixed at159 _ _ rfl rfl fun w=>?_
 refine ⟨mA_size _,mA_size _,fun q f m=>∃ (k c:Nat) (g:Nat→Nat),q=32 - k∧k≤32∧c≤1∧(∀ j,j < k→g j < BB)∧nv g k+c*BB ^ k=nv (dg N) k+nv (dg M) k∧f=[(2,SV.ptr 2 0),(3,SV.ptr 3 0),(4,SV.ptr 4 0),(6,SV.ptr 6 0),(7,SV.c (.int .u64 c)),(8,SV.c (.int .i64 k))]∧m=[(2,Blk.row 55 32 (mA N)),(3,Blk.row 55 32 (mA M)),(4,Blk.row 55 32 (lA (fun _=>0) 32)),(6,Blk.row 55 32 (lA g 32))],32,⟨_,_,⟨0,0,fun _=>0,rfl,by omega,by omega,fun j hj=>absurd hj (by omega),nv_start _ _ _,rfl,rfl⟩,⟨rfl,rfl,rfl,rfl,rfl,rfl,trivial⟩,⟨rfl,rfl,rfl,rfl,trivial⟩,rfl⟩,?_⟩
 rintro q f m ⟨k,c,g,rfl,hk,hc,hg,hn,rfl,rfl⟩
 refine ⟨fun h=>?_,fun h=>?_⟩
 ·have h1:(k:Int) < 32:=of_decide_eq_true h
  have h0:(0:Int)≤k:=by omega
  have gN:=mA_get (N:=N) (show k < 32 by omega)
  have gM:=mA_get (N:=M) (show k < 32 by omega)
  have hx:=dg_lt N k
  have hy:=dg_lt M k
  rw [BB_eq] at hx hy
  have ev:IntKind.u64.wrap (IntKind.u64.wrap (IntKind.u64.wrap (dg N k:Nat)+IntKind.u64.wrap (dg M k:Nat))+(c:Nat))=((dg N k+dg M k+c:Nat):Int):=by simp only [u64_wrap];omega
  refine ⟨h0,h1,_,gN,h0,h1,_,gM,by kernel_rfl,h0,h1,by show k < 32;omega,rfl,_,lA_put (i:=k) (x:=(k:Int)) (v:=(dg N k+dg M k+c) % BB) rfl (by rw [ev,u32_wrap,BB_eq];rfl),by decide,?_⟩
  refine ⟨32 - (k+1),_,_,by omega,⟨k+1,(dg N k+dg M k+c) / BB,_,rfl,by omega,by rw [BB_eq];omega,fun j hj=>?_,add_step (k:=c) ?_ ?_,rfl,rfl⟩,⟨rfl,rfl,rfl,rfl,c_int (by rw [ev];exact shr32 _),c_int (by rw [i64_in (by omega)];rfl),trivial⟩,⟨rfl,rfl,rfl,rfl,trivial⟩,rfl⟩
  ·by_cases e:j=k
   ·subst e;simp only [if_true];exact Nat.mod_lt _ BB_pos
   ·simp only [if_neg e];exact hg j (by omega)
  ·rw [nv_set_lt];exact hn
  ·simp only [if_true];rw [Nat.mul_comm];exact Nat.mod_add_div _ _
 ·have h1:¬ ((k:Int) < 32):=of_decide_eq_false h
  obtain rfl:k=32:=by omega
  obtain ⟨hs1,hs2⟩:=plus_end hN hM hg hn
  have hA:=mA_of hg hs1
  refine ⟨lA_fits _ _,tup2 (by rw [hA]) (bv ?_),trivial⟩
  rw [hs2,Bool.eq_iff_iff];simp
theorem diff_end {N M c:Nat} {f:Nat→Nat} (hN:N < BB ^ 32) (hM:M < BB ^ 32) (hf:∀ j,j < 32→f j < BB) (h:nv f 32+nv (dg M) 32=nv (dg N) 32+c*BB ^ 32) (hc:c≤1):nv f 32=(N+BB ^ 32 - M) % BB ^ 32:=by
 rw [nv_dg_full hN,nv_dg_full hM] at h
 have hl:=nv_lt hf
 generalize BB ^ 32=P at *
 have:c=0∨c=1:=by omega
 rcases this with rfl | rfl
 ·rw [show N+P - M=(N - M)+P by omega,Nat.add_mod_right,Nat.mod_eq_of_lt (by omega)];omega
 ·rw [show N+P - M=nv f 32 by omega,Nat.mod_eq_of_lt hl]
theorem diff_sub {N M:Nat} (hN:N < BB ^ 32) (h:M≤N):(N+BB ^ 32 - M) % BB ^ 32=N - M:=by
 rw [show N+BB ^ 32 - M=(N - M)+BB ^ 32 by omega,Nat.add_mod_right,Nat.mod_eq_of_lt (by omega)]
theorem difference_r {N M:Nat} (hN:N < BB ^ 32) (hM:M < BB ^ 32):Pure Tryz.prog 158 [SV.c (.agg (mA N)),SV.c (.agg (mA M))] (.agg (mA ((N+BB ^ 32 - M) % BB ^ 32))):=by
 refine sx_pure tt_ok mixed at158 _ _ rfl rfl fun w=>?_
 refine ⟨mA_size _,mA_size _,fun q f m=>∃ (k c:Nat) (g:Nat→Nat),q=32 - k∧k≤32∧c≤1∧(∀ j,j < k→g j < BB)∧nv g k+nv (dg M) k=nv (dg N) k+c*BB ^ k∧f=[(2,SV.ptr 2 0),(3,SV.ptr 3 0),(4,SV.ptr 4 0),(5,SV.ptr 5 0),(6,SV.c (.int .u64 c)),(7,SV.c (.int .i64 k))]∧m=[(2,Blk.row 55 32 (mA N)),(3,Blk.row 55 32 (mA M)),(4,Blk.row 55 32 (lA (fun _=>0) 32)),(5,Blk.row 55 32 (lA g 32))],32,⟨_,_,⟨0,0,fun _=>0,rfl,by omega,by omega,fun j hj=>absurd hj (by omega),nv_start2 _ _ _,rfl,rfl⟩,⟨rfl,rfl,rfl,rfl,rfl,rfl,trivial⟩,⟨rfl,rfl,rfl,rfl,trivial⟩,rfl⟩,?_⟩
 rintro q f m ⟨k,c,g,rfl,hk,hc,hg,hn,rfl,rfl⟩
 refine ⟨fun h=>?_,fun h=>?_⟩
 ·have h1:(k:Int) < 32:=of_decide_eq_true h
  have h0:(0:Int)≤k:=by omega
  have gN:=mA_get (N:=N) (show k < 32 by omega)
  have gM:=mA_get (N:=M) (show k < 32 by omega)
  have hx:=dg_lt N k
  have hy:=dg_lt M k
  rw [BB_eq] at hx hy
  have ev:IntKind.u64.wrap (IntKind.u64.wrap (IntKind.u64.wrap (dg N k:Nat) - IntKind.u64.wrap (dg M k:Nat)) - (c:Nat))=((dg N k:Int) - dg M k - c) % 18446744073709551616:=by simp only [u64_wrap];omega
  refine ⟨h0,h1,_,gN,h0,h1,_,gM,by kernel_rfl,h0,h1,by show k < 32;omega,rfl,_,lA_put (i:=k) (x:=(k:Int)) (v:=(dg N k+BB - (dg M k+c)) % BB) rfl (by rw [ev,u32_wrap,BB_eq];omega),by decide,?_⟩
  refine ⟨32 - (k+1),_,_,by omega,⟨k+1,(if dg N k < dg M k+c then 1 else 0:Nat),_,rfl,by omega,by split<;>omega,fun j hj=>?_,sub_step (k:=c) ?_ ?_,rfl,rfl⟩,⟨rfl,rfl,rfl,rfl,c_int ?_,c_int (by rw [i64_in (by omega)];rfl),trivial⟩,⟨rfl,rfl,rfl,rfl,trivial⟩,rfl⟩
  ·by_cases e:j=k
   ·subst e;simp only [if_true];exact Nat.mod_lt _ BB_pos
   ·simp only [if_neg e];exact hg j (by omega)
  ·rw [nv_set_lt];exact hn
  ·simp only [if_true];rw [BB_eq] at *;split<;>omega
  ·rw [ev,shr_div]
   show ((dg N k:Int) - dg M k - c) % 18446744073709551616 / 9223372036854775808=_
   split<;>omega
 ·have h1:¬ ((k:Int) < 32):=of_decide_eq_false h
  obtain rfl:k=32:=by omega
  have hA:=mA_of hg (diff_end hN hM hg hn hc)
  exact ⟨lA_fits _ _,by rw [← hA];rfl,trivial⟩
theorem IsI.raw {A:Array Value} {z:Int} (h:IsI A z):∃ neg N,N < BB ^ 32∧A=iA neg N∧z=zN neg N:=h.ex
theorem iA_lim {neg:Bool} {N i:Nat} (h:i < 32):(iA neg N)[1+i]? = some (.int .u32 (dg N i:Nat)):=by
 rw [iA,Array.getElem?_append_right (by simp)]
 have e:1+i - (#[Value.bool neg]:Array Value).size=i:=by simp
 rw [e];exact mA_get h
def iB (neg:Bool) (f:Nat→Nat):Array Value:=#[.bool neg]++lA f 32
theorem iB_set (neg:Bool) (f:Nat→Nat) (i v:Nat):(iB neg f).setIfInBounds (1+i) (.int .u32 (v:Nat))=iB neg (fun k=>if k=i then v else f k):=by
 unfold iB
 rw [← lA_set]
 apply Array.ext_getElem?
 intro j
 by_cases h:j=1+i
 ·subst h
  rw [Array.getElem?_setIfInBounds_self,Array.getElem?_append_right (by simp)]
  have e:1+i - (#[Value.bool neg]:Array Value).size=i:=by simp
  rw [e,Array.getElem?_setIfInBounds_self]
  simp [lA_size]
  by_cases h2:i < 32
  ·rw [if_pos h2,if_pos (by omega)]
  ·rw [if_neg h2,if_neg (by omega)]
 ·rw [Array.getElem?_setIfInBounds_ne (fun e=>h e.symm)]
  by_cases h0:j < 1
  ·rw [Array.getElem?_append_left (by simpa using h0),Array.getElem?_append_left (by simpa using h0)]
  ·rw [Array.getElem?_append_right (by simp;omega),Array.getElem?_append_right (by simp;omega)]
   rw [Array.getElem?_setIfInBounds_ne (by simp;omega)]
theorem iB_of {neg:Bool} {f:Nat→Nat} {N:Nat} (h:∀ i,i < 32→f i=dg N i):iB neg f=iA neg N:=by
 unfold iB iA mA
 rw [lA_congr h]
theorem sign_r {A:Array Value} {z:Int} (h:IsI A z):Pure Tryz.prog 160 [SV.c (.agg A)] (.int .i64 (sgn z)):=by
 obtain ⟨neg,N,hN,rfl,rfl⟩:=h.raw
 refine sx_pure tt_ok mixed at160 _ _ rfl rfl fun w=>?_
 refine ⟨iA_size _ _,by decide,_,iA_mag,.inl ⟨_,zero_r hN,fun h1=>⟨iv ?_,trivial⟩,fun h1=>⟨_,iA_neg,fun h2=>⟨iv ?_,trivial⟩,fun h2=>⟨iv ?_,trivial⟩⟩⟩⟩
 ·have h1:N=0:=of_decide_eq_true h1
  subst h1
  cases neg<;>rfl
 ·have h1:¬ N=0:=of_decide_eq_false h1
  have h2:neg=true:=h2
  subst h2
  unfold sgn zN;rw [if_pos rfl,if_pos (by omega)]
 ·have h1:¬ N=0:=of_decide_eq_false h1
  have h2:neg=false:=h2
  subst h2
  unfold sgn zN;rw [if_neg Bool.false_ne_true,if_neg (by omega),if_neg (by omega)]
theorem neg_r {A:Array Value} {z:Int} (h:IsI A z):Pure Tryz.prog 162 [SV.c (.agg A)] (.agg (eA (-z))):=by
 obtain ⟨neg,N,hN,rfl,rfl⟩:=h.raw
 refine sx_pure tt_ok mixed at162 _ _ rfl rfl fun w=>?_
 have e:zN (!neg) N=-zN neg N:=by cases neg<;>simp [zN]
 rw [← e]
 exact ⟨iA_size _ _,_,iA_neg,by decide,_,iA_mag,.inl ⟨_,canon_r _ hN,eA_fits _,rfl,trivial⟩⟩
theorem abs_r {A:Array Value} {z:Int} (h:IsI A z):Pure Tryz.prog 241 [SV.c (.agg A)] (.agg (eA (z.natAbs:Int))):=by
 obtain ⟨neg,N,hN,rfl,rfl⟩:=h.raw
 refine sx_pure tt_ok mixed at241 _ _ rfl rfl fun w=>?_
 have e:((zN neg N).natAbs:Int)=zN false N:=by rw [zN_abs];rfl
 rw [e]
 exact ⟨iA_size _ _,by decide,_,iA_mag,.inl ⟨_,canon_r _ hN,eA_fits _,rfl,trivial⟩⟩
theorem cmp_r {A B:Array Value} {x y:Int} (hA:IsI A x) (hB:IsI B y):Pure Tryz.prog 206 [SV.c (.agg A),SV.c (.agg B)] (.int .i64 (cmpI x y)):=by
 have s1:=sign_r hA
 have s2:=sign_r hB
 have hx:=hA.lt
 have hy:=hB.lt
 obtain ⟨a,N,hN,rfl,ex⟩:=hA.raw
 obtain ⟨b,M,hM,rfl,ey⟩:=hB.raw
 refine sx_pure tt_ok mixed at206 _ _ rfl rfl fun w=>?_
 have eN:x.natAbs=N:=by rw [ex,zN_abs]
 have eM:y.natAbs=M:=by rw [ey,zN_abs]
 refine ⟨iA_size _ _,iA_size _ _,.inl ⟨_,s1,.inl ⟨_,s2,by kernel_rfl,fun h=>⟨?_,trivial⟩,fun h=>⟨fun h2=>⟨?_,trivial⟩,fun h2=>⟨by decide,_,iA_mag,by decide,_,iA_mag,.inl ⟨_,compare_r hN hM,iv ?_,trivial⟩⟩⟩⟩⟩⟩
 ·have h:=of_decide_eq_true h
  rw [cmpI_ne (by omega),if_pos h];rfl
 ·have h:=of_decide_eq_false h
  have h2:=of_decide_eq_true h2
  rw [cmpI_ne (by omega),if_neg h];rfl
 ·have h:=of_decide_eq_false h
  have h2:=of_decide_eq_false h2
  rw [cmpI_eq (by omega),eN,eM]
  have:=sgn_bd x
  rcases cmpS_bd N M with h1 | h1 | h1<;>rw [h1]<;>exact i64_in (by omega)
theorem bl_half {v:Nat} (h:0 < v):bl v=bl (v / 2)+1:=by
 rcases Nat.lt_or_ge v 2 with h2 | h2
 ·have:v=1:=by omega
  subst this;rfl
 ·rw [bl_shift (s:=1) (by omega),Nat.pow_one];omega
theorem bits_r {A:Array Value} {z:Int} (h:IsI A z):Pure Tryz.prog 163 [SV.c (.agg A)] (.int .i64 (bl z.natAbs)):=by
 obtain ⟨neg,N,hN,rfl,rfl⟩:=h.raw
 obtain ⟨n,hn,hu⟩:=used_ex hN
 rw [zN_abs]
 refine sx_pure tt_ok mixed at163 _ _ rfl rfl fun w=>?_
 refine ⟨iA_size _ _,by decide,_,iA_mag,.inl ⟨_,limbs_r hu hN,fun h=>?_,fun h=>?_⟩⟩
 ·have h0:n=0:=by have:(n:Int)=0:=by simpa using h
                  omega
  subst h0
  have:N=0:=by have:=hu.1;simp at this;omega
  subst this
  exact ⟨rfl,trivial⟩
 ·have h0:0 < n:=by
    rcases Nat.eq_zero_or_pos n with e | e
    ·subst e;simp at h
    ·exact e
  have e1:IntKind.i64.wrap ((n:Int) - 1)=((n - 1:Nat):Int):=by rw [i64_in (by omega)];omega
  have e2:IntKind.i64.wrap (32*IntKind.i64.wrap ((n:Int) - 1))=((32*(n - 1):Nat):Int):=by rw [e1,i64_in (by omega)];omega
  obtain ⟨hb,hb0⟩:=bl_limbs hu h0
  have hb2:bl (dg N (n - 1))≤32:=bl_le (dg_lt _ _)
  have hg:(iA neg N)[1+(IntKind.i64.wrap ((n:Int) - 1)).toNat]? = some (.int .u32 ((dg N (n - 1):Nat):Int)):=by rw [e1];exact iA_lim (by omega)
  refine ⟨by rw [e1];omega,by rw [e1];show ((n - 1:Nat):Int) < 32;omega,_,hg,?_⟩
  refine ⟨fun q f m=>∃ k:Nat,q < BB∧k+bl q=bl N∧f=[(4,SV.c (.int .i64 k)),(5,SV.c (.int .u32 q))]∧m=[],dg N (n - 1),⟨_,_,⟨32*(n - 1),dg_lt _ _,hb.symm,rfl,rfl⟩,⟨c_int e2,rfl,trivial⟩,trivial,rfl⟩,?_⟩
  rintro q f m ⟨k,hq,hk,rfl,rfl⟩
  refine ⟨fun h1=>?_,fun h1=>?_⟩
  ·have h1:0 < q:=by have:=of_decide_eq_true h1;omega
   have hh:=bl_half h1
   have hbn:bl N≤1024:=by omega
   exact ⟨by decide,q / 2,_,_,by omega,⟨k+1,by omega,by omega,rfl,rfl⟩,⟨c_int (by rw [i64_in (by omega)];rfl),c_int (sh_nat q 1),trivial⟩,trivial,rfl⟩
  ·have h1:q=0:=by have:=of_decide_eq_false h1;omega
   subst h1
   have:bl 0=0:=rfl
   exact ⟨iv (by omega),trivial⟩
theorem iB_neg0 (b:Bool) (f:Nat→Nat):(iB false f).setIfInBounds 0 (.bool b)=iB b f:=by
 unfold iB
 apply Array.ext_getElem?
 intro j
 by_cases h:j=0
 ·subst h
  rw [Array.getElem?_setIfInBounds_self,Array.getElem?_append_left (by simp)]
  simp
 ·rw [Array.getElem?_setIfInBounds_ne (fun e=>h e.symm),Array.getElem?_append_right (by simp;omega),Array.getElem?_append_right (by simp;omega)]
  rfl
theorem fromInt_r (n:Int) (h1 : -9223372036854775808≤n) (h2:n≤9223372036854775807):Pure Tryz.prog 108 [SV.c (.int .i64 n)] (.agg (eA n)):=by
 refine sx_pureC [4] tt_ok mixed at108 _ _ rfl rfl fun w=>?_
 have hN:n.natAbs < 18446744073709551616:=by omega
 refine ⟨fun f m=>f=[(0,SV.c (.int .i64 n)),(2,SV.ptr 2 0),(3,SV.c (.int .u64 (n.natAbs:Nat)))]∧m=[(2,Blk.row 57 33 ti57.zero)],⟨fun h=>?_,fun h=>?_⟩,?_⟩
 ·have hn:=of_decide_eq_true h
  have e:IntKind.u64.wrap (0 - IntKind.u64.wrap n)=((n.natAbs:Nat):Int):=by simp only [u64_wrap];omega
  exact ⟨_,_,⟨rfl,rfl⟩,⟨rfl,rfl,c_int e,trivial⟩,⟨rfl,trivial⟩,rfl⟩
 ·have hn:=of_decide_eq_false h
  have e:IntKind.u64.wrap n=((n.natAbs:Nat):Int):=by simp only [u64_wrap];omega
  exact ⟨_,_,⟨rfl,rfl⟩,⟨rfl,rfl,c_int e,trivial⟩,⟨rfl,trivial⟩,rfl⟩
 rintro f m ⟨rfl,rfl⟩
 have e0:IntKind.u32.wrap ((n.natAbs:Nat):Int)=((n.natAbs % 4294967296:Nat):Int):=by rw [u32_wrap];omega
 have e1:IntKind.u32.wrap (((n.natAbs:Nat):Int).fdiv (2 ^ min (Int.toNat 32) IntKind.u64.bits))=((n.natAbs / 4294967296:Nat):Int):=by
  rw [show ((n.natAbs:Nat):Int).fdiv (2 ^ min (Int.toNat 32) IntKind.u64.bits)=((n.natAbs / 4294967296:Nat):Int) from sh_nat _ 32]
  exact u32_in (by omega)
 refine ⟨by decide,rfl,_,iB_neg0 (decide (n < 0)) (fun _=>0),by decide,by decide,by decide,by decide,rfl,iB (decide (n < 0)) (fun k=>if k=0 then n.natAbs % 4294967296 else 0),?_,by decide,by decide,by decide,rfl,eA n,?_,?_⟩
 ·rw [e0]
  exact iB_set (decide (n < 0)) (fun _=>0) 0 (n.natAbs % 4294967296)
 ·rw [e1]
  refine Eq.trans (iB_set (decide (n < 0)) _ 1 (n.natAbs / 4294967296)) (iB_of fun i hi=>?_)
  by_cases h1:i=1
  ·subst h1
   rw [if_pos rfl]
   simp only [dg,BB_eq,Nat.pow_one];omega
  ·rw [if_neg h1]
   by_cases h0:i=0
   ·subst h0
    rw [if_pos rfl]
    simp only [dg,BB_eq,Nat.pow_zero,Nat.div_one]
   ·rw [if_neg h0,dg_hi hN (by omega)]
 ·exact ⟨eA_fits _,rfl,trivial⟩
theorem toInt_r {A:Array Value} {z:Int} (hA:IsI A z):Pure Tryz.prog 110 [SV.c (.agg A)] (toIntR z):=by
 have hzl:=hA.lt
 obtain ⟨neg,N,hN,rfl,rfl⟩:=hA.raw
 obtain ⟨n,hn,hu⟩:=used_ex hN
 have hab:=zN_abs neg N
 have hlim:∀ i,i < 32→(eA (zN neg N))[1+i]? = some (.int .u32 (dg N i:Nat)):=fun i hi=>by unfold eA;rw [hab];exact iA_lim hi
 have hmag:(eA (zN neg N)).extract 1 33=mA N:=by unfold eA;rw [hab];exact iA_mag
 have hneg:(eA (zN neg N))[0]? = some (.bool (decide (zN neg N < 0))):=iA_neg
 have hc:=canon_r neg hN
 generalize zN neg N=z at *
 refine sx_pure tt_ok mixed at110 _ _ rfl rfl fun w=>?_
 have h64:(n:Int) > 2↔¬ N < 18446744073709551616:=by
  constructor
  ·intro h h2
   have h3:=hu.2 (by omega)
   have h4:BB ^ 2≤BB ^ (n - 1):=Nat.pow_le_pow_right BB_pos (by omega)
   rw [show BB ^ 2=18446744073709551616 from by decide] at h4
   omega
  ·intro h
   rcases Nat.lt_or_ge 2 n with h2 | h2
   ·omega
   ·exfalso
    have h4:BB ^ n≤BB ^ 2:=Nat.pow_le_pow_right BB_pos h2
    rw [show BB ^ 2=18446744073709551616 from by decide] at h4
    have:=hu.1
    omega
 refine ⟨iA_size _ _,_,iA_neg,by decide,_,iA_mag,.inl ⟨_,hc,eA_fits _,by decide,_,hmag,.inl ⟨_,limbs_r hu hN,fun h=>?_,fun h=>?_⟩⟩⟩
 ·have h:=h64.1 (of_decide_eq_true h)
  refine ⟨?_,trivial⟩
  rw [toIntR,if_neg (by omega)];rfl
 ·have h:N < 18446744073709551616:=by
    have:=of_decide_eq_false h
    rw [h64] at this;omega
  have eu:=hilo (dg_lt N 1) (dg_lt N 0) rfl rfl
  have ed:dg N 1*BB+dg N 0=N:=by
   simp only [dg,BB_eq,Nat.pow_one,Nat.pow_zero,Nat.div_one];omega
  rw [ed] at eu
  have g1:=hlim 1 (by omega)
  have g0:=hlim 0 (by omega)
  refine ⟨by decide,by decide,_,g1,by decide,by decide,by decide,_,g0,_,hneg,fun h1=>⟨fun h2=>?_,fun h2=>⟨_,hneg,?_⟩⟩,fun h1=>⟨nofun,fun _=>⟨_,hneg,?_⟩⟩⟩
  ·rw [eu] at h2
   have h1:=of_decide_eq_false (bnt h1)
   have h2:=of_decide_eq_true h2
   refine ⟨?_,trivial⟩
   rw [toIntR,if_pos (by omega)]
   refine tup2 (iv ?_) rfl
   rw [eu,IntKind.wrap_i64]
   omega
  ·rw [eu] at h2
   have h1:=of_decide_eq_false (bnt h1)
   have h2:=of_decide_eq_false h2
   refine ⟨fun h3=>absurd (of_decide_eq_true h3) h1,fun _=>⟨nofun,fun _=>⟨?_,trivial⟩⟩⟩
   rw [toIntR,if_neg (by omega)];rfl
  ·have h1:=of_decide_eq_true (bnf h1)
   refine ⟨fun _=>⟨fun h2=>⟨?_,trivial⟩,fun h2=>⟨?_,trivial⟩⟩,fun h3=>absurd h1 (of_decide_eq_false h3)⟩
   ·rw [eu] at h2
    have h2:=of_decide_eq_true h2
    rw [toIntR,if_pos (by omega)]
    refine tup2 (iv ?_) rfl
    rw [eu,u64_wrap,IntKind.wrap_i64]
    omega
   ·rw [eu] at h2
    have h2:=of_decide_eq_false h2
    rw [toIntR,if_neg (by omega)];rfl
theorem add_r {A B:Array Value} {x y:Int} (hA:IsI A x) (hB:IsI B y):Pure Tryz.prog 204 [SV.c (.agg A),SV.c (.agg B)] (fitR (x+y)):=by
 have hx:=hA.lt
 have hy:=hB.lt
 obtain ⟨a,N,hN,rfl,ex⟩:=hA.raw
 obtain ⟨b,M,hM,rfl,ey⟩:=hB.raw
 have eN:x.natAbs=N:=by rw [ex,zN_abs]
 have eM:y.natAbs=M:=by rw [ey,zN_abs]
 have c1:=canon_r a hN
 have c2:=canon_r b hM
 rw [← ex] at c1
 rw [← ey] at c2
 refine sx_pureC [9] tt_ok mixed at204 _ _ rfl rfl fun w=>?_
 have mag:∀ z:Int,(eA z).extract 1 33=mA z.natAbs:=fun z=>iA_mag
 have ng:∀ z:Int,(eA z)[0]? = some (.bool (decide (z < 0))):=fun z=>iA_neg
 refine ⟨iA_size _ _,iA_size _ _,_,iA_neg,by decide,_,iA_mag,.inl ⟨_,c1,_,iA_neg,by decide,_,iA_mag,.inl ⟨_,c2,eA_fits _,eA_fits _,by kernel_rfl,_,ng x,_,ng y,fun h=>?_,fun h=>?_⟩⟩⟩
 ·have h:decide (x < 0)=decide (y < 0):=by simpa using h
  refine ⟨by decide,_,mag x,by decide,_,mag y,.inl ⟨_,sum_r hx hy,mA_fits _,fun h2=>?_,fun h2=>?_⟩⟩
  ·have h2:¬ (x.natAbs+y.natAbs < BB ^ 32):=of_decide_eq_false (bnt h2)
   refine ⟨ti57.zero,rfl,eA_fits 0,?_,trivial⟩
   rw [fitR,if_neg (by rw [(add_near h).1];exact h2)];rfl
  ·have h2:x.natAbs+y.natAbs < BB ^ 32:=of_decide_eq_true (bnf h2)
   have cc:=canon_r (decide (x < 0)) h2
   rw [(add_near h).2] at cc
   rw [Nat.mod_eq_of_lt h2]
   refine ⟨_,ng x,.inl ⟨_,cc,eA_fits _,?_,trivial⟩⟩
   rw [fitR,if_pos (by rw [(add_near h).1];exact h2)];rfl
 ·have hne:decide (x < 0)=!decide (y < 0):=neq_true (by simpa using h)
  refine ⟨fun f mm=>∃ u v:Int,v.natAbs≤u.natAbs∧u.natAbs < BB ^ 32∧decide (u < 0)=(!decide (v < 0))∧u+v=x+y∧f=[(2,SV.ptr 2 0),(3,SV.ptr 3 0),(4,SV.ptr 4 0)]∧mm=[(2,Blk.row 57 33 (eA u)),(3,Blk.row 57 33 (eA v)),(4,Blk.row 57 33 ti57.zero)],⟨by decide,_,mag x,by decide,_,mag y,.inl ⟨_,compare_r hx hy,fun h2=>?_,fun h2=>?_⟩⟩,?_⟩
  ·rw [cmpS_neg] at h2
   have hlt:=of_decide_eq_true h2
   exact ⟨eA_fits _,eA_fits _,_,_,⟨y,x,by omega,hy,by rw [hne];simp,Int.add_comm _ _,rfl,rfl⟩,⟨rfl,rfl,rfl,trivial⟩,⟨rfl,rfl,rfl,trivial⟩,rfl⟩
  ·rw [cmpS_neg] at h2
   have hlt:=of_decide_eq_false h2
   exact ⟨_,_,⟨x,y,by omega,hx,hne,rfl,rfl,rfl⟩,⟨rfl,rfl,rfl,trivial⟩,⟨rfl,rfl,rfl,trivial⟩,rfl⟩
  rintro f mm ⟨u,v,huv,hu,hs,e,rfl,rfl⟩
  have hd:=difference_r hu (Nat.lt_of_le_of_lt huv hu)
  rw [diff_sub hu huv] at hd
  have hl:u.natAbs - v.natAbs < BB ^ 32:=Nat.lt_of_le_of_lt (Nat.sub_le _ _) hu
  have cc:=canon_r (decide (u < 0)) hl
  rw [(add_far hs).2 (by omega),e] at cc
  have hb:(x+y).natAbs < BB ^ 32:=by rw [← e,← (add_far hs).2 (by omega),zN_abs];exact hl
  refine ⟨_,ng u,by decide,_,mag u,by decide,_,mag v,.inl ⟨_,hd,.inl ⟨_,cc,eA_fits _,by kernel_rfl,?_,trivial⟩⟩⟩
  rw [fitR,if_pos hb];rfl
theorem mul_r {A B:Array Value} {x y:Int} (hA:IsI A x) (hB:IsI B y):Pure Tryz.prog 107 [SV.c (.agg A),SV.c (.agg B)] (fitR (x*y)):=by
 obtain ⟨a,N,hN,rfl,rfl⟩:=hA.raw
 obtain ⟨b,M,hM,rfl,rfl⟩:=hB.raw
 obtain ⟨n,hn,hu⟩:=used_ex hN
 obtain ⟨m,hm,hv⟩:=used_ex hM
 have ez:zN (a != b) (N*M)=zN a N*zN b M:=by
  cases a<;>cases b<;>simp [zN,Int.neg_mul,Int.mul_neg]
 have eab:(zN a N*zN b M).natAbs=N*M:=by rw [← ez,zN_abs]
 refine sx_pure tt_ok mixed at107 _ _ rfl rfl fun w=>?_
 refine ⟨iA_size _ _,iA_size _ _,by decide,_,iA_mag,.inl ⟨_,limbs_r hu hN,by decide,_,iA_mag,.inl ⟨_,limbs_r hv hM,by kernel_rfl,?_⟩⟩⟩
 refine ⟨fun q f mm=>∃ (i:Nat) (F:Nat→Nat),q=n - i∧i≤n∧MulO N M m i F∧f=[(2,SV.ptr 2 0),(3,SV.ptr 3 0),(4,SV.ptr 4 0),(6,SV.ptr 6 0),(7,SV.c (.int .i64 n)),(8,SV.c (.int .i64 m)),(9,SV.c (.int .i64 i))]∧mm=[(2,Blk.row 57 33 (iA a N)),(3,Blk.row 57 33 (iA b M)),(4,Blk.row 57 33 ti57.zero),(6,Blk.row 203 64 (lA F 64))],n,⟨_,_,⟨0,fun _=>0,rfl,Nat.zero_le _,MulO.start N M m,rfl,rfl⟩,⟨rfl,rfl,rfl,rfl,rfl,rfl,rfl,trivial⟩,⟨rfl,rfl,rfl,rfl,trivial⟩,rfl⟩,?_⟩
 rintro q f mm ⟨i,F,rfl,hi,hF,rfl,rfl⟩
 refine ⟨fun h=>?_,fun h=>?_⟩
 ·have hin:i < n:=by have:=of_decide_eq_true h;omega
  refine ⟨fun q f mm=>∃ (j c:Nat) (G:Nat→Nat),q=m - j∧j≤m∧MulI N M m i j F G c∧f=[(2,SV.ptr 2 0),(3,SV.ptr 3 0),(4,SV.ptr 4 0),(6,SV.ptr 6 0),(7,SV.c (.int .i64 n)),(8,SV.c (.int .i64 m)),(9,SV.c (.int .i64 i)),(10,SV.c (.int .u64 c)),(11,SV.c (.int .i64 j))]∧mm=[(2,Blk.row 57 33 (iA a N)),(3,Blk.row 57 33 (iA b M)),(4,Blk.row 57 33 ti57.zero),(6,Blk.row 203 64 (lA G 64))],m,⟨_,_,⟨0,0,F,rfl,Nat.zero_le _,hF.row,rfl,rfl⟩,⟨rfl,rfl,rfl,rfl,rfl,rfl,rfl,rfl,rfl,trivial⟩,⟨rfl,rfl,rfl,rfl,trivial⟩,rfl⟩,?_⟩
  rintro q f mm ⟨j,c,G,rfl,hj,hG,rfl,rfl⟩
  refine ⟨fun h2=>?_,fun h2=>?_⟩
  ·have hjm:j < m:=by have:=of_decide_eq_true h2;omega
   have e1:IntKind.i64.wrap ((i:Int)+j)=((i+j:Nat):Int):=by rw [i64_in (by omega)];omega
   have gN:(iA a N)[1+i]? = _:=iA_lim (show i < 32 by omega)
   have gM:(iA b M)[1+j]? = _:=iA_lim (show j < 32 by omega)
   have gC:(lA G 64)[(IntKind.i64.wrap ((i:Int)+j)).toNat]? = some (.int .u32 (G (i+j):Nat)):=by rw [e1];exact lA_get G (by omega)
   have eM:=mul64 (dg_lt N i) (dg_lt M j) (hG.lt (i+j)) hG.carry
   have hlt:=mul_lt (dg_lt N i) (dg_lt M j) (hG.lt (i+j)) hG.carry
   refine ⟨by omega,by show (i:Int) < 32;omega,_,gN,by omega,by show (j:Int) < 32;omega,_,gM,by rw [e1];omega,by rw [e1];show ((i+j:Nat):Int) < 64;omega,_,gC,by kernel_rfl,by rw [e1];omega,by rw [e1];show ((i+j:Nat):Int) < 64;omega,by rw [e1];show i+j < 64;omega,rfl,_,lA_put e1 (v:=(dg N i*dg M j+G (i+j)+c) % BB) (by rw [eM,u32_wrap,BB_eq];rfl),by decide,?_⟩
   refine ⟨m - (j+1),_,_,by omega,⟨j+1,_,_,rfl,by omega,hG.step,rfl,rfl⟩,⟨rfl,rfl,rfl,rfl,rfl,rfl,rfl,c_int (by rw [eM];exact shr32 _),c_int (by rw [i64_in (by omega)];rfl),trivial⟩,⟨rfl,rfl,rfl,rfl,trivial⟩,rfl⟩
  ·have:j=m:=by have:=of_decide_eq_false h2;omega
   subst this
   have e1:IntKind.i64.wrap ((i:Int)+j)=((i+j:Nat):Int):=by rw [i64_in (by omega)];omega
   have hcc:=hG.carry
   rw [BB_eq] at hcc
   refine ⟨by rw [e1];omega,by rw [e1];show ((i+j:Nat):Int) < 64;omega,by rw [e1];show i+j < 64;omega,rfl,_,lA_put e1 (v:=c) (u32_in (by omega)),?_⟩
   exact ⟨n - (i+1),_,_,by omega,⟨i+1,_,rfl,by omega,hG.done hF hv.1,rfl,rfl⟩,⟨rfl,rfl,rfl,rfl,rfl,rfl,c_int (by rw [i64_in (by omega)];rfl),trivial⟩,⟨rfl,rfl,rfl,rfl,trivial⟩,rfl⟩
 ·have:i=n:=by have:=of_decide_eq_false h;omega
  subst this
  obtain ⟨h1,h2,h3⟩:=mul_low hF.lt (hF.full hu.1 (by omega))
  refine ⟨fun q f mm=>∃ (k:Nat) (g:Nat→Nat),q=32 - k∧k≤32∧(∀ j,j < k→dg (N*M / BB ^ 32) j=0∧g j=dg (N*M % BB ^ 32) j)∧f=[(2,SV.ptr 2 0),(3,SV.ptr 3 0),(4,SV.ptr 4 0),(6,SV.ptr 6 0),(13,SV.ptr 13 0),(14,SV.c (.int .i64 k))]∧mm=[(2,Blk.row 57 33 (iA a N)),(3,Blk.row 57 33 (iA b M)),(4,Blk.row 57 33 ti57.zero),(6,Blk.row 203 64 (lA F 64)),(13,Blk.row 55 32 (lA g 32))],32,⟨_,_,⟨0,fun _=>0,rfl,Nat.zero_le _,fun j hj=>absurd hj (by omega),rfl,rfl⟩,⟨rfl,rfl,rfl,rfl,rfl,rfl,trivial⟩,⟨rfl,rfl,rfl,rfl,rfl,trivial⟩,rfl⟩,?_⟩
  rintro q f mm ⟨k,g,rfl,hk,hg,rfl,rfl⟩
  refine ⟨fun h4=>?_,fun h4=>?_⟩
  ·have h4:k < 32:=by have:=of_decide_eq_true h4;omega
   have e1:IntKind.i64.wrap (32+(k:Int))=((32+k:Nat):Int):=by rw [i64_in (by omega)];omega
   have gH:(lA F 64)[(IntKind.i64.wrap (32+(k:Int))).toNat]? = some (.int .u32 (F (32+k):Nat)):=by rw [e1];exact lA_get F (by omega)
   have gL:(lA F 64)[k]? = some (.int .u32 (F k:Nat)):=lA_get F (by omega)
   refine ⟨by rw [e1];omega,by rw [e1];show ((32+k:Nat):Int) < 64;omega,_,gH,fun h5=>?_,fun h5=>?_⟩
   ·have h5:F (32+k)≠0:=by intro e;rw [e] at h5;simp at h5
    rw [h2 k h4] at h5
    have:¬ N*M < BB ^ 32:=by
     intro hl
     rw [Nat.div_eq_of_lt hl,dg_zero] at h5
     exact h5 rfl
    refine ⟨ti57.zero,rfl,eA_fits 0,?_,trivial⟩
    rw [fitR,if_neg (by rw [eab];exact this)];rfl
   ·have h5:F (32+k)=0:=by
      have:((F (32+k):Nat):Int)=0:=by simpa using h5
      omega
    rw [h2 k h4] at h5
    refine ⟨by omega,by show (k:Int) < 64;omega,_,gL,by omega,by show (k:Int) < 32;omega,by show k < 32;omega,rfl,_,lA_put (i:=k) (x:=(k:Int)) rfl rfl,?_⟩
    refine ⟨32 - (k+1),_,_,by omega,⟨k+1,_,rfl,by omega,fun j hj=>?_,rfl,rfl⟩,⟨rfl,rfl,rfl,rfl,rfl,c_int (by rw [i64_in (by omega)];rfl),trivial⟩,⟨rfl,rfl,rfl,rfl,rfl,trivial⟩,rfl⟩
    by_cases e:j=k
    ·subst e
     exact ⟨h5,by rw [if_pos rfl];exact h1 j h4⟩
    ·rw [if_neg e];exact hg j (by omega)
  ·have h4:k=32:=by have:=of_decide_eq_false h4;omega
   subst h4
   have hz:N*M / BB ^ 32=0:=dg_ext (n:=32) h3 (pow_pos' 32) fun j hj=>by rw [(hg j hj).1,dg_zero]
   have hl:N*M < BB ^ 32:=(Nat.div_eq_zero_iff_lt (pow_pos' 32)).1 hz
   have hA:lA g 32=mA (N*M):=lA_congr fun j hj=>by rw [(hg j hj).2,Nat.mod_eq_of_lt hl]
   rw [hA]
   have cc:=canon_r (a != b) hl
   rw [ez] at cc
   refine ⟨_,iA_neg,_,iA_neg,.inl ⟨_,cc,eA_fits _,?_,trivial⟩⟩
   rw [fitR,if_pos (by rw [eab];exact hl)];rfl
theorem dg_mod_pow {T j:Nat} (h:j < 32):dg (T % BB ^ 32) j=dg T j:=by
 rw [← nv_dg];exact dg_nv (fun j _=>dg_lt T j) h
theorem dbl_top {N b:Nat} (hN:N < BB ^ 32) (hb:b≤1):((dg N 31 / 2147483648:Nat):Int)=1↔¬ 2*N+b < BB ^ 32:=by
 have h:=dg_double N b 32 hb
 rw [dg_of_lt hN (Nat.le_refl 32),if_neg (by omega)] at h
 simp only [Nat.zero_mul,Nat.zero_mod,Nat.zero_or] at h
 rw [show 32 - 1=31 from rfl] at h
 rw [← h]
 unfold dg
 have hP:=pow_pos' 32
 have hlt:(2*N+b) / BB ^ 32 < 2:=by
  rw [Nat.div_lt_iff_lt_mul hP];omega
 have hlt2:(2*N+b) / BB ^ 32 < BB:=Nat.lt_trans hlt (by decide)
 rw [Nat.mod_eq_of_lt hlt2]
 constructor
 ·intro h1 h2
  rw [Nat.div_eq_of_lt h2] at h1;simp at h1
 ·intro h1
  have:1≤(2*N+b) / BB ^ 32:=(Nat.le_div_iff_mul_le hP).2 (by omega)
  omega
theorem double_r {N b:Nat} (hN:N < BB ^ 32) (hb:b≤1):Pure Tryz.prog 200 [SV.c (.agg (mA N)),SV.c (.int .u32 (b:Nat))] (.tuple #[.agg (mA ((2*N+b) % BB ^ 32)),.bool (!decide (2*N+b < BB ^ 32))]):=by
 refine sx_pure tt_ok mixed at200 _ _ rfl rfl fun w=>?_
 refine ⟨mA_size _,fun q f m=>∃ (k:Nat) (g:Nat→Nat),q=32 - k∧k≤32∧(∀ j,j < 32→g j=if j < k then dg (2*N+b) j else dg N j)∧f=[(1,SV.c (.int .u32 (if k=0 then b else dg N (k - 1) / 2147483648:Nat))),(2,SV.ptr 2 0),(4,SV.ptr 4 0),(6,SV.c (.int .i64 k))]∧m=[(2,Blk.row 55 32 (lA g 32)),(4,Blk.row 55 32 (lA (fun _=>0) 32))],32,⟨_,_,⟨0,dg N,rfl,Nat.zero_le _,fun j hj=>by rw [if_neg (by omega)],rfl,rfl⟩,⟨rfl,rfl,rfl,rfl,trivial⟩,⟨rfl,rfl,trivial⟩,rfl⟩,?_⟩
 rintro q f m ⟨k,g,rfl,hk,hg,rfl,rfl⟩
 refine ⟨fun h=>?_,fun h=>?_⟩
 ·have h1:k < 32:=by have:=of_decide_eq_true h;omega
  have hx:=dg_lt N k
  have gk:g k=dg N k:=by rw [hg k h1,if_neg (by omega)]
  have gx:(lA g 32)[k]? = some (.int .u32 (dg N k:Nat)):=by rw [lA_get g h1,gk]
  rw [BB_eq] at hx
  have hbit:(if k=0 then b else dg N (k - 1) / 2147483648) < 4294967296:=by
   split
   ·omega
   ·have:=dg_lt N (k - 1);rw [BB_eq] at this;omega
  have es:IntKind.u32.wrap ((dg N k:Nat)*2 ^ min (Int.toNat 1) IntKind.u32.bits)=((dg N k*2 % 4294967296:Nat):Int):=by
   rw [u32_wrap];show ((dg N k:Nat):Int)*2 % 4294967296=_;omega
  have ev:=or32 (A:=dg N k*2 % 4294967296) (B:=if k=0 then b else dg N (k - 1) / 2147483648) (Nat.mod_lt _ (by omega)) hbit
  rw [← es] at ev
  refine ⟨by omega,by show (k:Int) < 32;omega,_,gx,by decide,by omega,by show (k:Int) < 32;omega,_,gx,by decide,by omega,by show (k:Int) < 32;omega,by show k < 32;omega,rfl,_,lA_put (i:=k) (x:=(k:Int)) rfl ev,by kernel_rfl,?_⟩
  refine ⟨32 - (k+1),_,_,by omega,⟨k+1,_,rfl,by omega,fun j hj=>?_,rfl,rfl⟩,⟨c_int (by rw [if_neg (by omega),show k+1 - 1=k by omega];exact sh_nat _ 31),rfl,rfl,c_int (by rw [i64_in (by omega)];rfl),trivial⟩,⟨rfl,rfl,trivial⟩,rfl⟩
  by_cases e:j=k
  ·subst e
   rw [if_pos rfl,if_pos (show j < j+1 by omega),dg_double N b j hb]
  ·rw [if_neg e,hg j hj]
   by_cases e2:j < k
   ·rw [if_pos e2,if_pos (by omega)]
   ·rw [if_neg e2,if_neg (by omega)]
 ·have h1:k=32:=by have:=of_decide_eq_false h;omega
  subst h1
  have hA:lA g 32=mA ((2*N+b) % BB ^ 32):=lA_congr fun j hj=>by
   rw [hg j hj,if_pos hj]
   exact (dg_mod_pow hj).symm
  refine ⟨lA_fits _ _,tup2 (by rw [hA]) (bv ?_),trivial⟩
  rw [Bool.eq_iff_iff]
  simp only [if_neg (show ¬ 32=0 by omega),show 32 - 1=31 from rfl,beq_iff_eq,Bool.not_eq_true',decide_eq_false_iff_not]
  exact dbl_top hN hb
theorem tmod_nat (a b:Nat):Int.tmod (a:Int) (b:Int)=((a % b:Nat):Int):=(Int.ofNat_tmod a b).symm
theorem tdiv_nat (a b:Nat):Int.tdiv (a:Int) (b:Int)=((a / b:Nat):Int):=(Int.ofNat_tdiv a b).symm
theorem shifted_r {N n:Nat} (hN:N < BB ^ 32) (hn:n≤1024):Pure Tryz.prog 199 [SV.c (.agg (mA N)),SV.c (.int .i64 (n:Nat))] (.agg (mA (N / 2 ^ n))):=by
 refine sx_pure tt_ok mixed at199 _ _ rfl rfl fun w=>?_
 obtain ⟨k,s,hs,rfl⟩:∃ k s,s < 32∧n=32*k+s:=⟨n / 32,n % 32,Nat.mod_lt _ (by omega),by omega⟩
 have ek:IntKind.i64.wrap (Int.tdiv ((32*k+s:Nat):Int) 32)=(k:Nat):=by
  have:=tdiv_nat (32*k+s) 32
  rw [show ((32:Nat):Int)=32 from rfl] at this
  rw [this,show (32*k+s) / 32=k by omega,i64_in (by omega)]
 have es:IntKind.u64.wrap (Int.tmod ((32*k+s:Nat):Int) 32)=(s:Nat):=by
  have:=tmod_nat (32*k+s) 32
  rw [show ((32:Nat):Int)=32 from rfl] at this
  rw [this,show (32*k+s) % 32=s by omega,u64_in (by omega)]
 refine ⟨mA_size _,by decide,by decide,fun q f m=>∃ (i:Nat) (g:Nat→Nat),q=32 - (i+k)∧i+k≤32∧(∀ j,j < 32→g j=if j < i then dg (N / 2 ^ (32*k+s)) j else 0)∧f=[(2,SV.ptr 2 0),(4,SV.ptr 4 0),(5,SV.ptr 5 0),(6,SV.c (.int .i64 k)),(7,SV.c (.int .u64 s)),(8,SV.c (.int .i64 i))]∧m=[(2,Blk.row 55 32 (mA N)),(4,Blk.row 55 32 (lA (fun _=>0) 32)),(5,Blk.row 55 32 (lA g 32))],32 - (0+k),⟨_,_,⟨0,fun _=>0,rfl,by omega,fun j hj=>by rw [if_neg (by omega)],rfl,rfl⟩,⟨rfl,rfl,rfl,c_int ek,c_int es,rfl,trivial⟩,⟨rfl,rfl,rfl,trivial⟩,rfl⟩,?_⟩
 rintro q f m ⟨i,g,rfl,hi,hg,rfl,rfl⟩
 have e1:IntKind.i64.wrap ((i:Int)+k)=((i+k:Nat):Int):=by rw [i64_in (by omega)];omega
 refine ⟨fun h=>?_,fun h=>?_⟩
 ·have h1:i+k < 32:=by have:=of_decide_eq_true h;rw [e1] at this;omega
  have gx:(mA N)[(IntKind.i64.wrap ((i:Int)+k)).toNat]? = some (.int .u32 (dg N (i+k):Nat)):=by rw [e1];exact mA_get h1
  have hsh:=dg_shr N k s i hs
  have hx:=dg_lt N (i+k)
  have hy:=dg_lt N (i+k+1)
  rw [BB_eq] at hx hy
  have esh:((dg N (i+k):Nat):Int).fdiv (2 ^ min (Int.toNat (s:Int)) IntKind.u32.bits)=((dg N (i+k) / 2 ^ s:Nat):Int):=shr_nat _ s (by omega) rfl
  have e2:IntKind.i64.wrap (IntKind.i64.wrap ((i:Int)+k)+1)=((i+k+1:Nat):Int):=by rw [e1,i64_in (by omega)];omega
  refine ⟨by rw [e1];omega,by rw [e1];show ((i+k:Nat):Int) < 32;omega,_,gx,by omega,by omega,by show (i:Int) < 32;omega,by show i < 32;omega,rfl,_,lA_put (i:=i) (x:=(i:Int)) rfl esh,fun h2=>⟨fun h3=>?_,fun h3=>?_⟩,fun h2=>⟨nofun,fun _=>?_⟩⟩
  ·have h2:0 < s:=by have:=of_decide_eq_true h2;omega
   have h3:i+k+1 < 32:=by have:=of_decide_eq_true h3;rw [e2] at this;omega
   have gz:(mA N)[(IntKind.i64.wrap (IntKind.i64.wrap ((i:Int)+k)+1)).toNat]? = some (.int .u32 (dg N (i+k+1):Nat)):=by rw [e2];exact mA_get h3
   have ge:(lA (fun x=>if x=i then dg N (i+k) / 2 ^ s else g x) 32)[i]? = some (.int .u32 (dg N (i+k) / 2 ^ s:Nat)):=by rw [lA_get _ (by omega),if_pos rfl]
   have e5:IntKind.u64.wrap (32 - (s:Int))=((32 - s:Nat):Int):=by rw [u64_in (by omega)];omega
   have e6:IntKind.u32.wrap (((dg N (i+k+1):Nat):Int)*2 ^ min (Int.toNat (IntKind.u64.wrap (32 - (s:Int)))) IntKind.u32.bits)=((dg N (i+k+1)*2 ^ (32 - s) % 4294967296:Nat):Int):=by
    rw [e5];exact shl_nat _ (32 - s) (by omega)
   have hd1:dg N (i+k) / 2 ^ s < 4294967296:=Nat.lt_of_le_of_lt (Nat.div_le_self _ _) hx
   have ev:=or32 (A:=dg N (i+k) / 2 ^ s) (B:=dg N (i+k+1)*2 ^ (32 - s) % 4294967296) hd1 (Nat.mod_lt _ (by omega))
   rw [← e6] at ev
   refine ⟨by omega,by show (i:Int) < 32;omega,_,ge,by rw [e2];omega,by rw [e2];show ((i+k+1:Nat):Int) < 32;omega,_,gz,by rw [e5];omega,by omega,by show (i:Int) < 32;omega,by show i < 32;omega,rfl,_,lA_put (i:=i) (x:=(i:Int)) rfl ev,by kernel_rfl,?_⟩
   refine ⟨32 - (i+1+k),_,_,by omega,⟨i+1,_,rfl,by omega,fun j hj=>?_,rfl,rfl⟩,⟨rfl,rfl,rfl,rfl,rfl,c_int (by rw [i64_in (by omega)];rfl),trivial⟩,⟨rfl,rfl,rfl,trivial⟩,rfl⟩
   by_cases e:j=i
   ·subst e
    rw [if_pos rfl,if_pos (show j < j+1 by omega),hsh,if_pos h2]
   ·rw [if_neg e,if_neg e,hg j hj]
    by_cases e2:j < i
    ·rw [if_pos e2,if_pos (show j < i+1 by omega)]
    ·rw [if_neg e2,if_neg (show ¬ j < i+1 by omega)]
  ·have h2:0 < s:=by have:=of_decide_eq_true h2;omega
   have h3:¬ i+k+1 < 32:=by have:=of_decide_eq_false h3;rw [e2] at this;omega
   refine ⟨32 - (i+1+k),_,_,by omega,⟨i+1,_,rfl,by omega,fun j hj=>?_,rfl,rfl⟩,⟨rfl,rfl,rfl,rfl,rfl,c_int (by rw [i64_in (by omega)];rfl),trivial⟩,⟨rfl,rfl,rfl,trivial⟩,rfl⟩
   by_cases e:j=i
   ·subst e
    rw [if_pos rfl,if_pos (show j < j+1 by omega),hsh,if_pos h2,dg_of_lt hN (show 32≤j+k+1 by omega)];simp
   ·rw [if_neg e,hg j hj]
    by_cases e2:j < i
    ·rw [if_pos e2,if_pos (show j < i+1 by omega)]
    ·rw [if_neg e2,if_neg (show ¬ j < i+1 by omega)]
  ·have h2:s=0:=by have:=of_decide_eq_false h2;omega
   refine ⟨32 - (i+1+k),_,_,by omega,⟨i+1,_,rfl,by omega,fun j hj=>?_,rfl,rfl⟩,⟨rfl,rfl,rfl,rfl,rfl,c_int (by rw [i64_in (by omega)];rfl),trivial⟩,⟨rfl,rfl,rfl,trivial⟩,rfl⟩
   by_cases e:j=i
   ·subst e
    rw [if_pos rfl,if_pos (show j < j+1 by omega),hsh,if_neg (show ¬ 0 < s by omega)];simp
   ·rw [if_neg e,hg j hj]
    by_cases e2:j < i
    ·rw [if_pos e2,if_pos (show j < i+1 by omega)]
    ·rw [if_neg e2,if_neg (show ¬ j < i+1 by omega)]
 ·have h1:¬ i+k < 32:=by have:=of_decide_eq_false h;rw [e1] at this;omega
  have hA:lA g 32=mA (N / 2 ^ (32*k+s)):=lA_congr fun j hj=>by
   rw [hg j hj]
   by_cases e:j < i
   ·rw [if_pos e]
   ·rw [if_neg e,dg_shr N k s j hs,dg_of_lt hN (show 32≤j+k by omega),dg_of_lt hN (show 32≤j+k+1 by omega)]
    simp
  exact ⟨lA_fits _ _,by rw [hA];rfl,trivial⟩
theorem low_r {N:Nat} (hN:N < 18446744073709551616):Pure Tryz.prog 198 [SV.c (.agg (mA N))] (.int .u64 (N:Nat)):=by
 refine sx_pure tt_ok mixed at198 _ _ rfl rfl fun w=>?_
 have eu:=hilo (dg_lt N 1) (dg_lt N 0) rfl rfl
 have ed:dg N 1*BB+dg N 0=N:=by
  simp only [dg,BB_eq,Nat.pow_one,Nat.pow_zero,Nat.div_one];omega
 rw [ed] at eu
 have g1:(mA N)[1]? = some (.int .u32 (dg N 1:Nat)):=mA_get (by omega)
 have g0:(mA N)[0]? = some (.int .u32 (dg N 0:Nat)):=mA_get (by omega)
 exact ⟨mA_size _,by decide,by decide,_,g1,by decide,by decide,by decide,_,g0,by rw [eu];rfl,trivial⟩
theorem small_r {N:Nat} (hN:N < 18446744073709551616):Pure Tryz.prog 197 [SV.c (.int .u64 (N:Nat))] (.agg (mA N)):=by
 refine sx_pure tt_ok mixed at197 _ _ rfl rfl fun w=>?_
 have e0:IntKind.u32.wrap ((N:Nat):Int)=((N % 4294967296:Nat):Int):=by rw [u32_wrap];omega
 have e1:IntKind.u32.wrap (((N:Nat):Int).fdiv (2 ^ min (Int.toNat 32) IntKind.u64.bits))=((N / 4294967296:Nat):Int):=by
  rw [show ((N:Nat):Int).fdiv (2 ^ min (Int.toNat 32) IntKind.u64.bits)=((N / 4294967296:Nat):Int) from sh_nat _ 32]
  exact u32_in (by omega)
 have hA:lA (fun k=>if k=1 then N / 4294967296 else (fun k=>if k=0 then N % 4294967296 else (fun _=>0) k) k) 32=mA N:=lA_congr fun i hi=>by
  by_cases h1:i=1
  ·subst h1
   rw [if_pos rfl]
   simp only [dg,BB_eq,Nat.pow_one];omega
  ·rw [if_neg h1]
   by_cases h0:i=0
   ·subst h0
    simp only [if_true]
    simp only [dg,BB_eq,Nat.pow_zero,Nat.div_one]
   ·simp only [if_neg h0]
    rw [dg_hi hN (by omega)]
 refine ⟨by decide,by decide,by decide,by decide,rfl,_,lA_put (G:=fun _=>0) (n:=32) (i:=0) (x:=((0:Nat):Int)) rfl e0,by decide,by decide,by decide,rfl,_,lA_put (i:=1) (x:=((1:Nat):Int)) rfl e1,?_⟩
 exact ⟨lA_fits _ _,by rw [hA];rfl,trivial⟩
theorem and32 {A B:Nat} (hA:A < 4294967296) (hB:B < 4294967296):IntKind.u32.wrap (((BitVec.ofInt IntKind.u32.bits (A:Int) &&& BitVec.ofInt IntKind.u32.bits (B:Int)).toNat:Nat):Int)=((A &&& B:Nat):Int):=by
 have h:A &&& B < 4294967296:=Nat.and_lt_two_pow (n:=32) _ hB
 rw [BitVec.toNat_and,BitVec.ofInt_natCast,BitVec.ofInt_natCast,BitVec.toNat_ofNat,BitVec.toNat_ofNat]
 show IntKind.u32.wrap (((A % 4294967296 &&& B % 4294967296:Nat)):Int)=_
 rw [Nat.mod_eq_of_lt hA,Nat.mod_eq_of_lt hB,u32_in (by omega)]
theorem u64_nat {x:Nat} (h:x < 18446744073709551616):IntKind.u64.wrap (x:Int)=x:=u64_in ⟨Int.natCast_nonneg x,by omega⟩
theorem i64_nat {x:Nat} (h:x≤9223372036854775807):IntKind.i64.wrap (x:Int)=x:=i64_in ⟨by omega,by omega⟩
theorem used2 {N n:Nat} (hu:IsUsed N n):n≤2↔N < 18446744073709551616:=by
 have e:BB ^ 2=18446744073709551616:=by decide
 constructor
 ·intro h
  have h4:BB ^ n≤BB ^ 2:=Nat.pow_le_pow_right BB_pos h
  rw [e] at h4
  have:=hu.1
  omega
 ·intro h
  rcases Nat.lt_or_ge 2 n with h2 | h2
  ·have h3:=hu.2 (by omega)
   have h4:BB ^ 2≤BB ^ (n - 1):=Nat.pow_le_pow_right BB_pos (by omega)
   omega
  ·exact h2
theorem fill_mag {N:Nat} {pl:List (Nat×Nat)} (hpl:pl=[(0,1),(1,32)]):Instr.fill (fun k=>pl[k]?) ti57.zero [(1,.agg (mA N))]=some (iA false N):=by
 subst hpl
 kernel_rfl
theorem bit_at (N i:Nat):dg N (i / 32) / 2 ^ (i % 32) % 2=N / 2 ^ i % 2:=by
 have h:=dg_bit N (i / 32) (i % 32)
 rw [show 32*(i / 32)+i % 32=i by omega,decide_eq_true (Nat.mod_lt i (by omega)),Bool.true_and,Nat.testBit_eq_decide_div_mod_eq,Nat.testBit_eq_decide_div_mod_eq,decide_eq_decide] at h
 have:=Nat.mod_two_eq_zero_or_one (dg N (i / 32) / 2 ^ (i % 32))
 have:=Nat.mod_two_eq_zero_or_one (N / 2 ^ i)
 omega
theorem diff_r2 {M X:Nat} (hM:M < BB ^ 32) (h2:X < 2*M) (h:M≤X):(X % BB ^ 32+BB ^ 32 - M) % BB ^ 32=X - M:=by
 generalize BB ^ 32=P at *
 rcases Nat.lt_or_ge X P with h1 | h1
 ·rw [Nat.mod_eq_of_lt h1,show X+P - M=(X - M)+P by omega,Nat.add_mod_right,Nat.mod_eq_of_lt (by omega)]
 ·have:X % P=X - P:=by
    conv=>lhs;rw [show X=(X - P)+P by omega]
    rw [Nat.add_mod_right,Nat.mod_eq_of_lt (by omega)]
  rw [this,show X - P+P - M=X - M by omega,Nat.mod_eq_of_lt (by omega)]
theorem r2_mod {M X:Nat} (h2:X < 2*M):X % M=if M≤X then X - M else X:=by
 by_cases h:M≤X
 ·rw [if_pos h]
  conv=>lhs;rw [show X=(X - M)+M by omega]
  rw [Nat.add_mod_right,Nat.mod_eq_of_lt (by omega)]
 ·rw [if_neg h,Nat.mod_eq_of_lt (by omega)]
theorem divide_r {N M:Nat} (hN:N < BB ^ 32) (hM:M < BB ^ 32) (hM0:0 < M):Pure Tryz.prog 157 [SV.c (.agg (mA N)),SV.c (.agg (mA M))] (.tuple #[.agg (mA (N / M)),.agg (mA (N % M))]):=by
 obtain ⟨n,hn,hu⟩:=used_ex hN
 obtain ⟨m,hm,hv⟩:=used_ex hM
 have hu2:=used2 hu
 have hv2:=used2 hv
 refine sx_pureC [3] tt_ok mixed at157 _ _ rfl rfl fun w=>?_
 refine ⟨mA_size _,mA_size _,fun f mm=>f=[(2,SV.ptr 2 0),(3,SV.ptr 3 0),(4,SV.ptr 4 0),(5,SV.ptr 5 0)]∧mm=[(2,Blk.row 55 32 (mA N)),(3,Blk.row 55 32 (mA M)),(4,Blk.row 55 32 (lA (fun _=>0) 32)),(5,Blk.row 55 32 (lA (fun _=>0) 32))],.inl ⟨_,limbs_r hu hN,fun h1=>.inl ⟨_,limbs_r hv hM,fun h2=>?_,fun h2=>?_⟩,fun h1=>⟨nofun,fun _=>?_⟩⟩,?_⟩
 ·have h1:N < 18446744073709551616:=hu2.1 (by have:=of_decide_eq_true h1;omega)
  have h2:M < 18446744073709551616:=hv2.1 (by have:=of_decide_eq_true h2;omega)
  have l1:=low_r h1
  have l2:=low_r h2
  have hq:N / M≤N:=Nat.div_le_self _ _
  have hr:N % M < M:=Nat.mod_lt _ hM0
  have s1:=small_r (N:=N / M) (by omega)
  have s2:=small_r (N:=N % M) (by omega)
  have e1:IntKind.u64.wrap (Int.tdiv (N:Nat) (M:Nat))=((N / M:Nat):Int):=by rw [tdiv_nat,u64_nat (by omega)]
  have e2:Int.tmod (N:Nat) (M:Nat)=((N % M:Nat):Int):=tmod_nat N M
  rw [← e1] at s1
  rw [← e2] at s2
  exact .inl ⟨_,l1,.inl ⟨_,l2,by omega,.inl ⟨_,s1,.inl ⟨_,l1,.inl ⟨_,l2,by omega,.inl ⟨_,s2,mA_fits _,mA_fits _,by kernel_rfl,rfl,trivial⟩⟩⟩⟩⟩⟩
 ·exact ⟨_,_,⟨rfl,rfl⟩,⟨rfl,rfl,rfl,rfl,trivial⟩,⟨rfl,rfl,rfl,rfl,trivial⟩,rfl⟩
 ·exact ⟨_,_,⟨rfl,rfl⟩,⟨rfl,rfl,rfl,rfl,trivial⟩,⟨rfl,rfl,rfl,rfl,trivial⟩,rfl⟩
 rintro f mm ⟨rfl,rfl⟩
 have b1:=bits_r (A:=iA false N) (z:=zN false N) ⟨false,N,hN,rfl,rfl⟩
 have b2:=bits_r (A:=iA false M) (z:=zN false M) ⟨false,M,hM,rfl,rfl⟩
 rw [zN_abs] at b1 b2
 obtain ⟨n1,n2⟩:=bl_bits N
 obtain ⟨m1,m2⟩:=bl_bits M
 have hbM:0 < bl M:=by
  rcases Nat.eq_zero_or_pos (bl M) with e | e
  ·rw [e] at m1;simp at m1;omega
  ·exact e
 have m2:=m2 hbM
 have hb1:bl N≤1024:=bl_le (k:=e1024) (by rw [BB_pow,show 32*32=e1024 from rfl] at hN;exact hN)
 have hb2:bl M≤1024:=bl_le (k:=e1024) (by rw [BB_pow,show 32*32=e1024 from rfl] at hM;exact hM)
 have eb:IntKind.i64.wrap ((bl M:Int) - 1)=((bl M - 1:Nat):Int):=by rw [i64_in (by omega)];omega
 refine ⟨_,fill_mag rfl,.inl ⟨_,b1,_,fill_mag rfl,.inl ⟨_,b2,by kernel_rfl,fun h1=>?_,fun h1=>?_⟩⟩⟩
 ·have h1:bl N≤bl M - 1:=by have:=of_decide_eq_true h1;rw [eb] at this;omega
  have hlt:N < M:=by
   have:2 ^ bl N≤2 ^ (bl M - 1):=Nat.pow_le_pow_right (by omega) h1
   omega
  refine ⟨lA_fits _ _,mA_fits _,by kernel_rfl,?_,trivial⟩
  rw [Nat.div_eq_of_lt hlt,Nat.mod_eq_of_lt hlt]
  refine tup2 ?_ rfl
  rw [← lA_rep];rfl
 have h1:bl M - 1 < bl N:=by have:=of_decide_eq_false h1;rw [eb] at this;omega
 obtain ⟨T,hT⟩:∃ T,bl N - (bl M - 1)=T:=⟨_,rfl⟩
 have eT:IntKind.i64.wrap ((bl N:Int) - IntKind.i64.wrap ((bl M:Int) - 1))=(T:Nat):=by rw [eb,i64_in (by omega)];omega
 have hsh:=shifted_r (N:=N) (n:=T) hN (by omega)
 rw [← eT] at hsh
 have hlow:N / 2 ^ T < M:=by
  have h2:N / 2 ^ T < 2 ^ (bl M - 1):=by
   rw [Nat.div_lt_iff_lt_mul (Nat.pow_pos (by omega)),← Nat.pow_add,show bl M - 1+T=bl N by omega]
   exact n1
  omega
 refine .inl ⟨_,hsh,mA_fits _,?_⟩
 refine ⟨fun k f mm=>k≤T∧∃ g:Nat→Nat,(∀ j,j < 32→g j=dg (hiP (N / M) k) j)∧f=[(2,SV.ptr 2 0),(3,SV.ptr 3 0),(4,SV.ptr 4 0),(5,SV.ptr 5 0),(8,SV.c (.int .i64 ((k:Int) - 1)))]∧mm=[(2,Blk.row 55 32 (mA N)),(3,Blk.row 55 32 (mA M)),(4,Blk.row 55 32 (lA g 32)),(5,Blk.row 55 32 (mA (N / 2 ^ k % M)))],T,⟨_,_,⟨Nat.le_refl _,fun _=>0,fun j hj=>?_,rfl,rfl⟩,⟨rfl,rfl,rfl,rfl,c_int (by rw [eT,i64_in (by omega)]),trivial⟩,⟨rfl,rfl,rfl,row_eq (by rw [Nat.mod_eq_of_lt hlow]),trivial⟩,rfl⟩,?_⟩
 ·unfold hiP
  rw [Nat.div_div_eq_div_mul,Nat.mul_comm M,← Nat.div_div_eq_div_mul,Nat.div_eq_of_lt hlow,Nat.zero_mul,dg_zero]
 rintro k f mm ⟨hk,g,hg,rfl,rfl⟩
 refine ⟨fun h2=>?_,fun h2=>?_⟩
 ·have h2:(k:Int) - 1 ≥ 0:=of_decide_eq_true h2
  obtain ⟨i,rfl⟩:∃ i,k=i+1:=⟨k - 1,by omega⟩
  have hi:i < 1024:=by omega
  have ei:IntKind.i64.wrap (Int.tdiv (((i+1:Nat):Int) - 1) 32)=((i / 32:Nat):Int):=by
   rw [show ((i+1:Nat):Int) - 1=(i:Nat) by omega,show (32:Int)=((32:Nat):Int) from rfl,tdiv_nat,i64_nat (by omega)]
  have em:IntKind.u64.wrap (Int.tmod (((i+1:Nat):Int) - 1) 32)=((i % 32:Nat):Int):=by
   rw [show ((i+1:Nat):Int) - 1=(i:Nat) by omega,show (32:Int)=((32:Nat):Int) from rfl,tmod_nat,u64_nat (by omega)]
  have gx:(mA N)[(IntKind.i64.wrap (Int.tdiv (((i+1:Nat):Int) - 1) 32)).toNat]? = some (.int .u32 (dg N (i / 32):Nat)):=by rw [ei];exact mA_get (by omega)
  have gq:(lA g 32)[(IntKind.i64.wrap (Int.tdiv (((i+1:Nat):Int) - 1) 32)).toNat]? = some (.int .u32 (g (i / 32):Nat)):=by rw [ei];exact lA_get g (by omega)
  have hx:=dg_lt N (i / 32)
  rw [BB_eq] at hx
  have ebit:IntKind.u32.wrap (((BitVec.ofInt IntKind.u32.bits (((dg N (i / 32):Nat):Int).fdiv (2 ^ min (Int.toNat (IntKind.u64.wrap (Int.tmod (((i+1:Nat):Int) - 1) 32))) IntKind.u32.bits)) &&& BitVec.ofInt IntKind.u32.bits 1).toNat:Nat):Int)=((N / 2 ^ i % 2:Nat):Int):=by
   rw [em,shr_nat (dg N (i / 32)) (i % 32) (by omega) rfl,show (1:Int)=((1:Nat):Int) from rfl,and32 (Nat.lt_of_le_of_lt (Nat.div_le_self _ _) hx) (by omega),Nat.and_one_is_mod,bit_at]
  have hb:N / 2 ^ i % 2≤1:=by omega
  have hr:N / 2 ^ (i+1) % M < M:=Nat.mod_lt _ hM0
  have hdb:=double_r (N:=N / 2 ^ (i+1) % M) (b:=N / 2 ^ i % 2) (Nat.lt_trans hr hM) hb
  rw [← ebit] at hdb
  have hr2:2*(N / 2 ^ (i+1) % M)+N / 2 ^ i % 2 < 2*M:=by omega
  have hrm:=(bit_r N M i).trans (r2_mod hr2)
  have hqb:=bit_q N M i hM0
  have hgl:g (i / 32) < 4294967296:=by rw [hg _ (by omega)];exact dg_lt _ _
  have evq:IntKind.u32.wrap (((BitVec.ofInt IntKind.u32.bits ((g (i / 32):Nat):Int) ||| BitVec.ofInt IntKind.u32.bits (IntKind.u32.wrap (1*2 ^ min (Int.toNat (IntKind.u64.wrap (Int.tmod (((i+1:Nat):Int) - 1) 32))) IntKind.u32.bits))).toNat:Nat):Int)=((g (i / 32) ||| 2 ^ (i % 32):Nat):Int):=by
   have hp:2 ^ (i % 32) < 4294967296:=Nat.pow_lt_pow_right (by omega) (Nat.mod_lt i (show 0 < 32 by omega))
   have e8:=shl_nat 1 (i % 32) (Nat.mod_lt i (by omega))
   rw [Nat.one_mul,Nat.mod_eq_of_lt hp] at e8
   rw [em,show (1:Int)=((1:Nat):Int) from rfl,e8]
   exact or32 hgl hp
  refine ⟨by decide,by rw [ei];omega,by rw [ei];show ((i / 32:Nat):Int) < 32;omega,_,gx,by decide,by rw [em];omega,.inl ⟨_,hdb,mA_fits _,by kernel_rfl,fun h3=>?_,fun h3=>?_⟩⟩
  ·have h3:2*(N / 2 ^ (i+1) % M)+N / 2 ^ i % 2 < BB ^ 32:=of_decide_eq_true (of_bnf h3)
   refine .inl ⟨_,compare_r (Nat.mod_lt _ (pow_pos' 32)) hM,fun h4=>?_,fun h4=>?_⟩
   ·have hc:=of_decide_eq_true h4
    rw [Nat.mod_eq_of_lt h3] at hc
    have hle:M≤2*(N / 2 ^ (i+1) % M)+N / 2 ^ i % 2:=by
     unfold cmpS at hc
     split at hc
     ·omega
     ·omega
    have e7:=diff_r2 hM hr2 hle
    have hdf:=difference_r (N:=(2*(N / 2 ^ (i+1) % M)+N / 2 ^ i % 2) % BB ^ 32) (Nat.mod_lt _ (pow_pos' 32)) hM
    rw [e7] at hdf
    refine .inl ⟨_,hdf,mA_fits _,by decide,by rw [ei];omega,by rw [ei];show ((i / 32:Nat):Int) < 32;omega,_,gq,by decide,by rw [em];omega,by rw [ei];omega,by rw [ei];show ((i / 32:Nat):Int) < 32;omega,by rw [ei];show i / 32 < 32;omega,rfl,_,lA_put (i:=i / 32) (x:=IntKind.i64.wrap (Int.tdiv (((i+1:Nat):Int) - 1) 32)) ei evq,?_⟩
    refine ⟨i,_,_,by omega,⟨by omega,_,fun j hj=>?_,rfl,rfl⟩,⟨rfl,rfl,rfl,rfl,c_int (by rw [i64_in (by omega)];omega),trivial⟩,⟨rfl,rfl,rfl,row_eq (by rw [hrm,if_pos hle]),trivial⟩,rfl⟩
    rw [hiP_step,hqb,if_pos hle,Nat.one_mul,dg_setbit _ i j (hiP_bit _ i)]
    by_cases e:j=i / 32
    ·subst e;rw [if_pos rfl,if_pos rfl,hg _ hj]
    ·rw [if_neg e,if_neg e,hg j hj]
   ·have hc:=of_decide_eq_false h4
    rw [Nat.mod_eq_of_lt h3] at hc
    have hle:¬ M≤2*(N / 2 ^ (i+1) % M)+N / 2 ^ i % 2:=by
     unfold cmpS at hc
     split at hc
     ·omega
     ·split at hc<;>omega
    refine ⟨i,_,_,by omega,⟨by omega,g,fun j hj=>?_,rfl,rfl⟩,⟨rfl,rfl,rfl,rfl,c_int (by rw [i64_in (by omega)];omega),trivial⟩,⟨rfl,rfl,rfl,row_eq (by rw [hrm,if_neg hle,Nat.mod_eq_of_lt h3]),trivial⟩,rfl⟩
    rw [hiP_step,hqb,if_neg hle,Nat.zero_mul,Nat.add_zero]
    exact hg j hj
  ·have h3:¬ 2*(N / 2 ^ (i+1) % M)+N / 2 ^ i % 2 < BB ^ 32:=of_decide_eq_false (bnt h3)
   have hle:M≤2*(N / 2 ^ (i+1) % M)+N / 2 ^ i % 2:=by omega
   have e7:=diff_r2 hM hr2 hle
   have hdf:=difference_r (N:=(2*(N / 2 ^ (i+1) % M)+N / 2 ^ i % 2) % BB ^ 32) (Nat.mod_lt _ (pow_pos' 32)) hM
   rw [e7] at hdf
   refine ⟨fun _=>.inl ⟨_,hdf,mA_fits _,by decide,by rw [ei];omega,by rw [ei];show ((i / 32:Nat):Int) < 32;omega,_,gq,by decide,by rw [em];omega,by rw [ei];omega,by rw [ei];show ((i / 32:Nat):Int) < 32;omega,by rw [ei];show i / 32 < 32;omega,rfl,_,lA_put (i:=i / 32) (x:=IntKind.i64.wrap (Int.tdiv (((i+1:Nat):Int) - 1) 32)) ei evq,?_⟩,nofun⟩
   refine ⟨i,_,_,by omega,⟨by omega,_,fun j hj=>?_,rfl,rfl⟩,⟨rfl,rfl,rfl,rfl,c_int (by rw [i64_in (by omega)];omega),trivial⟩,⟨rfl,rfl,rfl,row_eq (by rw [hrm,if_pos hle]),trivial⟩,rfl⟩
   rw [hiP_step,hqb,if_pos hle,Nat.one_mul,dg_setbit _ i j (hiP_bit _ i)]
   by_cases e:j=i / 32
   ·subst e;rw [if_pos rfl,if_pos rfl,hg _ hj]
   ·rw [if_neg e,if_neg e,hg j hj]
 ·have h2:k=0:=by have:=of_decide_eq_false h2;omega
  subst h2
  have hA:lA g 32=mA (N / M):=lA_congr fun j hj=>by rw [hg j hj,hiP_zero]
  refine ⟨lA_fits _ _,mA_fits _,by kernel_rfl,?_,trivial⟩
  rw [hA,Nat.pow_zero,Nat.div_one];rfl
theorem one32:(lA (fun _=>0) 32).setIfInBounds 0 (.int .u32 1)=mA 1:=by
 rw [show (1:Int)=((1:Nat):Int) from rfl,lA_set]
 refine lA_congr fun i hi=>?_
 by_cases h:i=0
 ·subst h;rfl
 ·rw [if_neg h]
  have:dg 1 i=0:=dg_of_lt (n:=1) (by decide) (by omega)
  exact this.symm
theorem divmod_r {A B:Array Value} {x y:Int} (hA:IsI A x) (hB:IsI B y) (hy:y≠0):Pure Tryz.prog 109 [SV.c (.agg A),SV.c (.agg B)] (.tuple #[.agg (eA (x / y)),.agg (eA (x % y)),.int .i64 0]):=by
 have hx:=hA.lt
 have hyl:=hB.lt
 have hall:=dm_all x y hy
 obtain ⟨a,N,hN,rfl,ex⟩:=hA.raw
 obtain ⟨b,M,hM,rfl,ey⟩:=hB.raw
 have eN:x.natAbs=N:=by rw [ex,zN_abs]
 have eM:y.natAbs=M:=by rw [ey,zN_abs]
 rw [eN,eM] at hall
 have hM0:0 < M:=by omega
 have hb:decide (y < 0)=b:=by
  rw [ey];cases b
  ·simp [zN]
  ·simp [zN];omega
 have ha:N≠0→decide (x < 0)=a:=fun h=>by
  rw [ex];cases a
  ·simp [zN]
  ·simp [zN];omega
 refine sx_pureC [9] tt_ok mixed at109 _ _ rfl rfl fun w=>?_
 have hql:N / M < BB ^ 32:=Nat.lt_of_le_of_lt (Nat.div_le_self _ _) hN
 have hrl:N % M < M:=Nat.mod_lt _ hM0
 have hrb:N % M < BB ^ 32:=Nat.lt_trans hrl hM
 refine ⟨iA_size _ _,iA_size _ _,by decide,_,iA_mag,.inl ⟨_,zero_r hM,fun h=>?_,fun h=>?_⟩⟩
 ·exfalso
  have:=of_decide_eq_true h
  omega
 refine ⟨by decide,_,iA_mag,by decide,_,iA_mag,.inl ⟨_,divide_r hN hM hM0,mA_fits _,mA_fits _,?_⟩⟩
 have fin:∀ q,(q=0→N=0∨True)→True:=fun _ _=>trivial
 refine ⟨fun f mm=>∃ q r:Nat,q < BB ^ 32∧r < BB ^ 32∧x / y=zN (a != b) q∧x % y=r∧f=[(2,SV.ptr 2 0),(3,SV.ptr 3 0),(4,SV.ptr 4 0),(5,SV.ptr 5 0),(7,SV.ptr 7 0),(8,SV.ptr 8 0)]∧mm=[(2,Blk.row 57 33 (iA a N)),(3,Blk.row 57 33 (iA b M)),(4,Blk.row 57 33 ti57.zero),(5,Blk.row 57 33 ti57.zero),(7,Blk.row 55 32 (mA q)),(8,Blk.row 55 32 (mA r))],⟨_,iA_neg,fun h1=>.inl ⟨_,zero_r hrb,fun h2=>?_,fun h2=>?_⟩,fun h1=>⟨nofun,fun _=>?_⟩⟩,?_⟩
 ·have h1:a=true:=h1
  have h2:N % M≠0:=of_decide_eq_false (bnt h2)
  have hn0:N≠0:=by intro e;rw [e,Nat.zero_mod] at h2;exact h2 rfl
  have hxa:=ha hn0
  rw [h1] at hxa
  rw [if_pos ⟨of_decide_eq_true hxa,h2⟩,hxa,hb] at hall
  have hql2:N / M+1 < BB ^ 32:=by
   have hb2:2≤M:=by
    rcases Nat.lt_or_ge M 2 with h | h
    ·have:M=1:=by omega
     rw [this,Nat.mod_one] at h2;exact absurd rfl h2
    ·exact h
   have h3:N / M≤N / 2:=Nat.div_le_div_left hb2 (by omega)
   have h4:4≤BB ^ 32:=Nat.le_trans (by omega) two64
   omega
  have hd:=difference_r hM hrb
  rw [diff_sub hM (Nat.le_of_lt hrl)] at hd
  have hs:=sum_r hql (Nat.lt_of_lt_of_le (by omega:1 < 18446744073709551616) two64)
  refine ⟨by decide,_,iA_mag,.inl ⟨_,hd,mA_fits _,by decide,by decide,by decide,rfl,_,one32,.inl ⟨_,hs,mA_fits _,_,_,⟨N / M+1,_,hql2,Nat.lt_of_le_of_lt (Nat.sub_le _ _) hM,by rw [h1];exact hall.1,hall.2,rfl,rfl⟩,⟨rfl,rfl,rfl,rfl,rfl,rfl,trivial⟩,⟨rfl,rfl,rfl,rfl,row_eq (by rw [Nat.mod_eq_of_lt hql2]),rfl,trivial⟩,rfl⟩⟩⟩
 ·have h1:a=true:=h1
  have h2:N % M=0:=of_decide_eq_true (bnf h2)
  rw [if_neg (fun h=>h.2 h2)] at hall
  refine ⟨_,_,⟨_,_,hql,hrb,?_,hall.2,rfl,rfl⟩,⟨rfl,rfl,rfl,rfl,rfl,rfl,trivial⟩,⟨rfl,rfl,rfl,rfl,rfl,rfl,trivial⟩,rfl⟩
  rw [hall.1,hb]
  by_cases hn0:N=0
  ·rw [hn0,Nat.zero_div];unfold zN;split<;>split<;>rfl
  ·rw [ha hn0]
 ·have h1:a=false:=h1
  have hx0:¬ x < 0:=by rw [ex,h1];simp [zN]
  rw [if_neg (fun h=>hx0 h.1),hb,decide_eq_false hx0] at hall
  exact ⟨_,_,⟨_,_,hql,hrb,by rw [h1];exact hall.1,hall.2,rfl,rfl⟩,⟨rfl,rfl,rfl,rfl,rfl,rfl,trivial⟩,⟨rfl,rfl,rfl,rfl,rfl,rfl,trivial⟩,rfl⟩
 ·rintro f mm ⟨q,r,hq,hr,e1,e2,rfl,rfl⟩
  have m1:=canon_r (a != b) hq
  have m2:=canon_r false hr
  rw [← e1] at m1
  rw [show zN false r=x % y from e2.symm] at m2
  exact ⟨_,iA_neg,_,iA_neg,.inl ⟨_,m1,.inl ⟨_,m2,eA_fits _,eA_fits _,by kernel_rfl,rfl,trivial⟩⟩⟩
theorem gcd_r {A B:Array Value} {x y:Int} (hA:IsI A x) (hB:IsI B y):Pure Tryz.prog 161 [SV.c (.agg A),SV.c (.agg B)] (.agg (eA ((Int.gcd x y:Nat):Int))):=by
 obtain ⟨a,N,hN,rfl,rfl⟩:=hA.raw
 obtain ⟨b,M,hM,rfl,rfl⟩:=hB.raw
 rw [gcd_zN]
 refine sx_pure tt_ok mixed at161 _ _ rfl rfl fun w=>?_
 refine ⟨iA_size _ _,iA_size _ _,by decide,_,iA_mag,by decide,_,iA_mag,mA_fits _,mA_fits _,by kernel_rfl,?_⟩
 refine ⟨fun q f mm=>∃ u:Nat,u < BB ^ 32∧q < BB ^ 32∧Nat.gcd u q=Nat.gcd N M∧f=[(4,SV.ptr 4 0),(5,SV.ptr 5 0),(6,SV.ptr 6 0)]∧mm=[(4,Blk.row 57 33 ti57.zero),(5,Blk.row 55 32 (mA u)),(6,Blk.row 55 32 (mA q))],_,⟨_,_,⟨_,hN,hM,rfl,rfl,rfl⟩,⟨rfl,rfl,rfl,trivial⟩,⟨rfl,rfl,rfl,trivial⟩,rfl⟩,?_⟩
 rintro q f mm ⟨u,ha,hq,hg,rfl,rfl⟩
 refine .inl ⟨_,zero_r hq,fun h=>?_,fun h=>?_⟩
 ·have hq0:0 < q:=by
    have:q≠0:=of_decide_eq_false (bnt h)
    omega
  have hr:=Nat.mod_lt u hq0
  exact .inl ⟨_,divide_r ha hq hq0,mA_fits _,mA_fits _,mA_fits _,mA_fits _,by kernel_rfl,u % q,_,_,hr,⟨_,hq,Nat.lt_trans hr hq,by rw [← hg,Nat.gcd_comm u q,Nat.gcd_rec q u,Nat.gcd_comm],rfl,rfl⟩,⟨rfl,rfl,rfl,trivial⟩,⟨rfl,rfl,rfl,trivial⟩,rfl⟩
 ·have hq0:q=0:=of_decide_eq_true (bnf h)
  subst hq0
  have m1:=canon_r false ha
  rw [Nat.gcd_zero_right] at hg
  rw [show zN false u=((Nat.gcd N M:Nat):Int) by rw [← hg];rfl] at m1
  exact .inl ⟨_,m1,eA_fits _,rfl,trivial⟩
end Go.Proofs.YtkaakbpeegpnkaaGreatDoor
