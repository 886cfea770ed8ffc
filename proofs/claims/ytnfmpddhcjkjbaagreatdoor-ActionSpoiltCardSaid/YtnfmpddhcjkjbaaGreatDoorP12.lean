/- walks: quotients. walks: quotients of whole numbers, the greatest common divisor, small numbers; no condition. -/
import Derived.Test.YtnfmpddhcjkjbaaGreatDoorP11
set_option maxRecDepth 100000
set_option maxHeartbeats 4000000
namespace Go.Proofs.YtnfmpddhcjkjbaaGreatDoor
open Go Go.RowKit Go.SX
theorem lz32_pure (x:Nat) (hx:x < BB):Pure Tryz.prog 149 [SV.c (.int .u32 x)] (.int .i64 ((32 - bl x:Nat):Int)):=by
 refine sx_pure tt_ok mixed at149 _ _ rfl rfl fun w=>?_
 have h:bl x≤32:=bl_le (k:=32) hx
 exact .inl ⟨_,len32_pure x hx,iv (by rw [i64_in (by omega)];omega),trivial⟩
theorem norm {M n:Nat} (hu:IsUsed M n) (hn:1≤n):∃ s,32 - bl (dg M (n - 1))=s∧s < 32∧M*2 ^ s < BB ^ n∧2147483648≤dg (M*2 ^ s) (n - 1):=by
 obtain ⟨h1,h2⟩:=bl_limbs hu hn
 have h3:bl (dg M (n - 1))≤32:=bl_le (k:=32) (dg_lt _ _)
 obtain ⟨h4,h5⟩:=bl_bits M
 have h5:=h5 (by omega)
 rw [h1] at h4 h5
 generalize bl (dg M (n - 1))=b at *
 have hV:M*2 ^ (32 - b) < BB ^ n:=by
  rw [BB_pow,show 32*n=(32*(n - 1)+b)+(32 - b) by omega,Nat.pow_add]
  exact Nat.mul_lt_mul_of_pos_right h4 (Nat.pow_pos (by omega))
 refine ⟨32 - b,rfl,by omega,hV,?_⟩
 rw [dg_top' hV hn,Nat.le_div_iff_mul_le (pow_pos' _),BB_pow,show 2147483648=2 ^ 31 from rfl,← Nat.pow_add,show 31+32*(n - 1)=(32*(n - 1)+b - 1)+(32 - b) by omega,Nat.pow_add]
 exact Nat.mul_le_mul_right _ h5
abbrev z0:Nat→Nat:=fun _=>0
abbrev dF (n m s:Nat) (x:FrmL):FrmL:=(0,SV.ptr 1000 0) :: (1,SV.ptr 1001 0) :: (4,SV.ptr 4 0) :: (5,SV.ptr 5 0) :: (6,SV.c (.int .i64 n)) :: (7,SV.c (.int .i64 m)) :: (8,SV.c (.int .i64 s)) :: (9,SV.ptr 9 0) :: (10,SV.ptr 10 0) :: x
abbrev dR (N M:Nat) (q r u v:Nat→Nat):MemL:=[(1000,Blk.row 121 32 (mA N)),(1001,Blk.row 121 32 (mA M)),(4,Blk.row 121 32 (lA q 32)),(5,Blk.row 121 32 (lA r 32)),(9,Blk.row 167 33 (lA u 33)),(10,Blk.row 121 32 (lA v 32))]
abbrev dM (N M:Nat) (q u v:Nat→Nat):MemL:=[(1000,Blk.row 121 32 (mA N)),(1001,Blk.row 121 32 (mA M)),(4,Blk.row 121 32 (lA q 32)),(5,Blk.row 121 32 (lA z0 32)),(9,Blk.row 167 33 (lA u 33)),(10,Blk.row 121 32 (lA v 32))]
theorem lA_put' {G:Nat→Nat} {n i v:Nat} {F:Nat→Nat} {x y:Int} (hx:x=(i:Nat)) (hy:y=(v:Nat)) (h:∀ k,k < n→F k=if k=i then v else G k):(lA G n).setIfInBounds x.toNat (.int .u32 y)=lA F n:=by
 rw [lA_put hx hy];exact lA_congr fun k hk=>(h k hk).symm
theorem shl_nat (a s:Nat) (hs:s < 32):IntKind.u32.wrap ((a:Int)*2 ^ min (Int.toNat (s:Int)) IntKind.u32.bits)=((a*2 ^ s % 4294967296:Nat):Int):=by
 have e:min (Int.toNat (s:Int)) IntKind.u32.bits=s:=by
  show min (Int.toNat (s:Int)) 32=s
  rw [Int.toNat_natCast];omega
 rw [e,u32_wrap]
 have:(a:Int)*2 ^ s=((a*2 ^ s:Nat):Int):=by simp
 rw [this]
 omega
theorem shr_nat (a s:Nat) (hs:s≤32) {x:Int} (hx:x=(s:Nat)):((a:Int)).fdiv (2 ^ min (Int.toNat x) IntKind.u32.bits)=((a / 2 ^ s:Nat):Int):=by
 subst hx
 have e:min (Int.toNat (s:Int)) IntKind.u32.bits=s:=by
  show min (Int.toNat (s:Int)) 32=s
  rw [Int.toNat_natCast];omega
 rw [e];exact sh_nat a s
theorem hilo' {h l:Nat} {x y:Int} (hh:h < BB) (hl:l < BB) (hx:x=IntKind.u64.wrap ((h:Int)*2 ^ min (Int.toNat 32) IntKind.u64.bits)) (hy:y=IntKind.u64.wrap (l:Int)) :
    IntKind.u64.wrap (((BitVec.ofInt IntKind.u64.bits x ||| BitVec.ofInt IntKind.u64.bits y).toNat:Nat):Int)=((h*BB+l:Nat):Int):=by
 refine hilo hh hl ?_ hy
 rw [hx,u64_in (x:=(h:Int)) (by rw [BB_eq] at hh;omega)]
theorem mul_u64 {g x:Nat} (hg:g≤4294967295) (hx:x < BB):IntKind.u64.wrap ((g:Int)*x)=((g*x:Nat):Int):=by
 have h1:g*x≤4294967295*4294967295:=Nat.mul_le_mul hg (by rw [BB_eq] at hx;omega)
 have e:((g:Int)*x)=((g*x:Nat):Int):=by simp
 rw [e,u64_in (by omega)]
theorem divide_own {N M:Nat} (hN:N < BB ^ 32) (hM:M < BB ^ 32) (hM0:0 < M) (E:Env) (hE:E.P=Tryz.prog) (d e:Key) (hde:d≠e):Own E 122 [SV.ptr d 0,SV.ptr e 0] [(d,Blk.row 121 32 (mA N)),(e,Blk.row 121 32 (mA M))] (SV.c (.tuple #[.agg (mA (N / M)),.agg (mA (N % M))])) [(d,Blk.row 121 32 (mA N)),(e,Blk.row 121 32 (mA M))]:=by
 obtain ⟨n,hn,hu⟩:=used_ex hM
 obtain ⟨m,hm,hv⟩:=used_ex hN
 have hn0:1≤n:=by
  rcases Nat.eq_zero_or_pos n with e | e
  ·subst e;have:=hu.1;simp at this;omega
  ·exact e
 refine sx_ownC2 [13,17,22,19,24,34,53,54,60] tt_ok mixed at122 E hE d e hde (121,32,mA N,mA N) (121,32,mA M,mA M) [SV.ptr 1000 0,SV.ptr 1001 0] _ rfl rfl fun w b b' hO=>?_
 refine .inr ⟨_,_,_,used_own hu hM _ rfl _,⟨rfl,trivial⟩,rfl,.inr ⟨_,_,_,used_own hv hN _ rfl _,⟨rfl,trivial⟩,rfl,.inr ⟨_,_,_,compare_own hN hM _ rfl _ _ (by decide),⟨rfl,rfl,trivial⟩,rfl,fun h1=>?_,fun h1=>⟨fun h2=>?_,fun h2=>?_⟩⟩⟩⟩
 ·rw [cmpS_neg] at h1
  have hlt:=of_decide_eq_true h1
  rw [Nat.div_eq_of_lt hlt,Nat.mod_eq_of_lt hlt]
  exact ⟨mA 0,some_eq mA_zero,mA_fits _,mA_fits _,rfl,rfl,rfl,trivial⟩
 ·have h3:n=1:=by have:(n:Int)=1:=by simpa using h2
                  omega
  subst h3
  have hMB:M < BB:=by simpa using hu.1
  have e0:dg M 0=M:=by simp only [dg,Nat.pow_zero,Nat.div_one];exact Nat.mod_eq_of_lt hMB
  have hg:(mA M)[0]? = some (.int .u32 (M:Nat)):=by rw [mA_get (by omega),e0]
  refine ⟨mA_fits _,by decide,by decide,_,hg,.inr ⟨_,_,_,short_own hN hMB hM0 _ rfl _,⟨rfl,trivial⟩,rfl,by decide,by decide,by decide,rfl,mA (N % M),?_,mA_fits _,mA_fits _,by kernel_rfl,rfl,rfl,rfl,trivial⟩⟩
  have hr:N % M < BB:=Nat.lt_trans (Nat.mod_lt _ hM0) hMB
  refine Eq.trans (lA_put' (G:=z0) (n:=32) (i:=0) (v:=N % M) (F:=dg (N % M)) (x:=0) rfl rfl fun k hk=>?_) rfl
  by_cases hk0:k=0
  ·subst hk0;rw [if_pos rfl];simp only [dg,Nat.pow_zero,Nat.div_one];exact Nat.mod_eq_of_lt hr
  ·rw [if_neg hk0];exact dg_of_lt (n:=1) (by simpa using hr) (by omega)
 ·have hNM:M≤N:=by
    have:=of_decide_eq_false h1
    unfold cmpS at this
    by_cases h:N < M
    ·simp [h] at this
    ·omega
  have hn2:2≤n:=by
   have:n≠1:=by intro h;subst h;simp at h2
   omega
  have hnm:n≤m:=by
   have h5:=hu.2 (by omega)
   have h6:BB ^ (n - 1) < BB ^ m:=by have:=hv.1;omega
   have:=(Nat.pow_lt_pow_iff_right BB_one).1 h6
   omega
  obtain ⟨s,hs,hs32,hV,htop⟩:=norm hu hn0
  obtain ⟨V,hVd⟩:∃ V,M*2 ^ s=V:=⟨_,rfl⟩
  obtain ⟨U,hUd⟩:∃ U,N*2 ^ s=U:=⟨_,rfl⟩
  rw [hVd] at hV htop
  have e1:IntKind.i64.wrap ((n:Int) - 1)=((n - 1:Nat):Int):=by rw [i64_in (by omega)];omega
  have hg:(mA M)[(IntKind.i64.wrap ((n:Int) - 1)).toNat]? = some (.int .u32 (dg M (n - 1):Nat)):=by rw [e1];exact mA_get (by omega)
  have hlz:=lz32_pure _ (dg_lt M (n - 1))
  rw [hs] at hlz
  have vd:∀ k,k < n→dg V k=(dg M k*2 ^ s) % 4294967296 ||| (if 0 < k∧0 < s then dg M (k - 1) / 2 ^ (32 - s) else 0):=fun k _=>by rw [← hVd];exact dg_shl M s k hs32
  have es:IntKind.i64.wrap ((32:Int) - (s:Nat))=((32 - s:Nat):Int):=by rw [i64_in (by omega)];omega
  refine ⟨by rw [e1];omega,by rw [e1];show ((n - 1:Nat):Int) < 32;omega,_,hg,.inl ⟨_,hlz,?_⟩⟩
  refine ⟨fun f mm=>f=dF n m s []∧mm=dM N M z0 z0 (dg V),?_,?_⟩
  · -- the divisor is shifted
   refine ⟨fun k f mm=>k≤n∧f=dF n m s [(11,SV.c (.int .i64 ((k:Int) - 1)))]∧mm=dM N M z0 z0 (fun i=>if i < k then 0 else dg V i),n,⟨_,_,⟨Nat.le_refl _,rfl,rfl⟩,⟨rfl,rfl,rfl,rfl,rfl,rfl,rfl,rfl,rfl,c_int (i64_in (by omega)),trivial⟩,⟨rfl,rfl,rfl,rfl,rfl,row_eq ?_,trivial⟩,rfl⟩,?_⟩
   ·refine (show lA z0 32=_ from lA_congr fun i hi=>?_)
    by_cases h:i < n
    ·rw [if_pos h]
    ·rw [if_neg h,dg_of_lt hV (by omega)]
   rintro k f mm ⟨hk,rfl,rfl⟩
   refine ⟨fun h=>?_,fun h=>?_⟩
   ·have h1:(k:Int) - 1 ≥ 0:=of_decide_eq_true h
    obtain ⟨j,rfl⟩:∃ j,k=j+1:=⟨k - 1,by omega⟩
    have ej:((j+1:Nat):Int) - 1=(j:Nat):=by omega
    have h32:((j+1:Nat):Int) - 1 < 32:=by omega
    have h33:(((j+1:Nat):Int) - 1).toNat < 32:=by omega
    have hg:(mA M)[(((j+1:Nat):Int) - 1).toNat]? = some (.int .u32 (dg M j:Nat)):=by rw [ej,Int.toNat_natCast];exact mA_get (by omega)
    have hA:=lA_put (G:=fun i=>if i < j+1 then 0 else dg V i) (n:=32) ej (shl_nat (dg M j) s hs32)
    refine ⟨fun f mm=>f=dF n m s [(11,SV.c (.int .i64 (j:Nat)))]∧mm=dM N M z0 z0 (fun i=>if i < j then 0 else dg V i),⟨h1,h32,_,hg,by omega,h1,h32,h33,rfl,_,hA,?_⟩,?_⟩
    ·have hlast:∀ F:Nat→Nat,(¬ (0 < j∧0 < s))→lA (fun k=>if k=j then dg M j*2 ^ s % 4294967296 else if k < j+1 then 0 else dg V k) 32=lA (fun i=>if i < j then 0 else dg V i) 32:=fun _ hno=>lA_congr fun i hi=>by
       by_cases e:i=j
       ·subst e;rw [if_pos rfl,if_neg (by omega),vd i (by omega),if_neg hno,Nat.or_zero]
       ·by_cases e2:i < j
        ·rw [if_neg e,if_pos (by omega),if_pos e2]
        ·rw [if_neg e,if_neg (by omega),if_neg e2]
     refine ⟨fun h4=>⟨fun h5=>?_,fun h5=>?_⟩,fun h4=>⟨nofun,fun _=>?_⟩⟩
     ·have h4:((j+1:Nat):Int) - 1 > 0:=of_decide_eq_true h4
      have h5:(s:Int) > 0:=of_decide_eq_true h5
      have e2:IntKind.i64.wrap (((j+1:Nat):Int) - 1 - 1)=((j - 1:Nat):Int):=by rw [i64_in (by omega)];omega
      have g1:(lA (fun k=>if k=j then dg M j*2 ^ s % 4294967296 else if k < j+1 then 0 else dg V k) 32)[(((j+1:Nat):Int) - 1).toNat]? = some (.int .u32 (dg M j*2 ^ s % 4294967296:Nat)):=by rw [ej,Int.toNat_natCast,lA_get _ (by omega),if_pos rfl]
      have g2:(mA M)[(IntKind.i64.wrap (((j+1:Nat):Int) - 1 - 1)).toNat]? = some (.int .u32 (dg M (j - 1):Nat)):=by rw [e2,Int.toNat_natCast];exact mA_get (by omega)
      have hd:dg M (j - 1) / 2 ^ (32 - s) < 4294967296:=Nat.lt_of_le_of_lt (Nat.div_le_self _ _) (dg_lt _ _)
      refine ⟨h1,h32,_,g1,by rw [e2];omega,by rw [e2];show ((j - 1:Nat):Int) < 32;omega,_,g2,by rw [es];omega,h1,h32,h33,rfl,_,lA_put' ej (v:=dg V j) (F:=fun i=>if i < j then 0 else dg V i) ?_ ?_,by kernel_rfl,_,_,⟨rfl,rfl⟩,⟨rfl,rfl,rfl,rfl,rfl,rfl,rfl,rfl,rfl,c_int ej,trivial⟩,⟨rfl,rfl,rfl,rfl,rfl,rfl,trivial⟩,rfl⟩
      ·rw [shr_nat _ (32 - s) (by omega) es,or32 (by omega) hd,vd j (by omega),if_pos (by omega)]
      ·intro k hk
       by_cases e:k=j
       ·subst e;rw [if_neg (by omega),if_pos rfl]
       ·by_cases e3:k < j
        ·rw [if_pos e3,if_neg e,if_neg e,if_pos (by omega)]
        ·rw [if_neg e3,if_neg e,if_neg e,if_neg (by omega)]
     ·have h5:¬ (s:Int) > 0:=of_decide_eq_false h5
      exact ⟨_,_,⟨rfl,rfl⟩,⟨rfl,rfl,rfl,rfl,rfl,rfl,rfl,rfl,rfl,c_int ej,trivial⟩,⟨rfl,rfl,rfl,rfl,rfl,row_eq (hlast z0 (by omega)),trivial⟩,rfl⟩
     ·have h4:¬ ((j+1:Nat):Int) - 1 > 0:=by
        exact of_decide_eq_false h4
      exact ⟨_,_,⟨rfl,rfl⟩,⟨rfl,rfl,rfl,rfl,rfl,rfl,rfl,rfl,rfl,c_int ej,trivial⟩,⟨rfl,rfl,rfl,rfl,rfl,row_eq (hlast z0 (by omega)),trivial⟩,rfl⟩
    ·rintro f mm ⟨rfl,rfl⟩
     exact ⟨j,_,_,by omega,⟨by omega,rfl,rfl⟩,⟨rfl,rfl,rfl,rfl,rfl,rfl,rfl,rfl,rfl,c_int (i64_in (by omega)),trivial⟩,⟨rfl,rfl,rfl,rfl,rfl,rfl,trivial⟩,rfl⟩
   ·have h1:¬ ((k:Int) - 1 ≥ 0):=of_decide_eq_false h
    obtain rfl:k=0:=by omega
    exact ⟨_,_,⟨rfl,rfl⟩,⟨rfl,rfl,rfl,rfl,rfl,rfl,rfl,rfl,rfl,trivial⟩,⟨rfl,rfl,rfl,rfl,rfl,row_eq (lA_congr fun i hi=>by simp),trivial⟩,rfl⟩
  rintro f mm ⟨rfl,rfl⟩
  have hUm:U < BB ^ (m+1):=by
   rw [← hUd,Nat.pow_succ]
   exact Nat.lt_of_lt_of_le (Nat.mul_lt_mul_of_pos_right hv.1 (Nat.pow_pos (by omega))) (Nat.mul_le_mul_left _ (by rw [show BB=2 ^ 32 from rfl];exact Nat.pow_le_pow_right (by omega) (by omega)))
  have ud:∀ k,dg U k=(dg N k*2 ^ s) % 4294967296 ||| (if 0 < k∧0 < s then dg N (k - 1) / 2 ^ (32 - s) else 0):=fun k=>by rw [← hUd];exact dg_shl N s k hs32
  refine ⟨fun f mm=>f=dF n m s []∧mm=dM N M z0 (dg U) (dg V),?_,?_⟩
  · -- the dividend is shifted
   refine ⟨fun k f mm=>k≤m+1∧f=dF n m s [(12,SV.c (.int .i64 ((k:Int) - 1)))]∧mm=dM N M z0 (fun i=>if i < k then 0 else dg U i) (dg V),m+1,⟨_,_,⟨Nat.le_refl _,rfl,rfl⟩,⟨rfl,rfl,rfl,rfl,rfl,rfl,rfl,rfl,rfl,c_int (by omega),trivial⟩,⟨rfl,rfl,rfl,rfl,row_eq ?_,rfl,trivial⟩,rfl⟩,?_⟩
   ·refine (show lA z0 33=_ from lA_congr fun i hi=>?_)
    by_cases h:i < m+1
    ·rw [if_pos h]
    ·rw [if_neg h,dg_of_lt hUm (by omega)]
   rintro k f mm ⟨hk,rfl,rfl⟩
   refine ⟨fun h=>?_,fun h=>?_⟩
   ·have h1:(k:Int) - 1 ≥ 0:=of_decide_eq_true h
    obtain ⟨j,rfl⟩:∃ j,k=j+1:=⟨k - 1,by omega⟩
    have ej:((j+1:Nat):Int) - 1=(j:Nat):=by omega
    have h32:((j+1:Nat):Int) - 1 < 33:=by omega
    have h33:(((j+1:Nat):Int) - 1).toNat < 33:=by omega
    refine ⟨fun f mm=>f=dF n m s [(12,SV.c (.int .i64 (j:Nat)))]∧mm=dM N M z0 (fun i=>if i < j then 0 else dg U i) (dg V),?_,?_⟩
    ·refine ⟨fun f mm=>f=dF n m s [(12,SV.c (.int .i64 (j:Nat)))]∧mm=dM N M z0 (fun k=>if k=j then dg N j*2 ^ s % 4294967296 else if k < j+1 then 0 else dg U k) (dg V),⟨fun h4=>?_,fun h4=>?_⟩,?_⟩
     ·have h4:((j+1:Nat):Int) - 1 < m:=of_decide_eq_true h4
      have hg:(mA N)[(((j+1:Nat):Int) - 1).toNat]? = some (.int .u32 (dg N j:Nat)):=by rw [ej,Int.toNat_natCast];exact mA_get (by omega)
      have hA:=lA_put (G:=fun i=>if i < j+1 then 0 else dg U i) (n:=33) ej (shl_nat (dg N j) s hs32)
      exact ⟨h1,by show ((j+1:Nat):Int) - 1 < 32;omega,_,hg,by omega,h1,h32,h33,rfl,_,hA,_,_,⟨rfl,rfl⟩,⟨rfl,rfl,rfl,rfl,rfl,rfl,rfl,rfl,rfl,c_int ej,trivial⟩,⟨rfl,rfl,rfl,rfl,rfl,rfl,trivial⟩,rfl⟩
     ·have h4:¬ (((j+1:Nat):Int) - 1 < m):=of_decide_eq_false h4
      have hjm:j=m:=by omega
      refine ⟨_,_,⟨rfl,rfl⟩,⟨rfl,rfl,rfl,rfl,rfl,rfl,rfl,rfl,rfl,c_int ej,trivial⟩,⟨rfl,rfl,rfl,rfl,row_eq (lA_congr fun i hi=>?_),rfl,trivial⟩,rfl⟩
      by_cases e:i=j
      ·rw [if_pos e,if_pos (by omega),hjm,dg_of_lt hv.1 (Nat.le_refl _),Nat.zero_mul,Nat.zero_mod]
      ·rw [if_neg e]
     rintro f mm ⟨rfl,rfl⟩
     have hlast:(¬ (0 < j∧0 < s))→lA (fun k=>if k=j then dg N j*2 ^ s % 4294967296 else if k < j+1 then 0 else dg U k) 33=lA (fun i=>if i < j then 0 else dg U i) 33:=fun hno=>lA_congr fun i hi=>by
      by_cases e:i=j
      ·subst e;rw [if_pos rfl,if_neg (by omega),ud i,if_neg hno,Nat.or_zero]
      ·by_cases e2:i < j
       ·rw [if_neg e,if_pos (by omega),if_pos e2]
       ·rw [if_neg e,if_neg (by omega),if_neg e2]
     have j33:(j:Int) < 33:=by omega
     refine ⟨fun h4=>⟨fun h5=>?_,fun h5=>?_⟩,fun h4=>⟨nofun,fun _=>?_⟩⟩
     ·have h4:(j:Int) > 0:=of_decide_eq_true h4
      have h5:(s:Int) > 0:=of_decide_eq_true h5
      have e2:IntKind.i64.wrap ((j:Int) - 1)=((j - 1:Nat):Int):=by rw [i64_in (by omega)];omega
      have g1:(lA (fun k=>if k=j then dg N j*2 ^ s % 4294967296 else if k < j+1 then 0 else dg U k) 33)[j]? = some (.int .u32 (dg N j*2 ^ s % 4294967296:Nat)):=by rw [lA_get _ (by omega),if_pos rfl]
      have g2:(mA N)[(IntKind.i64.wrap ((j:Int) - 1)).toNat]? = some (.int .u32 (dg N (j - 1):Nat)):=by rw [e2,Int.toNat_natCast];exact mA_get (by omega)
      have hd:dg N (j - 1) / 2 ^ (32 - s) < 4294967296:=Nat.lt_of_le_of_lt (Nat.div_le_self _ _) (dg_lt _ _)
      refine ⟨by omega,j33,_,g1,by rw [e2];omega,by rw [e2];show ((j - 1:Nat):Int) < 32;omega,_,g2,by rw [es];omega,by omega,j33,by show j < 33;omega,rfl,_,lA_put' (i:=j) (x:=(j:Int)) rfl (v:=dg U j) (F:=fun i=>if i < j then 0 else dg U i) ?_ ?_,by kernel_rfl,_,_,⟨rfl,rfl⟩,⟨rfl,rfl,rfl,rfl,rfl,rfl,rfl,rfl,rfl,rfl,trivial⟩,⟨rfl,rfl,rfl,rfl,rfl,rfl,trivial⟩,rfl⟩
      ·rw [shr_nat _ (32 - s) (by omega) es,or32 (by omega) hd,ud j,if_pos (by omega)]
      ·intro k hk
       by_cases e:k=j
       ·subst e;rw [if_neg (by omega),if_pos rfl]
       ·by_cases e3:k < j
        ·rw [if_pos e3,if_neg e,if_neg e,if_pos (by omega)]
        ·rw [if_neg e3,if_neg e,if_neg e,if_neg (by omega)]
     ·have h5:¬ (s:Int) > 0:=of_decide_eq_false h5
      exact ⟨_,_,⟨rfl,rfl⟩,⟨rfl,rfl,rfl,rfl,rfl,rfl,rfl,rfl,rfl,rfl,trivial⟩,⟨rfl,rfl,rfl,rfl,row_eq (hlast (by omega)),rfl,trivial⟩,rfl⟩
     ·have h4:¬ (j:Int) > 0:=of_decide_eq_false h4
      exact ⟨_,_,⟨rfl,rfl⟩,⟨rfl,rfl,rfl,rfl,rfl,rfl,rfl,rfl,rfl,rfl,trivial⟩,⟨rfl,rfl,rfl,rfl,row_eq (hlast (by omega)),rfl,trivial⟩,rfl⟩
    ·rintro f mm ⟨rfl,rfl⟩
     exact ⟨j,_,_,by omega,⟨by omega,rfl,rfl⟩,⟨rfl,rfl,rfl,rfl,rfl,rfl,rfl,rfl,rfl,c_int (i64_in (by omega)),trivial⟩,⟨rfl,rfl,rfl,rfl,rfl,rfl,trivial⟩,rfl⟩
   ·have h1:¬ ((k:Int) - 1 ≥ 0):=of_decide_eq_false h
    obtain rfl:k=0:=by omega
    exact ⟨_,_,⟨rfl,rfl⟩,⟨rfl,rfl,rfl,rfl,rfl,rfl,rfl,rfl,rfl,trivial⟩,⟨rfl,rfl,rfl,rfl,row_eq (lA_congr fun i hi=>by simp),rfl,trivial⟩,rfl⟩
  rintro f mm ⟨rfl,rfl⟩
  have e2n:IntKind.i64.wrap ((n:Int) - 2)=((n - 2:Nat):Int):=by rw [i64_in (by omega)];omega
  have v1:(lA (dg V) 32)[(IntKind.i64.wrap ((n:Int) - 1)).toNat]? = some (.int .u32 (dg V (n - 1):Nat)):=by rw [e1,Int.toNat_natCast];exact lA_get _ (by omega)
  have v2:(lA (dg V) 32)[(IntKind.i64.wrap ((n:Int) - 2)).toNat]? = some (.int .u32 (dg V (n - 2):Nat)):=by rw [e2n,Int.toNat_natCast];exact lA_get _ (by omega)
  have w32:∀ x i,IntKind.u64.wrap ((dg x i:Nat):Int)=(dg x i:Nat):=fun x i=>u64_in (by have:=dg_lt x i;rw [BB_eq] at this;omega)
  have eq0:U / V=N / M:=by rw [← hUd,← hVd];exact shift_div
  have er0:U % V=(N % M)*2 ^ s:=by rw [← hUd,← hVd];exact shift_mod
  have hV0:0 < V:=by rw [← hVd];exact Nat.mul_pos hM0 (Nat.pow_pos (by omega))
  refine ⟨by rw [e1];omega,by rw [e1];show ((n - 1:Nat):Int) < 32;omega,_,v1,by rw [e2n];omega,by rw [e2n];show ((n - 2:Nat):Int) < 32;omega,_,v2,by kernel_rfl,?_⟩
  refine ⟨fun f mm=>f=dF n m s []∧mm=dM N M (dg (N / M)) (dg (wN U V 0)) (dg V),?_,?_⟩
  · -- the quotient, limb by limb
   obtain ⟨H,hH⟩:∃ H,dg V (n - 1)=H:=⟨_,rfl⟩
   obtain ⟨X,hX⟩:∃ X,dg V (n - 2)=X:=⟨_,rfl⟩
   have hHB:H < BB:=by rw [← hH];exact dg_lt _ _
   have hXB:X < BB:=by rw [← hX];exact dg_lt _ _
   have hNk:N < BB ^ (m - n+1)*M:=by
    have h5:=hu.2 (by omega)
    have h6:BB ^ m=BB ^ (m - n+1)*BB ^ (n - 1):=by rw [← Nat.pow_add];congr 1;omega
    have h7:=Nat.mul_le_mul_left (BB ^ (m - n+1)) h5
    have:=hv.1
    omega
   have hUk:U < BB ^ (m - n+1)*V:=by
    rw [← hUd,← hVd,← Nat.mul_assoc];exact Nat.mul_lt_mul_of_pos_right hNk (Nat.pow_pos (by omega))
   refine ⟨fun k f mm=>k≤m - n+1∧f=dF n m s [(13,SV.c (.int .u64 H)),(14,SV.c (.int .u64 X)),(15,SV.c (.int .i64 ((k:Int) - 1)))]∧mm=dM N M (fun i=>if k≤i then dg (N / M) i else 0) (dg (wN U V k)) (dg V),m - n+1,⟨_,_,⟨Nat.le_refl _,rfl,rfl⟩,⟨rfl,rfl,rfl,rfl,rfl,rfl,rfl,rfl,rfl,c_int (by rw [w32,hH]),c_int (by rw [w32,hX]),c_int (by rw [i64_in (by omega)];omega),trivial⟩,⟨rfl,rfl,row_eq ?_,rfl,row_eq ?_,rfl,trivial⟩,rfl⟩,?_⟩
   ·refine (show lA z0 32=_ from lA_congr fun i hi=>?_)
    by_cases h:m - n+1≤i
    ·rw [if_pos h]
     exact (dg_of_lt ((Nat.div_lt_iff_lt_mul hM0).2 hNk) h).symm
    ·rw [if_neg h]
   ·rw [wN_start (by rw [Nat.div_lt_iff_lt_mul (pow_pos' _),Nat.mul_comm];exact hUk)]
   rintro k f mm ⟨hk,rfl,rfl⟩
   refine ⟨fun h=>?_,fun h=>?_⟩
   ·have h1:(k:Int) - 1 ≥ 0:=of_decide_eq_true h
    obtain ⟨j,rfl⟩:∃ j,k=j+1:=⟨k - 1,by omega⟩
    have ej:((j+1:Nat):Int) - 1=(j:Nat):=by omega
    obtain ⟨T,hT⟩:∃ T,tN U V j=T:=⟨_,rfl⟩
    have hTV:T < V*BB:=by rw [← hT];exact tN_lt hV0 j
    have i1:IntKind.i64.wrap (((j+1:Nat):Int) - 1+n)=((j+n:Nat):Int):=by rw [i64_in (by omega)];omega
    have i2:IntKind.i64.wrap (IntKind.i64.wrap (((j+1:Nat):Int) - 1+n) - 1)=((j+(n - 1):Nat):Int):=by rw [i1,i64_in (by omega)];omega
    have i3:IntKind.i64.wrap (IntKind.i64.wrap (((j+1:Nat):Int) - 1+n) - 2)=((j+(n - 2):Nat):Int):=by rw [i1,i64_in (by omega)];omega
    have uw:∀ i,j+i < 33→(lA (dg (wN U V (j+1))) 33)[j+i]? = some (.int .u32 (dg T i:Nat)):=fun i hi=>by rw [lA_get _ hi,w_win,hT]
    have g1:(lA (dg (wN U V (j+1))) 33)[(IntKind.i64.wrap (((j+1:Nat):Int) - 1+n)).toNat]? = some (.int .u32 (dg T n:Nat)):=by rw [i1,Int.toNat_natCast];exact uw n (by omega)
    have g2:(lA (dg (wN U V (j+1))) 33)[(IntKind.i64.wrap (IntKind.i64.wrap (((j+1:Nat):Int) - 1+n) - 1)).toNat]? = some (.int .u32 (dg T (n - 1):Nat)):=by rw [i2,Int.toNat_natCast];exact uw _ (by omega)
    have g3:(lA (dg (wN U V (j+1))) 33)[(IntKind.i64.wrap (IntKind.i64.wrap (((j+1:Nat):Int) - 1+n) - 2)).toNat]? = some (.int .u32 (dg T (n - 2):Nat)):=by rw [i3,Int.toNat_natCast];exact uw _ (by omega)
    have hx:=hilo (dg_lt T n) (dg_lt T (n - 1)) rfl rfl
    have hgi:=gue_init hTV hV hn2 htop
    rw [hH] at hgi
    have hH0:(H:Int)≠0:=by rw [← hH];omega
    have hHb:H < 4294967296:=by rw [← BB_eq];exact hHB
    refine ⟨by rw [i1];omega,by rw [i1];show ((j+n:Nat):Int) < 33;omega,_,g1,by decide,by rw [i2];omega,by rw [i2];show ((j+(n - 1):Nat):Int) < 33;omega,_,g2,by kernel_rfl,hH0,hH0,by kernel_rfl,?_⟩
    refine ⟨fun f mm=>∃ g:Nat,g≤4294967295∧T < (g+1)*V∧g*V≤T+V∧f=dF n m s [(13,SV.c (.int .u64 H)),(14,SV.c (.int .u64 X)),(15,SV.c (.int .i64 (j:Nat))),(17,SV.c (.int .u64 g))]∧mm=dM N M (fun i=>if j+1≤i then dg (N / M) i else 0) (dg (wN U V (j+1))) (dg V),?_,?_⟩
    ·refine ⟨fun q f mm=>∃ (rest:Nat),Gue T V n q rest∧rest < BB∧f=dF n m s [(13,SV.c (.int .u64 H)),(14,SV.c (.int .u64 X)),(15,SV.c (.int .i64 (((j+1:Nat):Int) - 1))),(17,SV.c (.int .u64 q)),(18,SV.c (.int .u64 rest))]∧mm=dM N M (fun i=>if j+1≤i then dg (N / M) i else 0) (dg (wN U V (j+1))) (dg V),_,⟨_,_,⟨_,hgi,Nat.lt_trans (Nat.mod_lt _ (by omega)) hHB,rfl,rfl⟩,⟨rfl,rfl,rfl,rfl,rfl,rfl,rfl,rfl,rfl,rfl,rfl,rfl,c_int ?_,c_int ?_,trivial⟩,⟨rfl,rfl,rfl,rfl,rfl,rfl,trivial⟩,rfl⟩,?_⟩
     ·rw [hx,← Int.ofNat_tdiv,u64_in]
      have h5:=hgi.le
      generalize (dg T n*BB+dg T (n - 1)) / H=q at *
      rw [BB_eq] at h5;omega
     ·rw [hx,← Int.ofNat_tmod]
     rintro g f mm ⟨rest,hg,hr,rfl,rfl⟩
     have hgle:=hg.le
     rw [BB_eq] at hgle
     have hr':rest < 4294967296:=by rw [← BB_eq];exact hr
     have er:IntKind.u64.wrap ((rest:Int)+H)=((rest+H:Nat):Int):=by rw [u64_in (by omega)];omega
     have down:T < g*V→((g:Int) - 1=((g - 1:Nat):Int))∧IntKind.u64.wrap ((g:Int) - 1)=((g - 1:Nat):Int)∧Gue T V n (g - 1) (rest+H)∧1≤g:=fun h5=>by
      obtain ⟨h6,h7⟩:=gue_down hg h5
      rw [hH] at h7
      exact ⟨by omega,by rw [u64_in (by omega)];omega,h7,h6⟩
     have wide:Gue T V n (g - 1) (rest+H)→4294967295 < rest+H→g - 1≤4294967295∧(g - 1)*V≤T+V:=fun h5 h6=>by
      obtain ⟨h7,h8⟩:=gue_wide hTV hV hn2 h5 h6
      exact ⟨h7,gue_le hTV hV hn2 htop h5 h7 h8⟩
     refine ⟨fun hc=>⟨by decide,by rw [i3];omega,by rw [i3];show ((j+(n - 2):Nat):Int) < 33;omega,_,g3,fun h5=>?_,fun h5=>?_⟩,fun hc=>⟨fun _=>?_,nofun⟩⟩
     ·have hg1:g≤4294967295:=by have:=of_decide_eq_false hc;omega
      have e4:=mul_u64 hg1 hXB
      have e5:=hilo' hr (dg_lt T (n - 2)) rfl rfl
      rw [e4,e5] at h5
      have h5:rest*BB+dg T (n - 2) < g*X:=by have:=of_decide_eq_true h5;omega
      obtain ⟨-,eg,hg',hg0⟩:=down (gue_over hTV hV hn2 hg (.inr (by rw [hX];exact h5)))
      refine ⟨fun h6=>?_,fun h6=>?_⟩
      ·rw [er] at h6
       have h6:4294967295 < rest+H:=by have:=of_decide_eq_true h6;omega
       obtain ⟨h7,h8⟩:=wide hg' h6
       exact ⟨_,_,⟨g - 1,h7,hg'.up,h8,rfl,rfl⟩,⟨rfl,rfl,rfl,rfl,rfl,rfl,rfl,rfl,rfl,rfl,rfl,c_int ej,c_int eg,trivial⟩,⟨rfl,rfl,rfl,rfl,rfl,rfl,trivial⟩,rfl⟩
      ·rw [er] at h6
       have h6:¬ 4294967295 < rest+H:=by have:=of_decide_eq_false h6;omega
       exact ⟨g - 1,_,_,by omega,⟨rest+H,hg',by rw [BB_eq];omega,rfl,rfl⟩,⟨rfl,rfl,rfl,rfl,rfl,rfl,rfl,rfl,rfl,rfl,rfl,rfl,c_int eg,c_int er,trivial⟩,⟨rfl,rfl,rfl,rfl,rfl,rfl,trivial⟩,rfl⟩
     ·have hg1:g≤4294967295:=by have:=of_decide_eq_false hc;omega
      have e4:=mul_u64 hg1 hXB
      have e5:=hilo' hr (dg_lt T (n - 2)) rfl rfl
      rw [e4,e5] at h5
      have h5:g*X≤rest*BB+dg T (n - 2):=by have:=of_decide_eq_false h5;omega
      exact ⟨_,_,⟨g,hg1,hg.up,gue_le hTV hV hn2 htop hg hg1 (by rw [hX];exact h5),rfl,rfl⟩,⟨rfl,rfl,rfl,rfl,rfl,rfl,rfl,rfl,rfl,rfl,rfl,c_int ej,rfl,trivial⟩,⟨rfl,rfl,rfl,rfl,rfl,rfl,trivial⟩,rfl⟩
     ·have hg1:4294967295 < g:=by
        have h9:decide ((g:Int) > 4294967295)=true:=hc
        have:=of_decide_eq_true h9;omega
      obtain ⟨-,eg,hg',hg0⟩:=down (gue_over hTV hV hn2 hg (.inl hg1))
      refine ⟨fun h6=>?_,fun h6=>?_⟩
      ·rw [er] at h6
       have h6:4294967295 < rest+H:=by have:=of_decide_eq_true h6;omega
       obtain ⟨h7,h8⟩:=wide hg' h6
       exact ⟨_,_,⟨g - 1,h7,hg'.up,h8,rfl,rfl⟩,⟨rfl,rfl,rfl,rfl,rfl,rfl,rfl,rfl,rfl,rfl,rfl,c_int ej,c_int eg,trivial⟩,⟨rfl,rfl,rfl,rfl,rfl,rfl,trivial⟩,rfl⟩
      ·rw [er] at h6
       have h6:¬ 4294967295 < rest+H:=by have:=of_decide_eq_false h6;omega
       exact ⟨g - 1,_,_,by omega,⟨rest+H,hg',by rw [BB_eq];omega,rfl,rfl⟩,⟨rfl,rfl,rfl,rfl,rfl,rfl,rfl,rfl,rfl,rfl,rfl,rfl,c_int eg,c_int er,trivial⟩,⟨rfl,rfl,rfl,rfl,rfl,rfl,trivial⟩,rfl⟩
    · -- the multiple is taken away
     rintro f mm ⟨g,hg1,hup,hlo,rfl,rfl⟩
     have hgB:g < BB:=by rw [BB_eq];omega
     have hWlt:∀ k,dg (wN U V (j+1)) k < BB:=fun k=>dg_lt _ _
     have j1:IntKind.i64.wrap ((j:Int)+n)=((j+n:Nat):Int):=by rw [i64_in (by omega)];omega
     refine ⟨fun q f mm=>∃ (i c b:Nat) (F:Nat→Nat),q=n - i∧i≤n∧SubI (dg (wN U V (j+1))) V g j i F c b∧f=dF n m s [(13,SV.c (.int .u64 H)),(14,SV.c (.int .u64 X)),(15,SV.c (.int .i64 (j:Nat))),(17,SV.c (.int .u64 g)),(19,SV.c (.int .u32 b)),(20,SV.c (.int .u64 c)),(195,SV.c (.int .i64 n)),(196,SV.c (.int .i64 i))]∧mm=dM N M (fun i=>if j+1≤i then dg (N / M) i else 0) F (dg V),n,⟨_,_,⟨0,0,0,_,rfl,Nat.zero_le _,SubI.start hWlt V g j,rfl,rfl⟩,⟨rfl,rfl,rfl,rfl,rfl,rfl,rfl,rfl,rfl,rfl,rfl,rfl,rfl,rfl,rfl,rfl,rfl,trivial⟩,⟨rfl,rfl,rfl,rfl,rfl,rfl,trivial⟩,rfl⟩,?_⟩
     rintro q f mm ⟨i,c,b,F,rfl,hi,hF,rfl,rfl⟩
     refine ⟨fun h5=>?_,fun h5=>?_⟩
     ·have hin:i < n:=by have:=of_decide_eq_true h5;omega
      have k1:IntKind.i64.wrap ((i:Int)+j)=((i+j:Nat):Int):=by rw [i64_in (by omega)];omega
      have gv:(lA (dg V) 32)[i]? = some (.int .u32 (dg V i:Nat)):=lA_get _ (by omega)
      have gu:(lA F 33)[(IntKind.i64.wrap ((i:Int)+j)).toNat]? = some (.int .u32 (F (i+j):Nat)):=by rw [k1,Int.toNat_natCast];exact lA_get _ (by omega)
      have hml:=mul_lt hgB (dg_lt V i) BB_pos hF.carry
      have et:IntKind.u64.wrap (IntKind.u64.wrap ((g:Int)*IntKind.u64.wrap ((dg V i:Nat):Int))+c)=((g*dg V i+c:Nat):Int):=by
       rw [w32,mul_u64 hg1 (dg_lt V i)]
       rw [BB_eq] at hml
       rw [u64_in (by omega)];omega
      have hsub:Pure Tryz.prog 150 [SV.c (.int .u32 (F (i+j):Nat)),SV.c (.int .u32 (IntKind.u32.wrap (IntKind.u64.wrap (IntKind.u64.wrap ((g:Int)*IntKind.u64.wrap ((dg V i:Nat):Int))+c)))),SV.c (.int .u32 b)] (.tuple #[.int .u32 (((F (i+j)+BB - ((g*dg V i+c) % BB+b)) % BB:Nat)),.int .u32 ((if F (i+j) < (g*dg V i+c) % BB+b then 1 else 0:Nat))]):=by
       rw [et,u32_wrap,show ((g*dg V i+c:Nat):Int) % 4294967296=(((g*dg V i+c) % BB:Nat):Int) from rfl]
       exact sub32_pure _ _ b (hF.lt _) (Nat.mod_lt _ BB_pos) hF.bor
      refine ⟨by omega,by show (i:Int) < 32;omega,_,gv,by decide,by rw [k1];omega,by rw [k1];show ((i+j:Nat):Int) < 33;omega,_,gu,.inl ⟨_,hsub,by rw [k1];omega,by rw [k1];show ((i+j:Nat):Int) < 33;omega,by rw [k1];show i+j < 33;omega,rfl,_,lA_put k1 rfl,?_⟩⟩
      exact ⟨n - (i+1),_,_,by omega,⟨i+1,_,_,_,rfl,by omega,hF.step hgB,rfl,rfl⟩,⟨rfl,rfl,rfl,rfl,rfl,rfl,rfl,rfl,rfl,rfl,rfl,rfl,rfl,rfl,c_int (by rw [et];exact shr32 _),rfl,c_int (by rw [i64_in (by omega)];rfl),trivial⟩,⟨rfl,rfl,rfl,rfl,rfl,rfl,trivial⟩,rfl⟩
     ·have hin:i=n:=by have:=of_decide_eq_false h5;omega
      have hF:SubI (dg (wN U V (j+1))) V g j n F c b:=by rw [hin] at hF;exact hF
      have hE:=hF.fin hV
      have hTw:wv (dg (wN U V (j+1))) j (n+1)=T:=by rw [w_wv hV0 hV,hT]
      have gu:(lA F 33)[(IntKind.i64.wrap ((j:Int)+n)).toNat]? = some (.int .u32 (F (j+n):Nat)):=by rw [j1,Int.toNat_natCast];exact lA_get _ (by omega)
      have hcB:=hF.carry
      rw [BB_eq] at hcB
      have hsub:Pure Tryz.prog 150 [SV.c (.int .u32 (F (j+n):Nat)),SV.c (.int .u32 (IntKind.u32.wrap (c:Int))),SV.c (.int .u32 b)] (.tuple #[.int .u32 (((F (j+n)+BB - (c+b)) % BB:Nat)),.int .u32 ((if F (j+n) < c+b then 1 else 0:Nat))]):=by
       rw [u32_in (x:=(c:Int)) (by omega)]
       exact sub32_pure _ _ b (hF.lt _) hF.carry hF.bor
      obtain ⟨D,hD⟩:∃ D,(fun k=>if k=j+n then (F (j+n)+BB - (c+b)) % BB else F k)=D:=⟨_,rfl⟩
      obtain ⟨bb,hbb⟩:∃ bb,(if F (j+n) < c+b then 1 else 0:Nat)=bb:=⟨_,rfl⟩
      rw [hD,hbb] at hE
      rw [hbb] at hsub
      have j33:((j+n:Nat):Int) < 33:=by omega
      have hput:(lA F 33).setIfInBounds (IntKind.i64.wrap ((j:Int)+n)).toNat (.int .u32 (((F (j+n)+BB - (c+b)) % BB:Nat)))=lA D 33:=by rw [← hD];exact lA_put j1 rfl
      refine ⟨by rw [j1];omega,by rw [j1];exact j33,_,gu,.inl ⟨_,hsub,by rw [j1];omega,by rw [j1];exact j33,by rw [j1];show j+n < 33;omega,rfl,_,hput,fun f mm=>f=dF n m s [(13,SV.c (.int .u64 H)),(14,SV.c (.int .u64 X)),(15,SV.c (.int .i64 (j:Nat))),(17,SV.c (.int .u64 (T / V:Nat)))]∧T / V < BB∧mm=dM N M (fun i=>if j+1≤i then dg (N / M) i else 0) (dg (wN U V j)) (dg V),⟨fun h6=>?_,fun h6=>?_⟩,?_⟩⟩
      · -- added back
       have hb1:bb=1:=by have:=of_decide_eq_true h6;have:=hE.bor;omega
       rw [hb1] at hE
       refine ⟨fun q f mm=>∃ (i c:Nat) (G:Nat→Nat),q=n - i∧i≤n∧AddI D V j i G c∧f=dF n m s [(13,SV.c (.int .u64 H)),(14,SV.c (.int .u64 X)),(15,SV.c (.int .i64 (j:Nat))),(17,SV.c (.int .u64 (IntKind.u64.wrap ((g:Int) - 1)))),(23,SV.c (.int .u32 c)),(246,SV.c (.int .i64 n)),(247,SV.c (.int .i64 i))]∧mm=dM N M (fun i=>if j+1≤i then dg (N / M) i else 0) G (dg V),n,⟨_,_,⟨0,0,_,rfl,Nat.zero_le _,AddI.start hE.lt V j,rfl,rfl⟩,⟨rfl,rfl,rfl,rfl,rfl,rfl,rfl,rfl,rfl,rfl,rfl,rfl,rfl,rfl,rfl,rfl,trivial⟩,⟨rfl,rfl,rfl,rfl,rfl,rfl,trivial⟩,rfl⟩,?_⟩
       rintro q f mm ⟨i,c,G,rfl,hi,hG,rfl,rfl⟩
       refine ⟨fun h7=>?_,fun h7=>?_⟩
       ·have hin:i < n:=by have:=of_decide_eq_true h7;omega
        have k1:IntKind.i64.wrap ((i:Int)+j)=((i+j:Nat):Int):=by rw [i64_in (by omega)];omega
        have gv:(lA (dg V) 32)[i]? = some (.int .u32 (dg V i:Nat)):=lA_get _ (by omega)
        have gu:(lA G 33)[(IntKind.i64.wrap ((i:Int)+j)).toNat]? = some (.int .u32 (G (i+j):Nat)):=by rw [k1,Int.toNat_natCast];exact lA_get _ (by omega)
        refine ⟨by rw [k1];omega,by rw [k1];show ((i+j:Nat):Int) < 33;omega,_,gu,by omega,by show (i:Int) < 32;omega,_,gv,.inl ⟨_,add32_pure _ _ c (hG.lt _) (dg_lt V i) hG.carry,by rw [k1];omega,by rw [k1];show ((i+j:Nat):Int) < 33;omega,by rw [k1];show i+j < 33;omega,rfl,_,lA_put k1 rfl,by kernel_rfl,?_⟩⟩
        exact ⟨n - (i+1),_,_,by omega,⟨i+1,_,_,rfl,by omega,hG.step,rfl,rfl⟩,⟨rfl,rfl,rfl,rfl,rfl,rfl,rfl,rfl,rfl,rfl,rfl,rfl,rfl,rfl,rfl,c_int (by rw [i64_in (by omega)];rfl),trivial⟩,⟨rfl,rfl,rfl,rfl,rfl,rfl,trivial⟩,rfl⟩
       ·have hin:i=n:=by have:=of_decide_eq_false h7;omega
        have hG:AddI D V j n G c:=by rw [hin] at hG;exact hG
        obtain ⟨q1,q2,q3⟩:=fin_add hE hTw hTV hup hlo hV hG
        have gu:(lA G 33)[(IntKind.i64.wrap ((j:Int)+n)).toNat]? = some (.int .u32 (G (j+n):Nat)):=by rw [j1,Int.toNat_natCast];exact lA_get _ (by omega)
        have hcc:=hG.carry
        have hGl:=hG.lt (j+n)
        rw [BB_eq] at hGl
        refine ⟨by rw [j1];omega,by rw [j1];exact j33,_,gu,by rw [j1];omega,by rw [j1];exact j33,by rw [j1];show j+n < 33;omega,rfl,_,lA_put (v:=(G (j+n)+c) % BB) j1 (by rw [u32_wrap,BB_eq];omega),_,_,⟨rfl,by omega,rfl⟩,⟨rfl,rfl,rfl,rfl,rfl,rfl,rfl,rfl,rfl,rfl,rfl,rfl,c_int (by rw [u64_in (by omega)];omega),trivial⟩,⟨rfl,rfl,rfl,rfl,row_eq ?_,rfl,trivial⟩,rfl⟩
        have hl:∀ k,(fun k=>if k=j+n then (G (j+n)+c) % BB else G k) k < BB:=fun k=>by
         show (if k=j+n then (G (j+n)+c) % BB else G k) < BB
         split
         ·exact Nat.mod_lt _ BB_pos
         ·exact hG.lt k
        have hfin:=arr_after (U:=U) (V:=V) (j:=j) (n:=n) (L:=33) (by omega) hl (fun k hk=>?_) (by rw [hT];exact q3) (fun k hk=>?_)
        ·rw [← hfin]
         exact (lA_congr fun i hi=>dg_nv (fun j _=>hl j) hi).symm
        ·show (if k=j+n then (G (j+n)+c) % BB else G k)=_
         rw [if_neg (by omega),hG.low k hk,hE.low k hk,w_low _ _ _ _ hk]
        ·show (if k=j+n then (G (j+n)+c) % BB else G k)=_
         rw [if_neg (by omega),hG.high k (by omega),hE.high k (by omega),w_hi hV0 hV (by omega)]
      ·have hb1:bb=0:=by have:=of_decide_eq_false h6;omega
       rw [hb1] at hE
       obtain ⟨q2,q3⟩:=fin_sub hE hTw hup
       refine ⟨_,_,⟨rfl,by omega,rfl⟩,⟨rfl,rfl,rfl,rfl,rfl,rfl,rfl,rfl,rfl,rfl,rfl,rfl,c_int (by rw [q2]),trivial⟩,⟨rfl,rfl,rfl,rfl,row_eq ?_,rfl,trivial⟩,rfl⟩
       have hfin:=arr_after (U:=U) (V:=V) (j:=j) (n:=n) (L:=33) (by omega) hE.lt (fun k hk=>by rw [hE.low k hk,w_low _ _ _ _ hk]) (by rw [hT];exact q3) (fun k hk=>by rw [hE.high k hk,w_hi hV0 hV hk])
       rw [← hfin]
       exact (lA_congr fun i hi=>dg_nv (fun j _=>hE.lt j) hi).symm
      rintro f mm ⟨rfl,hqB,rfl⟩
      have hqd:dg (N / M) j=T / V:=by rw [← eq0,quo_dg hV0,hT]
      rw [BB_eq] at hqB
      refine ⟨by omega,by show (j:Int) < 32;omega,by show j < 32;omega,rfl,_,lA_put' (i:=j) (x:=(j:Int)) (v:=T / V) (F:=fun i=>if j≤i then dg (N / M) i else 0) rfl ?_ ?_,j,_,_,by omega,⟨by omega,rfl,rfl⟩,⟨rfl,rfl,rfl,rfl,rfl,rfl,rfl,rfl,rfl,rfl,rfl,c_int (i64_in (by omega)),trivial⟩,⟨rfl,rfl,rfl,rfl,rfl,rfl,trivial⟩,rfl⟩
      ·generalize T / V=q at *
       exact u32_in (by omega)
      ·intro k hk
       by_cases e:k=j
       ·subst e;rw [if_pos (Nat.le_refl _),if_pos rfl,hqd]
       ·by_cases e3:j≤k
        ·rw [if_pos e3,if_neg e,if_pos (by omega)]
        ·rw [if_neg e3,if_neg e,if_neg (by omega)]
   ·have h1:¬ ((k:Int) - 1 ≥ 0):=of_decide_eq_false h
    obtain rfl:k=0:=by omega
    exact ⟨_,_,⟨rfl,rfl⟩,⟨rfl,rfl,rfl,rfl,rfl,rfl,rfl,rfl,rfl,trivial⟩,⟨rfl,rfl,row_eq (lA_congr fun i hi=>by simp),rfl,rfl,rfl,trivial⟩,rfl⟩
  rintro f mm ⟨rfl,rfl⟩
  -- the remainder is shifted back
  obtain ⟨R,hR⟩:∃ R,N % M=R:=⟨_,rfl⟩
  obtain ⟨W,hW⟩:∃ W,wN U V 0=W:=⟨_,rfl⟩
  have hWR:W=R*2 ^ s:=by rw [← hW,wN_zero,er0,hR]
  have hRM:R < M:=by rw [← hR];exact Nat.mod_lt _ hM0
  have rd:∀ i,dg R i=dg W i / 2 ^ s ||| (if 0 < s then (dg W (i+1)*2 ^ (32 - s)) % 4294967296 else 0):=fun i=>by
   have:=dg_shr W 0 s i hs32
   rw [Nat.mul_zero,Nat.zero_add,hWR,Nat.mul_div_cancel _ (Nat.pow_pos (by omega)),← hWR] at this
   exact this
  rw [hR,hW]
  refine ⟨fun q f mm=>∃ i:Nat,q=n - i∧i≤n∧f=dF n m s [(280,SV.c (.int .i64 n)),(281,SV.c (.int .i64 i))]∧mm=dR N M (dg (N / M)) (fun k=>if k < i then dg R k else 0) (dg W) (dg V),n,⟨_,_,⟨0,rfl,Nat.zero_le _,rfl,rfl⟩,⟨rfl,rfl,rfl,rfl,rfl,rfl,rfl,rfl,rfl,rfl,rfl,trivial⟩,⟨rfl,rfl,rfl,row_eq (lA_congr fun i hi=>by simp),rfl,rfl,trivial⟩,rfl⟩,?_⟩
  rintro q f mm ⟨i,rfl,hi,rfl,rfl⟩
  refine ⟨fun h5=>?_,fun h5=>?_⟩
  ·have hin:i < n:=by have:=of_decide_eq_true h5;omega
   have i33:(i:Int) < 33:=by omega
   have i32:(i:Int) < 32:=by omega
   have gu:(lA (dg W) 33)[i]? = some (.int .u32 (dg W i:Nat)):=lA_get _ (by omega)
   have hlast:(dg R i=dg W i / 2 ^ s)→lA (fun k=>if k=i then dg W i / 2 ^ s else if k < i then dg R k else 0) 32=lA (fun k=>if k < i+1 then dg R k else 0) 32:=fun e0=>lA_congr fun k hk=>by
    by_cases e:k=i
    ·subst e;rw [if_pos rfl,if_pos (by omega),e0]
    ·by_cases e2:k < i
     ·rw [if_neg e,if_pos e2,if_pos (by omega)]
     ·rw [if_neg e,if_neg e2,if_neg (by omega)]
   refine ⟨fun f mm=>f=dF n m s [(280,SV.c (.int .i64 n)),(281,SV.c (.int .i64 i))]∧mm=dR N M (dg (N / M)) (fun k=>if k < i+1 then dg R k else 0) (dg W) (dg V),⟨by omega,i33,_,gu,by omega,by omega,i32,by show i < 32;omega,rfl,_,lA_put (i:=i) (x:=(i:Int)) (v:=dg W i / 2 ^ s) rfl (shr_nat _ s (by omega) rfl),fun h6=>?_,fun h6=>?_⟩,?_⟩
   ·have h6:(s:Int) > 0:=of_decide_eq_true h6
    have k1:IntKind.i64.wrap ((i:Int)+1)=((i+1:Nat):Int):=by rw [i64_in (by omega)];omega
    have gr:(lA (fun k=>if k=i then dg W i / 2 ^ s else if k < i then dg R k else 0) 32)[i]? = some (.int .u32 (dg W i / 2 ^ s:Nat)):=by rw [lA_get _ (by omega),if_pos rfl]
    have gu2:(lA (dg W) 33)[(IntKind.i64.wrap ((i:Int)+1)).toNat]? = some (.int .u32 (dg W (i+1):Nat)):=by rw [k1,Int.toNat_natCast];exact lA_get _ (by omega)
    have hd:dg W i / 2 ^ s < 4294967296:=Nat.lt_of_le_of_lt (Nat.div_le_self _ _) (dg_lt _ _)
    have hsh:IntKind.u32.wrap (((dg W (i+1):Nat):Int)*2 ^ min (Int.toNat (IntKind.i64.wrap ((32:Int) - (s:Nat)))) IntKind.u32.bits)=((dg W (i+1)*2 ^ (32 - s) % 4294967296:Nat):Int):=by
     rw [es];exact shl_nat _ _ (by omega)
    refine ⟨by omega,i32,_,gr,by rw [k1];omega,by rw [k1];show ((i+1:Nat):Int) < 33;omega,_,gu2,by rw [es];omega,by omega,i32,by show i < 32;omega,rfl,_,lA_put' (i:=i) (x:=(i:Int)) rfl (v:=dg R i) (F:=fun k=>if k < i+1 then dg R k else 0) ?_ ?_,by kernel_rfl,_,_,⟨rfl,rfl⟩,⟨rfl,rfl,rfl,rfl,rfl,rfl,rfl,rfl,rfl,rfl,rfl,trivial⟩,⟨rfl,rfl,rfl,rfl,rfl,rfl,trivial⟩,rfl⟩
    ·rw [hsh,or32 hd (Nat.mod_lt _ (by omega)),rd i,if_pos (by omega)]
    ·intro k hk
     by_cases e:k=i
     ·subst e;rw [if_pos (by omega),if_pos rfl]
     ·by_cases e3:k < i
      ·rw [if_pos (by omega),if_neg e,if_neg e,if_pos e3]
      ·rw [if_neg (by omega),if_neg e,if_neg e,if_neg e3]
   ·have h6:¬ (s:Int) > 0:=of_decide_eq_false h6
    exact ⟨_,_,⟨rfl,rfl⟩,⟨rfl,rfl,rfl,rfl,rfl,rfl,rfl,rfl,rfl,rfl,rfl,trivial⟩,⟨rfl,rfl,rfl,row_eq (hlast (by rw [rd i,if_neg (by omega),Nat.or_zero])),rfl,rfl,trivial⟩,rfl⟩
   ·rintro f mm ⟨rfl,rfl⟩
    exact ⟨n - (i+1),_,_,by omega,⟨i+1,rfl,by omega,rfl,rfl⟩,⟨rfl,rfl,rfl,rfl,rfl,rfl,rfl,rfl,rfl,rfl,c_int (by rw [i64_in (by omega)];rfl),trivial⟩,⟨rfl,rfl,rfl,rfl,rfl,rfl,trivial⟩,rfl⟩
  ·have hin:i=n:=by have:=of_decide_eq_false h5;omega
   have hRn:lA (fun k=>if k < i then dg R k else 0) 32=mA R:=lA_congr fun k hk=>by
    by_cases e:k < i
    ·rw [if_pos e]
    ·rw [if_neg e];exact (dg_of_lt (Nat.lt_trans hRM hu.1) (by omega)).symm
   exact ⟨lA_fits _ _,lA_fits _ _,by kernel_rfl,tup2 rfl (by rw [hRn]),rfl,rfl,trivial⟩
theorem dm_pos (x:Int) (b:Nat) (hb:0 < b):if x < 0∧x.natAbs % b≠0 then x / (b:Int)=-((x.natAbs / b+1:Nat):Int)∧x % (b:Int)=((b - x.natAbs % b:Nat):Int) else x / (b:Int)=zN (decide (x < 0)) (x.natAbs / b)∧x % (b:Int)=((x.natAbs % b:Nat):Int):=by
 have h1:=Nat.div_add_mod x.natAbs b
 have h2:=Nat.mod_lt x.natAbs hb
 have h1':(b:Int)*((x.natAbs / b:Nat):Int)+((x.natAbs % b:Nat):Int)=(x.natAbs:Int):=by rw [← Int.natCast_mul,← Int.natCast_add,h1]
 generalize x.natAbs / b=q at *
 generalize x.natAbs % b=r at *
 have hbp:(0:Int) < b:=by omega
 split
 ·rename_i h
  refine (Int.ediv_emod_unique hbp).2 ⟨?_,by omega,by omega⟩
  rw [Int.mul_neg]
  have:(b:Int)*((q+1:Nat):Int)=b*(q:Int)+b:=by rw [Int.natCast_add,Int.mul_add];simp
  rw [this];omega
 ·rename_i h
  refine (Int.ediv_emod_unique hbp).2 ⟨?_,by omega,by omega⟩
  unfold zN
  by_cases hx:x < 0
  ·have hr:r=0:=by omega
   rw [if_pos (by simpa using hx),Int.mul_neg];omega
  ·rw [if_neg (by simpa using hx)];omega
theorem dm_all (x y:Int) (hy:y≠0):if x < 0∧x.natAbs % y.natAbs≠0 then x / y=zN (decide (x < 0) != decide (y < 0)) (x.natAbs / y.natAbs+1)∧x % y=((y.natAbs - x.natAbs % y.natAbs:Nat):Int) else x / y=zN (decide (x < 0) != decide (y < 0)) (x.natAbs / y.natAbs)∧x % y=((x.natAbs % y.natAbs:Nat):Int):=by
 have h:=dm_pos x y.natAbs (by omega)
 rcases Int.lt_or_le y 0 with hn | hp
 ·have e:y=-((y.natAbs:Nat):Int):=by omega
  have ed:x / y=-(x / ((y.natAbs:Nat):Int)):=by conv=>lhs;rw [e,Int.ediv_neg]
  have em:x % y=x % ((y.natAbs:Nat):Int):=by conv=>lhs;rw [e,Int.emod_neg]
  rw [ed,em]
  simp only [hn,decide_true]
  split at h
  ·rename_i hc
   rw [if_pos hc,h.1]
   refine ⟨?_,h.2⟩
   simp [zN,hc.1]
  ·rename_i hc
   rw [if_neg hc,h.1]
   refine ⟨?_,h.2⟩
   cases hd:decide (x < 0)<;>simp [zN]
 ·have e:((y.natAbs:Nat):Int)=y:=by omega
  rw [e] at h
  have hn:¬ y < 0:=by omega
  simp only [hn,decide_false]
  split at h
  ·rename_i hc
   rw [if_pos hc,h.1]
   refine ⟨?_,h.2⟩
   simp [zN,hc.1]
  ·rename_i hc
   rw [if_neg hc,h.1]
   refine ⟨?_,h.2⟩
   cases hd:decide (x < 0)<;>simp [zN]
theorem fill_one:Instr.fill (fun k=>some (k*1,1)) (Array.replicate 32 (Value.int .u32 0)) [(0,.int .u32 1)]=some (mA 1):=by
 have:=fill_lo (N:=1) (by omega) (a:=1) (b:=0) rfl rfl
 exact this
theorem divmod_z {A B:Array Value} {x y:Int} (hA:IsI A x) (hB:IsI B y) (hy:y≠0):Pure Tryz.prog 88 [SV.c (.agg A),SV.c (.agg B)] (.tuple #[.agg (eA (x / y)),.agg (eA (x % y)),.int .i64 0]):=by
 refine sx_pureC [9] tt_ok mixed at88 _ _ rfl rfl fun w=>?_
 have hx:=hA.lt
 have hyl:=hB.lt
 have hb0:0 < y.natAbs:=by omega
 have hall:=dm_all x y hy
 refine ⟨hA.size,hB.size,.inl ⟨_,split_z hA,mA_fits _,.inl ⟨_,split_z hB,mA_fits _,mA 0,some_eq mA_zero,_,eql_mag rfl hyl zero_lt,fun h=>?_,fun h=>?_⟩⟩⟩
 ·exfalso
  have:=of_decide_eq_true h
  omega
 have hql:x.natAbs / y.natAbs < BB ^ 32:=Nat.lt_of_le_of_lt (Nat.div_le_self _ _) hx
 have hrl:x.natAbs % y.natAbs < y.natAbs:=Nat.mod_lt _ hb0
 have hrb:x.natAbs % y.natAbs < BB ^ 32:=Nat.lt_trans hrl hyl
 refine .inr ⟨_,_,_,divide_own hx hyl hb0 _ rfl _ _ (by decide),⟨rfl,rfl,trivial⟩,rfl,mA_fits _,mA_fits _,?_⟩
 refine ⟨fun f mm=>∃ q r:Nat,q < BB ^ 32∧r < BB ^ 32∧x / y=zN (decide (x < 0) != decide (y < 0)) q∧x % y=r∧f=[(4,SV.ptr 4 0),(5,SV.ptr 5 0),(7,SV.c (.bool (decide (x < 0)))),(9,SV.c (.bool (decide (y < 0)))),(11,SV.ptr 11 0),(12,SV.ptr 12 0)]∧mm=[(4,Blk.row 25 33 ti25.zero),(5,Blk.row 25 33 ti25.zero),(11,Blk.row 121 32 (mA q)),(12,Blk.row 121 32 (mA r))],⟨fun h1=>⟨mA 0,some_eq mA_zero,_,neq_mag rfl hrb zero_lt,fun h2=>?_,fun h2=>?_⟩,fun h1=>⟨nofun,fun _=>?_⟩⟩,?_⟩
 ·have h1:=of_decide_eq_true h1
  have h2:x.natAbs % y.natAbs≠0:=by simpa using h2
  rw [if_pos ⟨h1,h2⟩] at hall
  have hql2:x.natAbs / y.natAbs+1 < BB ^ 32:=by
   have hb2:2≤y.natAbs:=by
    rcases Nat.lt_or_ge y.natAbs 2 with h | h
    ·have:y.natAbs=1:=by omega
     rw [this,Nat.mod_one] at h2;exact absurd rfl h2
    ·exact h
   have h3:x.natAbs / y.natAbs≤x.natAbs / 2:=Nat.div_le_div_left hb2 (by omega)
   have h4:4≤BB ^ 32:=Nat.le_trans (by omega) two64
   omega
  refine ⟨mA 1,fill_one,mA_size _,.inr ⟨_,_,_,plus_own hql (Nat.lt_of_lt_of_le (by omega:1 < 18446744073709551616) two64) _ rfl _ _ (by decide),⟨rfl,rfl,trivial⟩,rfl,mA_fits _,.inr ⟨_,_,_,minus_own hyl (Nat.le_of_lt hrl) _ rfl _ _ (by decide),⟨rfl,rfl,trivial⟩,rfl,mA_fits _,_,_,⟨x.natAbs / y.natAbs+1,_,hql2,Nat.lt_of_le_of_lt (Nat.sub_le _ _) hyl,hall.1,hall.2,rfl,rfl⟩,⟨rfl,rfl,rfl,rfl,rfl,rfl,trivial⟩,⟨rfl,rfl,row_eq (by rw [Nat.mod_eq_of_lt hql2]),rfl,trivial⟩,rfl⟩⟩⟩
 ·have h2:x.natAbs % y.natAbs=0:=by simpa using h2
  rw [if_neg (fun h=>h.2 h2)] at hall
  exact ⟨_,_,⟨_,_,hql,hrb,hall.1,hall.2,rfl,rfl⟩,⟨rfl,rfl,rfl,rfl,rfl,rfl,trivial⟩,⟨rfl,rfl,rfl,rfl,trivial⟩,rfl⟩
 ·have h1:=of_decide_eq_false h1
  rw [if_neg (fun h=>h1 h.1)] at hall
  exact ⟨_,_,⟨_,_,hql,hrb,hall.1,hall.2,rfl,rfl⟩,⟨rfl,rfl,rfl,rfl,rfl,rfl,trivial⟩,⟨rfl,rfl,rfl,rfl,trivial⟩,rfl⟩
 ·rintro f mm ⟨q,r,hq,hr,e1,e2,rfl,rfl⟩
  have m1:=made_z (decide (x < 0) != decide (y < 0)) q hq
  have m2:=made_z false r hr
  rw [← e1] at m1
  rw [show zN false r=x % y from e2.symm] at m2
  exact .inl ⟨_,m1,.inl ⟨_,m2,eA_fits _,eA_fits _,by kernel_rfl,rfl,trivial⟩⟩
theorem gcd_z {A B:Array Value} {x y:Int} (hA:IsI A x) (hB:IsI B y):Pure Tryz.prog 125 [SV.c (.agg A),SV.c (.agg B)] (.agg (eA ((Int.gcd x y:Nat):Int))):=by
 refine sx_pure tt_ok mixed at125 _ _ rfl rfl fun w=>?_
 refine ⟨hA.size,hB.size,.inl ⟨_,split_z hA,mA_fits _,.inl ⟨_,split_z hB,mA_fits _,?_⟩⟩⟩
 refine ⟨fun q f mm=>∃ a:Nat,a < BB ^ 32∧q < BB ^ 32∧Nat.gcd a q=Int.gcd x y∧f=[(4,SV.ptr 4 0),(6,SV.ptr 6 0),(8,SV.ptr 8 0)]∧mm=[(4,Blk.row 25 33 ti25.zero),(6,Blk.row 121 32 (mA a)),(8,Blk.row 121 32 (mA q))],_,⟨_,_,⟨_,hA.lt,hB.lt,rfl,rfl,rfl⟩,⟨rfl,rfl,rfl,trivial⟩,⟨rfl,rfl,rfl,trivial⟩,rfl⟩,?_⟩
 rintro q f mm ⟨a,ha,hq,hg,rfl,rfl⟩
 refine ⟨mA 0,some_eq mA_zero,_,neq_mag rfl hq zero_lt,fun h=>?_,fun h=>?_⟩
 ·have hq0:0 < q:=by
    have:q≠0:=by simpa using h
    omega
  have hr:=Nat.mod_lt a hq0
  exact .inr ⟨_,_,_,divide_own ha hq hq0 _ rfl _ _ (by decide),⟨rfl,rfl,trivial⟩,rfl,mA_fits _,mA_fits _,mA_fits _,mA_fits _,by kernel_rfl,a % q,_,_,hr,⟨_,hq,Nat.lt_trans hr hq,by rw [← hg,Nat.gcd_comm a q,Nat.gcd_rec q a,Nat.gcd_comm],rfl,rfl⟩,⟨rfl,rfl,rfl,trivial⟩,⟨rfl,rfl,rfl,trivial⟩,rfl⟩
 ·have hq0:q=0:=by simpa using h
  subst hq0
  have m1:=made_z false a ha
  rw [Nat.gcd_zero_right] at hg
  rw [show zN false a=((Int.gcd x y:Nat):Int) by rw [← hg];rfl] at m1
  exact .inl ⟨_,m1,eA_fits _,rfl,trivial⟩
def toIntR (z:Int):Value:=if -9223372036854775808≤z∧z≤9223372036854775807 then .tuple #[.int .i64 z,.bool true] else .tuple #[.int .i64 0,.bool false]
theorem toInt_z {A:Array Value} {z:Int} (hA:IsI A z):Pure Tryz.prog 48 [SV.c (.agg A)] (toIntR z):=by
 refine sx_pure tt_ok mixed at48 _ _ rfl rfl fun w=>?_
 obtain ⟨hb1,hb2⟩:=bl_bits z.natAbs
 refine ⟨hA.size,.inl ⟨_,split_z hA,mA_fits _,.inr ⟨_,_,_,bits_own hA.lt _ rfl _,⟨rfl,trivial⟩,rfl,fun h=>?_,fun h=>?_⟩⟩⟩
 ·have h:64 < bl z.natAbs:=by have:=of_decide_eq_true h;omega
  have h5:=hb2 (by omega)
  have h6:2 ^ 64≤2 ^ (bl z.natAbs - 1):=Nat.pow_le_pow_right (by omega) (by omega)
  exact ⟨by rw [toIntR,if_neg (by omega)];rfl,trivial⟩
 have h:bl z.natAbs≤64:=by have:=of_decide_eq_false h;omega
 have hz:z.natAbs < 18446744073709551616:=by
  have h6:2 ^ bl z.natAbs≤2 ^ 64:=Nat.pow_le_pow_right (by omega) h
  omega
 have eu:=hilo (dg_lt z.natAbs 1) (dg_lt z.natAbs 0) rfl rfl
 have ed:dg z.natAbs 1*BB+dg z.natAbs 0=z.natAbs:=by
  simp only [dg,BB_eq,Nat.pow_one,Nat.pow_zero,Nat.div_one];omega
 rw [ed] at eu
 have g1:(mA z.natAbs)[1]? = some (.int .u32 (dg z.natAbs 1:Nat)):=mA_get (by omega)
 have g0:(mA z.natAbs)[0]? = some (.int .u32 (dg z.natAbs 0:Nat)):=mA_get (by omega)
 refine ⟨by decide,by decide,_,g1,by decide,by decide,by decide,_,g0,fun h1=>⟨fun h2=>?_,fun h2=>?_⟩,fun h1=>⟨nofun,fun _=>?_⟩⟩
 ·rw [eu] at h2
  have h1:=of_decide_eq_true h1
  have h2:=of_decide_eq_true h2
  refine ⟨?_,trivial⟩
  rw [toIntR,if_pos (by omega)]
  refine tup2 (iv ?_) rfl
  rw [eu,u64_wrap,IntKind.wrap_i64]
  omega
 ·rw [eu] at h2
  have h1:=of_decide_eq_true h1
  have h2:=of_decide_eq_false h2
  refine ⟨fun h3=>?_,fun h3=>⟨nofun,fun _=>⟨?_,trivial⟩⟩⟩
  ·exfalso
   simp [h1] at h3
  ·rw [toIntR,if_neg (by omega)];rfl
 ·have h1:=of_decide_eq_false h1
  refine ⟨fun h3=>⟨fun h2=>?_,fun h2=>?_⟩,fun h3=>?_⟩
  ·rw [eu] at h2
   have h2:=of_decide_eq_true h2
   refine ⟨?_,trivial⟩
   rw [toIntR,if_pos (by omega)]
   refine tup2 (iv ?_) rfl
   rw [eu,IntKind.wrap_i64]
   omega
  ·rw [eu] at h2
   have h2:=of_decide_eq_false h2
   exact ⟨by rw [toIntR,if_neg (by omega)];rfl,trivial⟩
  ·exfalso
   simp [h1] at h3
end Go.Proofs.YtnfmpddhcjkjbaaGreatDoor
