/- walks: the reference, rounding; no condition. -/
import Derived.Test.YtofllflnmmjijaaGreatDoorP19
set_option maxRecDepth 100000
set_option maxHeartbeats 4000000
namespace Go.Proofs.YtofllflnmmjijaaGreatDoor
open Go Go.RowKit Go.SX
theorem runs_num {E:Env} (hE:E.P=Tryz.prog) (r:RQ):Runs E (Instr.field 33 (.agg r.A) 0) (.agg (iA r.a r.N)):=fun w _=>by
 rw [hE]
 have h:=part_agg (P:=Tryz.prog) tok31 rfl r.A 0 w
 have e:r.A.extract 0 (0+ti31.size)=iA r.a r.N:=r.cat_l
 rw [e] at h
 simp [Instr.field,Sem.run_bind,run_underlying Tryz.underlying33,asAgg,h]
theorem power_r {n:Nat} (h:n≤18):Pure Tryz.prog 208 [SV.c (.int .i64 n)] (.agg (RQ.of ((tp n:Nat):Int) 1).A):=by
 refine sx_pure tt_ok mixed at208 _ _ rfl rfl fun w=>?_
 have hpn:=tp_le h
 rw [tp18] at hpn
 refine ⟨fun q f m=>∃ i:Nat,q=n - i∧i≤n∧f=[(0,SV.c (.int .i64 n)),(2,SV.ptr 2 0),(3,SV.c (.int .i64 ((tp i:Nat):Int))),(4,SV.c (.int .i64 i))]∧m=[(2,Blk.row 33 66 ti33.zero)],n,⟨_,_,⟨0,rfl,Nat.zero_le _,rfl,rfl⟩,⟨rfl,rfl,rfl,rfl,trivial⟩,⟨rfl,trivial⟩,rfl⟩,?_⟩
 rintro q f m ⟨i,rfl,hi,rfl,rfl⟩
 refine ⟨fun h1=>?_,fun h1=>?_⟩
 ·have h1:(i:Int) < n:=of_decide_eq_true h1
  have hp:tp (i+1)≤tp 18:=tp_le (by omega)
  refine ⟨n - (i+1),_,_,by omega,⟨i+1,rfl,by omega,rfl,rfl⟩,⟨rfl,rfl,c_int ?_,c_int (by rw [i64_in (by omega)];rfl),trivial⟩,⟨rfl,trivial⟩,rfl⟩
  rw [tp_succ,tp18] at hp
  rw [tp_succ]
  rw [i64_in (by omega)]
  omega
 ·have h1:¬ ((i:Int) < n):=of_decide_eq_false h1
  obtain rfl:i=n:=by omega
  exact .inl ⟨_,whole_r (by omega) (by omega),RQ.A_fits _,rfl,trivial⟩
theorem scaled_r {r:RQ} (hr:r.In) (hk:r.ok=true) {n:Nat} (hn:n≤9):Pure Tryz.prog 158 [SV.c (.agg r.A),SV.c (.int .i64 n)] (.tuple #[.agg (eA (r.p*((tp n:Nat):Int))),.agg (eA r.q)]):=by
 refine sx_pure tt_ok mixed at158 _ _ rfl rfl fun w=>?_
 obtain ⟨k1,k2,k3,k4,k5⟩:=RQ.ok_bits hk
 have hp:=tp_le hn
 rw [tp9] at hp
 have hl:=scale_lt k1 hn
 have hm:=mul_r hr.num (isI_e (z:=((tp n:Nat):Int)) (i64_lt (by omega) (by omega)))
 rw [fitR,if_pos hl] at hm
 rw [← den_ok hk]
 exact ⟨r.A_size,by decide,_,r.cat_l,.inl ⟨_,power_r (by omega),_,runs_num rfl (.of _ _),.inl ⟨_,hm,eA_fits _,by kernel_rfl,by decide,_,r.cat_r,eA_fits _,iA_fits _ _,by kernel_rfl,rfl,trivial⟩⟩⟩
def plOk (n:Int):Bool:=decide (n ≥ 0) && decide (n≤9)
theorem plOk_iff {n:Int}:plOk n=true↔¬ (n < 0∨n > 9):=by
 unfold plOk;simp only [Bool.and_eq_true,decide_eq_true_eq];omega
theorem places_r (n:Int):Pure Tryz.prog 157 [SV.c (.int .i64 n)] (.bool (plOk n)):=by
 refine sx_pure tt_ok mixed at157 _ _ rfl rfl fun w=>?_
 refine ⟨fun h=>⟨bv ?_,trivial⟩,fun h=>⟨bv ?_,trivial⟩⟩
 ·have h:decide (n ≥ 0)=true:=h
  rw [plOk,h,Bool.true_and]
 ·have h:decide (n ≥ 0)=false:=h
  rw [plOk,h,Bool.false_and]
theorem above_r {mode:Int} (_hm:¬ (mode < 1∨mode > 6)) (neg:Bool) (half:Int) (odd:Bool):Pure Tryz.prog 160 [SV.c (.int .i64 mode),SV.c (.bool neg),SV.c (.int .i64 half),SV.c (.bool odd)] (.bool (upM mode neg half odd)):=by
 refine sx_pure tt_ok mixed at160 _ _ rfl rfl fun w=>?_
 unfold upM
 refine ⟨fun h1=>⟨bv ?_,trivial⟩,fun h1=>⟨fun h2=>⟨bv ?_,trivial⟩,fun h2=>⟨fun h3=>⟨bv ?_,trivial⟩,fun h3=>⟨fun h4=>⟨bv ?_,trivial⟩,fun h4=>⟨fun h5=>⟨bv ?_,trivial⟩,fun h5=>⟨fun h6=>⟨bv ?_,trivial⟩,fun h6=>⟨bv ?_,trivial⟩⟩⟩⟩⟩⟩⟩
 all_goals simp only [beq_iff_eq,beq_eq_false_iff_ne,ne_eq,bne_iff_ne,bne_eq_false_iff_eq] at *
 ·rw [if_pos h1]
 ·rw [if_neg h1,if_pos h2]
 ·rw [if_neg h1,if_neg h2,if_pos h3]
 ·rw [if_neg h1,if_neg h2,if_neg h3,if_pos h4]
 ·rw [if_neg h1,if_neg h2,if_neg h3,if_neg h4,if_neg h5,if_neg h5,ite_self]
 ·rw [if_neg h1,if_neg h2,if_neg h3,if_neg h4,if_pos h6,if_pos h5]
 ·rw [if_neg h1,if_neg h2,if_neg h3,if_neg h4,if_neg h6,if_pos h5]
theorem round_r {r:RQ} (hr:r.In) (n mode:Int):Pure Tryz.prog 107 [SV.c (.agg r.A),SV.c (.int .i64 n),SV.c (.int .i64 mode)] (resZ (rndQ r n mode)):=by
 refine sx_pure tt_ok mixed at107 _ _ rfl rfl fun w=>?_
 refine ⟨r.A_size,.inl ⟨_,valid_r hr,fun h1=>⟨ti31.zero,rfl,eA_fits 0,?_,trivial⟩,fun h1=>.inl ⟨_,places_r n,fun h2=>⟨ti31.zero,rfl,eA_fits 0,?_,trivial⟩,fun h2=>⟨fun h3=>⟨fun h4=>⟨ti31.zero,rfl,eA_fits 0,?_,trivial⟩,fun h4=>?_⟩,fun h3=>⟨fun _=>⟨ti31.zero,rfl,eA_fits 0,?_,trivial⟩,nofun⟩⟩⟩⟩⟩
 ·have h1:=bnt h1
  rw [rndQ,h1,Bool.not_false,if_pos rfl];rfl
 all_goals
  have hk:=bnf h1
  clear h1
 ·have h2:=bnt h2
  have h2:n < 0∨n > 9:=Decidable.of_not_not fun h=>by rw [plOk_iff.2 h] at h2;cases h2
  rw [rndQ,hk,Bool.not_true,if_neg Bool.false_ne_true,if_pos h2];rfl
 all_goals
  have hn:=plOk_iff.1 (bnf h2)
  clear h2
 ·have h4:=of_decide_eq_true h4
  rw [rndQ,hk,Bool.not_true,if_neg Bool.false_ne_true,if_neg hn,if_pos (.inr h4)];rfl
 rotate_left
 ·have h3:=of_decide_eq_true h3
  rw [rndQ,hk,Bool.not_true,if_neg Bool.false_ne_true,if_neg hn,if_pos (.inl h3)];rfl
 have h3:=of_decide_eq_false h3
 have h4:=of_decide_eq_false h4
 have hm:¬ (mode < 1∨mode > 6):=by omega
 obtain ⟨k,rfl⟩:∃ k:Nat,n=k:=⟨n.toNat,by omega⟩
 have hk9:k≤9:=by omega
 obtain ⟨k1,k2,k3,k4,k5⟩:=RQ.ok_bits hk
 have hs:=scaled_r hr hk hk9
 have hl:=scale_lt2 k1 hk9
 have hql:r.q.natAbs < 2 ^ e480:=Nat.lt_of_lt_of_le (bl_bits _).1 (Nat.pow_le_pow_right (by omega) k2)
 have hrl:(r.p*((tp k:Nat):Int) % r.q).natAbs < 2 ^ e480:=by
  have h1:=Int.emod_lt_of_pos (r.p*((tp k:Nat):Int)) k3
  have h2:=Int.emod_nonneg (r.p*((tp k:Nat):Int)) (show r.q≠0 by omega)
  omega
 have hlow:(r.p*((tp k:Nat):Int) / r.q).natAbs < 2 ^ e960:=Nat.lt_of_le_of_lt (Int.natAbs_ediv_le_natAbs _ _) hl
 have p1:=hp480
 have p2:=hp960
 have p3:=hp961
 have pp:2 ^ e480+2 ^ e480≤2 ^ e960:=by decide +kernel
 have p4:1≤2 ^ e960:=Nat.pow_pos (by omega)
 rw [rndQ,hk,Bool.not_true,if_neg Bool.false_ne_true,if_neg hn,if_neg hm,Int.toNat_natCast]
 unfold rndZ
 have hd:=divmod_r (isI_e (z:=r.p*((tp k:Nat):Int)) (by omega)) (isI_e (z:=r.q) (by omega)) (by omega)
 have hsx:=sign_r (isI_e (z:=r.p*((tp k:Nat):Int)) (by omega))
 generalize r.p*((tp k:Nat):Int) / r.q=low at *
 generalize r.p*((tp k:Nat):Int) % r.q=rest at *
 generalize r.p*((tp k:Nat):Int)=x at *
 have ht:=add_r (isI_e (z:=rest) (by omega)) (isI_e (z:=rest) (by omega))
 rw [fitR,if_pos (by omega)] at ht
 have hcm:=cmp_r (isI_e (z:=rest+rest) (by omega)) (isI_e (z:=r.q) (by omega))
 have ha:=add_r (isI_e (z:=low) (by omega)) (isI_e (z:=1) (by omega))
 rw [fitR,if_pos (by omega)] at ha
 have g0:(eA low)[1]? = some (.int .u32 (dg low.natAbs 0:Nat)):=iA_lim (i:=0) (by omega)
 have eodd:(((((dg low.natAbs 0:Nat):Int)).tmod 2) == 1)=decide (low % 2=1):=by
  rw [dg0,Bool.eq_iff_iff]
  simp only [beq_iff_eq,decide_eq_true_eq]
  rw [Int.tmod_eq_emod_of_nonneg (by omega)]
  omega
 have hab:=above_r hm (decide (sgn x < 0)) (cmpI (rest+rest) r.q) (((((dg low.natAbs 0:Nat):Int)).tmod 2) == 1)
 refine .inl ⟨_,hs,eA_fits _,eA_fits _,.inl ⟨_,hd,eA_fits _,eA_fits _,.inl ⟨_,sign_r (isI_e (z:=rest) (by omega)),fun h1=>?_,fun h1=>?_⟩⟩⟩
 ·rw [sgn_zero] at h1
  have h1:rest=0:=of_decide_eq_true h1
  refine ⟨eA_fits _,?_,trivial⟩
  rw [if_pos h1];rfl
 ·rw [sgn_zero] at h1
  have h1:¬ rest=0:=of_decide_eq_false h1
  rw [if_neg h1]
  refine .inl ⟨_,ht,eA_fits _,.inl ⟨_,hsx,.inl ⟨_,hcm,by decide,by decide,_,g0,by decide,.inl ⟨_,hab,by kernel_rfl,fun h2=>?_,fun h2=>?_⟩⟩⟩⟩
  ·have h2:upM mode (decide (sgn x < 0)) (cmpI (rest+rest) r.q) (((((dg low.natAbs 0:Nat):Int)).tmod 2) == 1)=true:=h2
   rw [eodd,sgn_neg] at h2
   refine .inl ⟨_,fromInt_r 1 (by omega) (by omega),.inl ⟨_,ha,eA_fits _,by kernel_rfl,eA_fits _,?_,trivial⟩⟩
   rw [h2,if_pos rfl];rfl
  ·have h2:upM mode (decide (sgn x < 0)) (cmpI (rest+rest) r.q) (((((dg low.natAbs 0:Nat):Int)).tmod 2) == 1)=false:=h2
   rw [eodd,sgn_neg] at h2
   refine ⟨eA_fits _,?_,trivial⟩
   rw [h2,if_neg Bool.false_ne_true];rfl
theorem roundInt_r {r:RQ} (hr:r.In) (n mode:Int):Pure Tryz.prog 50 [SV.c (.agg r.A),SV.c (.int .i64 n),SV.c (.int .i64 mode)] (resI (rndI (rndQ r n mode))):=by
 refine sx_pure tt_ok mixed at50 _ _ rfl rfl fun w=>?_
 have hx:=round_r hr n mode
 have hlt:=rndQ_lt r n mode
 generalize rndQ r n mode=x at *
 obtain ⟨x,e⟩:=x
 have ht:=toInt_r (isI_e hlt)
 have hx:Pure Tryz.prog 107 [SV.c (.agg r.A),SV.c (.int .i64 n),SV.c (.int .i64 mode)] (.tuple #[.agg (eA x),.int .i64 e]):=hx
 have ht:Pure Tryz.prog 108 [SV.c (.agg (eA x))] (toIntR x):=ht
 refine ⟨r.A_size,.inl ⟨_,hx,eA_fits _,fun h=>?_,fun h=>?_⟩⟩
 ·have h:e≠0:=by simpa using h
  refine ⟨?_,trivial⟩
  rw [rndI,if_pos h];rfl
 ·have h:¬ (e≠0):=by simpa using h
  rw [rndI,if_neg h]
  by_cases hz : -9223372036854775808≤x∧x≤9223372036854775807
  ·rw [toIntR,if_pos hz] at ht
   refine .inl ⟨_,ht,fun _=>⟨fun h1=>⟨fun h2=>?_,fun h2=>?_⟩,fun h1=>⟨fun _=>?_,nofun⟩⟩,nofun⟩
   ·have h2:=of_decide_eq_true h2
    refine ⟨?_,trivial⟩
    rw [if_pos (.inl h2)];rfl
   ·have h1:=of_decide_eq_false h1
    have h2:=of_decide_eq_false h2
    refine ⟨?_,trivial⟩
    rw [if_neg (by omega)];rfl
   ·have h1:=of_decide_eq_true h1
    refine ⟨?_,trivial⟩
    rw [if_pos (.inr h1)];rfl
  ·rw [toIntR,if_neg hz] at ht
   refine .inl ⟨_,ht,nofun,fun _=>⟨nofun,fun _=>⟨fun _=>⟨?_,trivial⟩,nofun⟩⟩⟩
   rw [if_pos (show (x,e).1 < -1000000000000000∨(x,e).1 > 1000000000000000 by show x < _∨x > _;omega)];rfl
end Go.Proofs.YtofllflnmmjijaaGreatDoor
