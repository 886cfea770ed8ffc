/- walks: the reference, rounding; no condition. -/
import Derived.Test.YtekfkdddadcalaaGreatDoorPositionSpoiltQ15
set_option maxRecDepth 100000
set_option maxHeartbeats 4000000
namespace Go.Proofs.YtekfkdddadcalaaGreatDoor
open Go Go.RowKit Go.SX
theorem tW {E:Env} (hE:E.P=Tryz.prog) (r:RQ):bD E (Instr.field 59 (.agg r.A) 0) (.agg (iA r.a r.N)):=fun w _=>by
 rw [hE]
 have h:=eH (P:=Tryz.prog) tD rfl r.A 0 w
 have e:r.A.extract 0 (0+eS.size)=iA r.a r.N:=r.cat_l
 rw [e] at h
 simp [Instr.field,Sem.run_bind,run_underlying Tryz.underlying59,asAgg,h]
theorem x0 {n:Nat} (h:n<=18):ax Tryz.prog 256 [SV.c (.int .i64 n)] (.agg (RQ.of ((tp n:Nat):Int) 1).A):=by
 refine aj af ah Jn _ _ rfl rfl fun w=>?_
 have hpn:=nI h
 rw [D4] at hpn
 refine ⟨fun q f m=>∃ i:Nat,q=n - i/\i<=n/\f=[(0,SV.c (.int .i64 n)),(2,SV.ptr 2 0),(3,SV.c (.int .i64 ((tp i:Nat):Int))),(4,SV.c (.int .i64 i))]/\m=[(2,Blk.row 59 66 dH.zero)],n,⟨_,_,⟨0,rfl,Nat.zero_le _,rfl,rfl⟩,⟨rfl,rfl,rfl,rfl,trivial⟩,⟨rfl,trivial⟩,rfl⟩,?_⟩
 rintro q f m ⟨i,rfl,hi,rfl,rfl⟩
 refine ⟨fun h1=>?_,fun h1=>?_⟩
 ·have h1:(i:Int) < n:=ab h1
  have hp:tp (i+1)<=tp 18:=nI (by omega)
  refine ⟨n - (i+1),_,_,by omega,⟨i+1,rfl,by omega,rfl,rfl⟩,⟨rfl,rfl,ag ?_,ag (by rw [i64_in (by omega)];rfl),trivial⟩,⟨rfl,trivial⟩,rfl⟩
  rw [oc,D4] at hp
  rw [oc]
  rw [i64_in (by omega)]
  omega
 ·have h1:¬ ((i:Int) < n):=ae h1
  obtain rfl:i=n:=by omega
  exact .inl ⟨_,li (by omega) (by omega),RQ.A_fits _,rfl,trivial⟩
theorem tT {r:RQ} (hr:r.In) (hk:r.ok=true) {n:Nat} (hn:n<=9):ax Tryz.prog 227 [SV.c (.agg r.A),SV.c (.int .i64 n)] (.tuple #[.agg (eA (r.p*((tp n:Nat):Int))),.agg (eA r.q)]):=by
 refine aj af ah JN _ _ rfl rfl fun w=>?_
 obtain ⟨k1,k2,k3,k4,k5⟩:=RQ.ok_bits hk
 have hp:=nI hn
 rw [tp9] at hp
 have hl:=tU k1 hn
 have hm:=yj hr.num (aJ (z:=((tp n:Nat):Int)) (cW (by omega) (by omega)))
 rw [eY,if_pos hl] at hm
 rw [<- Hl hk]
 exact ⟨r.A_size,by decide,_,r.cat_l,.inl ⟨_,x0 (by omega),_,tW rfl (.of _ _),.inl ⟨_,hm,ak _,by kernel_rfl,by decide,_,r.cat_r,ak _,fI _ _,by kernel_rfl,rfl,trivial⟩⟩⟩
def BZ (n:Int):Bool:=decide (n >= 0) && decide (n<=9)
theorem lQ {n:Int}:BZ n=true↔¬ (n < 0\/n > 9):=by
 unfold BZ;simp only [Bool.and_eq_true,decide_eq_true_eq];omega
theorem um (n:Int):ax Tryz.prog 226 [SV.c (.int .i64 n)] (.bool (BZ n)):=by
 refine aj af ah JO _ _ rfl rfl fun w=>?_
 refine ⟨fun h=>⟨bv ?_,trivial⟩,fun h=>⟨bv ?_,trivial⟩⟩
 ·have h:decide (n >= 0)=true:=h
  rw [BZ,h,Bool.true_and]
 ·have h:decide (n >= 0)=false:=h
  rw [BZ,h,Bool.false_and]
theorem FF {mode:Int} (_hm:¬ (mode < 1\/mode > 6)) (neg:Bool) (half:Int) (odd:Bool):ax Tryz.prog 229 [SV.c (.int .i64 mode),SV.c (.bool neg),SV.c (.int .i64 half),SV.c (.bool odd)] (.bool (upM mode neg half odd)):=by
 refine aj af ah JL _ _ rfl rfl fun w=>?_
 unfold upM
 refine ⟨fun h1=>⟨bv ?_,trivial⟩,fun h1=>⟨fun h2=>⟨bv ?_,trivial⟩,fun h2=>⟨fun h3=>⟨bv ?_,trivial⟩,fun h3=>⟨fun h4=>⟨bv ?_,trivial⟩,fun h4=>⟨fun h5=>⟨bv ?_,trivial⟩,fun h5=>⟨fun h6=>⟨bv ?_,trivial⟩,fun h6=>⟨bv ?_,trivial⟩⟩⟩⟩⟩⟩⟩
 all_goals simp only [beq_iff_eq,beq_eq_false_iff_ne,ne_eq,bne_iff_ne,bne_eq_false_iff_eq] at *
 ·rw [if_pos h1]
 ·rw [if_neg h1,if_pos h2]
 ·rw [if_neg h1,if_neg h2,if_pos h3]
 ·rw [if_neg h1,if_neg h2,if_neg h3,if_pos h4]
 ·rw [if_neg h1,if_neg h2,if_neg h3,if_neg h4,if_neg h5,if_neg h5,ite_self]
 ·rw [if_neg h1,if_neg h2,if_neg h3,if_neg h4,if_pos h6,if_pos h5]
 ·rw [if_neg h1,if_neg h2,if_neg h3,if_neg h4,if_neg h6,if_pos h5]
theorem xS {r:RQ} (hr:r.In) (n mode:Int):ax Tryz.prog 190 [SV.c (.agg r.A),SV.c (.int .i64 n),SV.c (.int .i64 mode)] (IB (fD r n mode)):=by
 refine aj af ah Kh _ _ rfl rfl fun w=>?_
 refine ⟨r.A_size,.inl ⟨_,ll hr,fun h1=>⟨eS.zero,rfl,ak 0,?_,trivial⟩,fun h1=>.inl ⟨_,um n,fun h2=>⟨eS.zero,rfl,ak 0,?_,trivial⟩,fun h2=>⟨fun h3=>⟨fun h4=>⟨eS.zero,rfl,ak 0,?_,trivial⟩,fun h4=>?_⟩,fun h3=>⟨fun _=>⟨eS.zero,rfl,ak 0,?_,trivial⟩,nofun⟩⟩⟩⟩⟩
 ·have h1:=bnt h1
  rw [fD,h1,Bool.not_false,if_pos rfl];rfl
 all_goals
  have hk:=bnf h1
  clear h1
 ·have h2:=bnt h2
  have h2:n < 0\/n > 9:=Decidable.of_not_not fun h=>by rw [lQ.2 h] at h2;cases h2
  rw [fD,hk,Bool.not_true,if_neg Bool.false_ne_true,if_pos h2];rfl
 all_goals
  have hn:=lQ.1 (bnf h2)
  clear h2
 ·have h4:=ab h4
  rw [fD,hk,Bool.not_true,if_neg Bool.false_ne_true,if_neg hn,if_pos (.inr h4)];rfl
 rotate_left
 ·have h3:=ab h3
  rw [fD,hk,Bool.not_true,if_neg Bool.false_ne_true,if_neg hn,if_pos (.inl h3)];rfl
 have h3:=ae h3
 have h4:=ae h4
 have hm:¬ (mode < 1\/mode > 6):=by omega
 obtain ⟨k,rfl⟩:∃ k:Nat,n=k:=⟨n.toNat,by omega⟩
 have hk9:k<=9:=by omega
 obtain ⟨k1,k2,k3,k4,k5⟩:=RQ.ok_bits hk
 have hs:=tT hr hk hk9
 have hl:=gZ k1 hk9
 have hql:r.q.natAbs < 2 ^ iP:=Nat.lt_of_lt_of_le (cZ _).1 (Nat.pow_le_pow_right (by omega) k2)
 have hrl:(r.p*((tp k:Nat):Int) % r.q).natAbs < 2 ^ iP:=by
  have h1:=Int.emod_lt_of_pos (r.p*((tp k:Nat):Int)) k3
  have h2:=Int.emod_nonneg (r.p*((tp k:Nat):Int)) (show r.q≠0 by omega)
  omega
 have hlow:(r.p*((tp k:Nat):Int) / r.q).natAbs < 2 ^ j4:=Nat.lt_of_le_of_lt (Int.natAbs_ediv_le_natAbs _ _) hl
 have p1:=uV
 have p2:=uU
 have p3:=yF
 have pp:2 ^ iP+2 ^ iP<=2 ^ j4:=by decide +kernel
 have p4:1<=2 ^ j4:=Nat.pow_pos (by omega)
 rw [fD,hk,Bool.not_true,if_neg Bool.false_ne_true,if_neg hn,if_neg hm,Int.toNat_natCast]
 unfold qr
 have hd:=im (aJ (z:=r.p*((tp k:Nat):Int)) (by omega)) (aJ (z:=r.q) (by omega)) (by omega)
 have hsx:=fT (aJ (z:=r.p*((tp k:Nat):Int)) (by omega))
 generalize r.p*((tp k:Nat):Int) / r.q=low at *
 generalize r.p*((tp k:Nat):Int) % r.q=rest at *
 generalize r.p*((tp k:Nat):Int)=x at *
 have ht:=DM (aJ (z:=rest) (by omega)) (aJ (z:=rest) (by omega))
 rw [eY,if_pos (by omega)] at ht
 have hcm:=Gc (aJ (z:=rest+rest) (by omega)) (aJ (z:=r.q) (by omega))
 have ha:=DM (aJ (z:=low) (by omega)) (aJ (z:=1) (by omega))
 rw [eY,if_pos (by omega)] at ha
 have g0:(eA low)[1]? = some (.int .u32 (dg low.natAbs 0:Nat)):=nn (i:=0) (by omega)
 have eodd:(((((dg low.natAbs 0:Nat):Int)).tmod 2) == 1)=decide (low % 2=1):=by
  rw [dg0,Bool.eq_iff_iff]
  simp only [beq_iff_eq,decide_eq_true_eq]
  rw [Int.tmod_eq_emod_of_nonneg (by omega)]
  omega
 have hab:=FF hm (decide (sgn x < 0)) (ga (rest+rest) r.q) (((((dg low.natAbs 0:Nat):Int)).tmod 2) == 1)
 refine .inl ⟨_,hs,ak _,ak _,.inl ⟨_,hd,ak _,ak _,.inl ⟨_,fT (aJ (z:=rest) (by omega)),fun h1=>?_,fun h1=>?_⟩⟩⟩
 ·rw [cF] at h1
  have h1:rest=0:=ab h1
  refine ⟨ak _,?_,trivial⟩
  rw [if_pos h1];rfl
 ·rw [cF] at h1
  have h1:¬ rest=0:=ae h1
  rw [if_neg h1]
  refine .inl ⟨_,ht,ak _,.inl ⟨_,hsx,.inl ⟨_,hcm,by decide,by decide,_,g0,by decide,.inl ⟨_,hab,by kernel_rfl,fun h2=>?_,fun h2=>?_⟩⟩⟩⟩
  ·have h2:upM mode (decide (sgn x < 0)) (ga (rest+rest) r.q) (((((dg low.natAbs 0:Nat):Int)).tmod 2) == 1)=true:=h2
   rw [eodd,fB] at h2
   refine .inl ⟨_,cE 1 (by omega) (by omega),.inl ⟨_,ha,ak _,by kernel_rfl,ak _,?_,trivial⟩⟩
   rw [h2,if_pos rfl];rfl
  ·have h2:upM mode (decide (sgn x < 0)) (ga (rest+rest) r.q) (((((dg low.natAbs 0:Nat):Int)).tmod 2) == 1)=false:=h2
   rw [eodd,fB] at h2
   refine ⟨ak _,?_,trivial⟩
   rw [h2,if_neg Bool.false_ne_true];rfl
theorem wy {r:RQ} (hr:r.In) (n mode:Int):ax Tryz.prog 138 [SV.c (.agg r.A),SV.c (.int .i64 n),SV.c (.int .i64 mode)] (ID (lC (fD r n mode))):=by
 refine aj af ah KZ _ _ rfl rfl fun w=>?_
 have hx:=xS hr n mode
 have hlt:=xU r n mode
 generalize fD r n mode=x at *
 obtain ⟨x,e⟩:=x
 have ht:=xI (aJ hlt)
 have hx:ax Tryz.prog 190 [SV.c (.agg r.A),SV.c (.int .i64 n),SV.c (.int .i64 mode)] (.tuple #[.agg (eA x),.int .i64 e]):=hx
 have ht:ax Tryz.prog 136 [SV.c (.agg (eA x))] (cn x):=ht
 refine ⟨r.A_size,.inl ⟨_,hx,ak _,fun h=>?_,fun h=>?_⟩⟩
 ·have h:e≠0:=by simpa using h
  refine ⟨?_,trivial⟩
  rw [lC,if_pos h];rfl
 ·have h:¬ (e≠0):=by simpa using h
  rw [lC,if_neg h]
  by_cases hz : -9223372036854775808<=x/\x<=9223372036854775807
  ·rw [cn,if_pos hz] at ht
   refine .inl ⟨_,ht,fun _=>⟨fun h1=>⟨fun h2=>?_,fun h2=>?_⟩,fun h1=>⟨fun _=>?_,nofun⟩⟩,nofun⟩
   ·have h2:=ab h2
    refine ⟨?_,trivial⟩
    rw [if_pos (.inl h2)];rfl
   ·have h1:=ae h1
    have h2:=ae h2
    refine ⟨?_,trivial⟩
    rw [if_neg (by omega)];rfl
   ·have h1:=ab h1
    refine ⟨?_,trivial⟩
    rw [if_pos (.inr h1)];rfl
  ·rw [cn,if_neg hz] at ht
   refine .inl ⟨_,ht,nofun,fun _=>⟨nofun,fun _=>⟨fun _=>⟨?_,trivial⟩,nofun⟩⟩⟩
   rw [if_pos (show (x,e).1 < -1000000000000000\/(x,e).1 > 1000000000000000 by show x < _\/x > _;omega)];rfl
def vn (r:RQ) (n:Int):Bool×Int:=if !r.ok then (false,20) else if n < 0\/n > 9 then (false,30) else (decide (r.p*(tp n.toNat:Nat) % r.q=0),0)
theorem E9 {r:RQ} (hr:r.In) (n:Int):ax Tryz.prog 252 [SV.c (.agg r.A),SV.c (.int .i64 n)] (.tuple #[.bool (vn r n).1,.int .i64 (vn r n).2]):=by
 refine aj af ah Jr _ _ rfl rfl fun w=>?_
 refine ⟨r.A_size,.inl ⟨_,ll hr,fun h1=>⟨?_,trivial⟩,fun h1=>.inl ⟨_,um n,fun h2=>⟨?_,trivial⟩,fun h2=>?_⟩⟩⟩
 ·have h1:=bnt h1
  rw [vn,h1,Bool.not_false,if_pos rfl];rfl
 all_goals
  have hk:=bnf h1
  clear h1
 ·have h2:=bnt h2
  have h2:n < 0\/n > 9:=Decidable.of_not_not fun h=>by rw [lQ.2 h] at h2;cases h2
  rw [vn,hk,Bool.not_true,if_neg Bool.false_ne_true,if_pos h2];rfl
 have hn:=lQ.1 (bnf h2)
 obtain ⟨k,rfl⟩:∃ k:Nat,n=k:=⟨n.toNat,by omega⟩
 have hk9:k<=9:=by omega
 obtain ⟨k1,k2,k3,k4,k5⟩:=RQ.ok_bits hk
 have hs:=tT hr hk hk9
 have hl:=gZ k1 hk9
 have hql:r.q.natAbs < 2 ^ iP:=Nat.lt_of_lt_of_le (cZ _).1 (Nat.pow_le_pow_right (by omega) k2)
 have hrl:(r.p*((tp k:Nat):Int) % r.q).natAbs < 2 ^ iP:=by
  have h1:=Int.emod_lt_of_pos (r.p*((tp k:Nat):Int)) k3
  have h2:=Int.emod_nonneg (r.p*((tp k:Nat):Int)) (show r.q≠0 by omega)
  omega
 have p1:=uV
 have p2:=uU
 rw [vn,hk,Bool.not_true,if_neg Bool.false_ne_true,if_neg hn,Int.toNat_natCast]
 have hd:=im (aJ (z:=r.p*((tp k:Nat):Int)) (by omega)) (aJ (z:=r.q) (by omega)) (by omega)
 generalize r.p*((tp k:Nat):Int) % r.q=rest at *
 refine .inl ⟨_,hs,ak _,ak _,.inl ⟨_,hd,ak _,ak _,.inl ⟨_,fT (aJ (z:=rest) (by omega)),jc (bv cF) rfl,trivial⟩⟩⟩
end Go.Proofs.YtekfkdddadcalaaGreatDoor
