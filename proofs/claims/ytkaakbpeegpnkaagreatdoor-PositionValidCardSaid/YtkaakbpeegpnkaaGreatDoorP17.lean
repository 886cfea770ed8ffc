/- walks: the reference, pairs. walks: the reference, rounding; no condition. -/
import Derived.Test.YtkaakbpeegpnkaaGreatDoorP16
set_option maxRecDepth 100000
set_option maxHeartbeats 4000000
namespace Go.Proofs.YtkaakbpeegpnkaaGreatDoor
open Go Go.RowKit Go.SX
theorem whole_r {n:Int} (h1 : -9223372036854775808≤n) (h2:n≤9223372036854775807):Pure Tryz.prog 106 [SV.c (.int .i64 n)] (.agg (RQ.of n 1).A):=by
 refine sx_pure tt_ok mixed at106 _ _ rfl rfl fun w=>?_
 exact .inl ⟨_,fromInt_r n h1 h2,.inl ⟨_,fromInt_r 1 (by omega) (by omega),_,fill_ratio (eA_size _) (eA_size _) rfl rfl,(RQ.of n 1).A_fits,rfl,trivial⟩⟩
theorem zeroR_r:Pure Tryz.prog 153 [] (.agg (RQ.of 0 1).A):=by
 refine sx_pure tt_ok mixed at153 _ _ rfl rfl fun w=>?_
 exact .inl ⟨_,whole_r (n:=0) (by omega) (by omega),(RQ.of 0 1).A_fits,rfl,trivial⟩
theorem product_r {A B:Array Value} {x y:Int} (hA:IsI A x) (hB:IsI B y) (hl:(x*y).natAbs < BB ^ 32):Pure Tryz.prog 165 [SV.c (.agg A),SV.c (.agg B)] (.agg (eA (x*y))):=by
 refine sx_pure tt_ok mixed at165 _ _ rfl rfl fun w=>?_
 have h:=mul_r hA hB
 rw [fitR,if_pos hl] at h
 exact ⟨hA.size,hB.size,.inl ⟨_,h,eA_fits _,eA_fits _,rfl,trivial⟩⟩
theorem ediv_neg_iff {y:Int} {g:Nat} (hg:0 < g):decide (sgn (y / (g:Int)) < 0)=decide (y < 0):=by
 rw [sgn_neg,decide_eq_decide]
 constructor
 ·intro h
  rcases Int.lt_or_le y 0 with h1 | h1
  ·exact h1
  ·have:=Int.ediv_nonneg h1 (show (0:Int)≤g by omega);omega
 ·intro h;exact Int.ediv_neg_of_neg_of_pos h (by omega)
theorem make_r {A B:Array Value} {x y:Int} (hA:IsI A x) (hB:IsI B y):Pure Tryz.prog 111 [SV.c (.agg A),SV.c (.agg B)] (resQ (mkQ x y)):=by
 refine sx_pureC [8] tt_ok mixed at111 _ _ rfl rfl fun w=>?_
 refine ⟨hA.size,hB.size,.inl ⟨_,sign_r hB,fun h=>?_,fun h=>?_⟩⟩
 ·rw [sgn_zero] at h
  have h:=of_decide_eq_true h
  refine ⟨ti59.zero,rfl,(RQ.of 0 0).A_fits,?_,trivial⟩
  rw [mkQ,if_pos h];rfl
 rw [sgn_zero] at h
 have h:=of_decide_eq_false h
 obtain ⟨g1,g2⟩:=gcd_le (x:=x) h
 have gl:((Int.gcd x y:Nat):Int).natAbs < BB ^ 32:=by have:=hB.lt;omega
 have gn:((Int.gcd x y:Nat):Int)≠0:=by omega
 have d1:=divmod_r hA (isI_e gl) gn
 have d2:=divmod_r hB (isI_e gl) gn
 have lx:(x / ((Int.gcd x y:Nat):Int)).natAbs < BB ^ 32:=Nat.lt_of_le_of_lt (Int.natAbs_ediv_le_natAbs x _) hA.lt
 have ly:(y / ((Int.gcd x y:Nat):Int)).natAbs < BB ^ 32:=Nat.lt_of_le_of_lt (Int.natAbs_ediv_le_natAbs y _) hB.lt
 refine .inl ⟨_,gcd_r hA hB,eA_fits _,.inl ⟨_,d1,eA_fits _,eA_fits _,.inl ⟨_,d2,eA_fits _,eA_fits _,fun f mm=>f=[(4,SV.ptr 4 0),(7,SV.ptr 7 0),(10,SV.ptr 10 0)]∧mm=[(4,Blk.row 59 66 ti59.zero),(7,Blk.row 57 33 (eA (x / (sgn y*Int.gcd x y)))),(10,Blk.row 57 33 (eA (y / (sgn y*Int.gcd x y))))],.inl ⟨_,sign_r (isI_e ly),fun h2=>?_,fun h2=>?_⟩,?_⟩⟩⟩
 ·rw [ediv_neg_iff g1] at h2
  have h2:=of_decide_eq_true h2
  have e:sgn y*(Int.gcd x y:Int)=-((Int.gcd x y:Nat):Int):=by unfold sgn;rw [if_pos h2];omega
  refine .inl ⟨_,neg_r (isI_e lx),.inl ⟨_,neg_r (isI_e ly),eA_fits _,eA_fits _,by kernel_rfl,_,_,⟨rfl,rfl⟩,⟨rfl,rfl,rfl,trivial⟩,⟨rfl,row_eq (by rw [e,Int.ediv_neg]),row_eq (by rw [e,Int.ediv_neg]),trivial⟩,rfl⟩⟩
 ·rw [ediv_neg_iff g1] at h2
  have h2:=of_decide_eq_false h2
  have e:sgn y*(Int.gcd x y:Int)=((Int.gcd x y:Nat):Int):=by unfold sgn;rw [if_neg h2,if_neg h];omega
  exact ⟨_,_,⟨rfl,rfl⟩,⟨rfl,rfl,rfl,trivial⟩,⟨rfl,row_eq (by rw [e]),row_eq (by rw [e]),trivial⟩,rfl⟩
 rintro f mm ⟨rfl,rfl⟩
 have lx2:(x / (sgn y*Int.gcd x y)).natAbs < BB ^ 32:=Nat.lt_of_le_of_lt (Int.natAbs_ediv_le_natAbs x _) hA.lt
 have ly2:(y / (sgn y*Int.gcd x y)).natAbs < BB ^ 32:=Nat.lt_of_le_of_lt (Int.natAbs_ediv_le_natAbs y _) hB.lt
 rw [mkQ,if_neg h]
 generalize x / (sgn y*Int.gcd x y)=p at *
 generalize y / (sgn y*Int.gcd x y)=q at *
 have bad:¬ (bl p.natAbs≤480∧bl q.natAbs≤480)→mkRes [.agg ti59.zero,.int .i64 10]=resQ (if bl p.natAbs≤480∧bl q.natAbs≤480 then (.of p q,0) else (.of 0 0,10)):=fun h=>by rw [if_neg h];rfl
 refine .inl ⟨_,bits_r (isI_e lx2),fun h2=>.inl ⟨_,bits_r (isI_e ly2),fun h3=>⟨ti59.zero,rfl,(RQ.of 0 0).A_fits,bad ?_,trivial⟩,fun h3=>⟨_,fill_ratio (eA_size _) (eA_size _) rfl rfl,(RQ.of p q).A_fits,?_,trivial⟩⟩,fun h2=>⟨fun _=>⟨ti59.zero,rfl,(RQ.of 0 0).A_fits,bad ?_,trivial⟩,nofun⟩⟩
 ·have:=of_decide_eq_true h3
  omega
 ·have h2:=of_decide_eq_false h2
  have h3:=of_decide_eq_false h3
  rw [if_pos (by omega)];rfl
 ·have:=of_decide_eq_true h2
  omega
theorem of_r {n d:Int} (h1 : -9223372036854775808≤n) (h2:n≤9223372036854775807) (h3 : -9223372036854775808≤d) (h4:d≤9223372036854775807):Pure Tryz.prog 76 [SV.c (.int .i64 n),SV.c (.int .i64 d)] (resQ (mkQ n d)):=by
 refine sx_pure tt_ok mixed at76 _ _ rfl rfl fun w=>?_
 exact .inl ⟨_,fromInt_r n h1 h2,.inl ⟨_,fromInt_r d h3 h4,.inl ⟨_,make_r (isI_e (i64_lt h1 h2)) (isI_e (i64_lt h3 h4)),RQ.A_fits _,rfl,trivial⟩⟩⟩
theorem ok_parts (r:RQ):r.ok=((!(r.a && decide (r.N=0))) && (!r.b && !decide (r.D=0)) && (decide (bl r.N≤480) && (decide (bl r.D≤480) && decide (Nat.gcd r.N r.D=1)))):=by
 unfold RQ.ok
 rw [Bool.eq_iff_iff]
 simp only [decide_eq_true_eq,Bool.and_eq_true,Bool.not_eq_true',Bool.and_eq_false_iff,decide_eq_false_iff_not]
 constructor
 ·rintro ⟨h1,h2,h3,h4,h5,h6⟩
  refine ⟨⟨?_,h4,by omega⟩,h1,h2,h6⟩
  by_cases h:r.a=true
  ·exact .inr (h3 h)
  ·exact .inl (by simpa using h)
 ·rintro ⟨⟨h3,h4,h5⟩,h1,h2,h6⟩
  refine ⟨h1,h2,fun h=>?_,h4,by omega,h6⟩
  rcases h3 with h3 | h3
  ·rw [h] at h3;cases h3
  ·exact h3
theorem valid_r {r:RQ} (h:r.In):Pure Tryz.prog 164 [SV.c (.agg r.A)] (.bool r.ok):=by
 refine sx_pure tt_ok mixed at164 _ _ rfl rfl fun w=>?_
 have s1:=sign_r h.num
 have s2:=sign_r h.den
 have b1:=bits_r h.num
 have b2:=bits_r h.den
 have hg:=gcd_r h.num h.den
 rw [RQ.p,zN_abs] at b1
 rw [RQ.q,zN_abs] at b2
 rw [RQ.p,RQ.q,gcd_zN] at hg
 have one:=fromInt_r 1 (by omega) (by omega)
 have h1l:(1:Int).natAbs < BB ^ 32:=Nat.lt_of_lt_of_le (by decide:1 < 18446744073709551616) two64
 have gl:((Nat.gcd r.N r.D:Nat):Int).natAbs < BB ^ 32:=by
  rw [Int.natAbs_natCast]
  rcases Nat.eq_zero_or_pos r.N with e | e
  ·rw [e,Nat.gcd_zero_left];exact h.D
  ·exact Nat.lt_of_le_of_lt (Nat.gcd_le_left _ e) h.N
 have z1:(sgn r.p == 0)=decide (r.N=0):=by
  rw [sgn_zero,RQ.p,decide_eq_decide]
  cases r.a<;>simp [zN]
 have z2:decide (sgn r.q≤0)=!(!r.b && !decide (r.D=0)):=by
  rw [RQ.q]
  cases hb:r.b
  ·by_cases hd:r.D=0
   ·rw [hd];rfl
   ·have:sgn (zN false r.D)=1:=by unfold sgn zN;rw [if_neg Bool.false_ne_true,if_neg (by omega),if_neg (by omega)]
    rw [this,decide_eq_false hd];rfl
  ·have:sgn (zN true r.D)≤0:=by unfold sgn zN;rw [if_pos rfl];split<;>(try split)<;>omega
   rw [decide_eq_true this];rfl
 have A0:r.A[0]? = some (.bool r.a):=by
  rw [RQ.A,Array.getElem?_append_left (by rw [iA_size];omega)];exact iA_neg
 have tail:(!(r.a && decide (r.N=0)))=true→(!r.b && !decide (r.D=0))=true→r.ok=(decide (bl r.N≤480) && (decide (bl r.D≤480) && decide (Nat.gcd r.N r.D=1))):=fun h1 h2=>by rw [ok_parts,h1,h2];rfl
 refine ⟨r.A_size,_,A0,fun h1=>⟨by decide,_,r.cat_l,.inl ⟨_,s1,fun h2=>⟨by decide,_,r.cat_r,.inl ⟨_,s2,fun h3=>?_,fun h3=>?_⟩⟩,fun h2=>⟨fun _=>⟨bv ?_,trivial⟩,nofun⟩⟩⟩,fun h1=>⟨fun _=>⟨by decide,_,r.cat_r,.inl ⟨_,s2,fun h3=>?_,fun h3=>?_⟩⟩,nofun⟩⟩
 ·have h3:decide (sgn r.q≤0)=true:=h3
  rw [z2] at h3
  refine ⟨bv ?_,trivial⟩
  rw [ok_parts,bnt h3];simp
 ·have h3:decide (sgn r.q≤0)=false:=h3
  rw [z2] at h3
  have h2:(sgn r.p == 0)=false:=h2
  rw [z1] at h2
  have hok:=tail (by rw [h2];simp) (of_bnf h3)
  refine ⟨by decide,_,r.cat_l,.inl ⟨_,b1,fun h4=>⟨by decide,_,r.cat_r,.inl ⟨_,b2,fun h5=>⟨by decide,_,r.cat_l,by decide,_,r.cat_r,.inl ⟨_,hg,.inl ⟨_,one,_,eql_int rfl gl h1l,bv ?_,trivial⟩⟩⟩,fun h5=>⟨bv ?_,trivial⟩⟩⟩,fun h4=>⟨nofun,fun _=>⟨bv ?_,trivial⟩⟩⟩⟩
  ·rw [hok,decide_eq_true (show bl r.N≤480 by have:=of_decide_eq_true h4;omega),decide_eq_true (show bl r.D≤480 by have:=of_decide_eq_true h5;omega),Bool.true_and,Bool.true_and,decide_eq_decide]
   omega
  ·rw [hok,decide_eq_false (show ¬ bl r.D≤480 by have:=of_decide_eq_false h5;omega),Bool.false_and,Bool.and_false]
  ·rw [hok,decide_eq_false (show ¬ bl r.N≤480 by have:=of_decide_eq_false h4;omega),Bool.false_and]
 ·have h1:r.a=true:=h1
  have h2:(sgn r.p == 0)=true:=h2
  rw [z1] at h2
  rw [ok_parts,h1,h2];rfl
 ·have h3:decide (sgn r.q≤0)=true:=h3
  rw [z2] at h3
  refine ⟨bv ?_,trivial⟩
  rw [ok_parts,bnt h3];simp
 ·have h3:decide (sgn r.q≤0)=false:=h3
  rw [z2] at h3
  have h1:r.a=false:=h1
  have hok:=tail (by rw [h1];rfl) (of_bnf h3)
  refine ⟨by decide,_,r.cat_l,.inl ⟨_,b1,fun h4=>⟨by decide,_,r.cat_r,.inl ⟨_,b2,fun h5=>⟨by decide,_,r.cat_l,by decide,_,r.cat_r,.inl ⟨_,hg,.inl ⟨_,one,_,eql_int rfl gl h1l,bv ?_,trivial⟩⟩⟩,fun h5=>⟨bv ?_,trivial⟩⟩⟩,fun h4=>⟨nofun,fun _=>⟨bv ?_,trivial⟩⟩⟩⟩
  ·rw [hok,decide_eq_true (show bl r.N≤480 by have:=of_decide_eq_true h4;omega),decide_eq_true (show bl r.D≤480 by have:=of_decide_eq_true h5;omega),Bool.true_and,Bool.true_and,decide_eq_decide]
   omega
  ·rw [hok,decide_eq_false (show ¬ bl r.D≤480 by have:=of_decide_eq_false h5;omega),Bool.false_and,Bool.and_false]
  ·rw [hok,decide_eq_false (show ¬ bl r.N≤480 by have:=of_decide_eq_false h4;omega),Bool.false_and]
theorem mulR_r {r s:RQ} (hr:r.In) (hs:s.In):Pure Tryz.prog 112 [SV.c (.agg r.A),SV.c (.agg s.A)] (resQ (mulQ r s)):=by
 refine sx_pure tt_ok mixed at112 _ _ rfl rfl fun w=>?_
 refine ⟨r.A_size,s.A_size,.inl ⟨_,valid_r hr,fun h1=>.inl ⟨_,valid_r hs,fun h2=>?_,fun h2=>?_⟩,fun h1=>?_⟩⟩
 ·have h2:=bnt h2
  refine ⟨ti59.zero,rfl,(RQ.of 0 0).A_fits,?_,trivial⟩
  rw [mulQ,h2,Bool.and_false,if_neg Bool.false_ne_true];rfl
 ·have h1:=of_bnf h1
  have h2:=bnf h2
  have k1:=RQ.ok_bits h1
  have k2:=RQ.ok_bits h2
  have m1:=mul_lt' k1.1 k2.1
  have m2:=mul_lt' k1.2.1 k2.2.1
  refine ⟨by decide,_,r.cat_l,by decide,_,s.cat_l,.inl ⟨_,product_r hr.num hs.num m1,by decide,_,r.cat_r,by decide,_,s.cat_r,.inl ⟨_,product_r hr.den hs.den m2,.inl ⟨_,make_r (isI_e m1) (isI_e m2),RQ.A_fits _,by kernel_rfl,?_,trivial⟩⟩⟩⟩
  rw [mulQ,h1,h2,Bool.and_true,if_pos rfl];rfl
 ·have h1:=bnt h1
  refine ⟨fun _=>⟨ti59.zero,rfl,(RQ.of 0 0).A_fits,?_,trivial⟩,nofun⟩
  rw [mulQ,h1,Bool.false_and,if_neg Bool.false_ne_true];rfl
theorem den_ok {r:RQ} (hk:r.ok=true):iA r.b r.D=eA r.q:=by
 obtain ⟨k1,k2,k3,k4,k5⟩:=RQ.ok_bits hk
 have h:RQ.A r=RQ.A (.of r.p r.q):=congrArg RQ.A k5
 exact (r.cat_r).symm.trans ((congrArg (fun x=>x.extract 33 (33+33)) h).trans (RQ.cat_r (.of r.p r.q)))
theorem compareR_r {r s:RQ} (hr:r.In) (hs:s.In) (h1:(r.p*s.q).natAbs < BB ^ 32) (h2:(s.p*r.q).natAbs < BB ^ 32):Pure Tryz.prog 231 [SV.c (.agg r.A),SV.c (.agg s.A)] (.int .i64 (cmpI (r.p*s.q) (s.p*r.q))):=by
 refine sx_pure tt_ok mixed at231 _ _ rfl rfl fun w=>?_
 exact ⟨r.A_size,s.A_size,by decide,_,r.cat_l,by decide,_,s.cat_r,.inl ⟨_,product_r hr.num hs.den h1,by decide,_,s.cat_l,by decide,_,r.cat_r,.inl ⟨_,product_r hs.num hr.den h2,.inl ⟨_,cmp_r (isI_e h1) (isI_e h2),by kernel_rfl,rfl,trivial⟩⟩⟩⟩
def betQ (r:RQ) (lo hi:Int):Bool:=r.ok && (decide (lo*r.q≤r.p) && decide (r.p≤hi*r.q))
theorem cmpI_ge (x y:Int):decide (cmpI x y ≥ 0)=decide (y≤x):=by
 rw [Bool.eq_iff_iff];simp only [decide_eq_true_eq];unfold cmpI;split
 ·omega
 ·split<;>omega
theorem between_r {r:RQ} (hr:r.In) {lo hi:Int} (l1 : -9223372036854775808≤lo) (l2:lo≤9223372036854775807) (u1 : -9223372036854775808≤hi) (u2:hi≤9223372036854775807):Pure Tryz.prog 196 [SV.c (.agg r.A),SV.c (.int .i64 lo),SV.c (.int .i64 hi)] (.bool (betQ r lo hi)):=by
 refine sx_pure tt_ok mixed at196 _ _ rfl rfl fun w=>?_
 have key:∀ n:Int,-9223372036854775808≤n→n≤9223372036854775807→r.ok=true→Pure Tryz.prog 231 [SV.c (.agg r.A),SV.c (.agg (RQ.of n 1).A)] (.int .i64 (cmpI r.p (n*r.q))):=fun n a b hk=>by
  have k1:=RQ.ok_bits hk
  have hb:bl n.natAbs≤480:=Nat.le_trans (bl_le (k:=64) (by omega)) (by omega)
  have h1:(r.p*(RQ.of n 1).q).natAbs < BB ^ 32:=by rw [RQ.of_q];exact mul_lt' k1.1 (by decide)
  have h2:((RQ.of n 1).p*r.q).natAbs < BB ^ 32:=by rw [RQ.of_p];exact mul_lt' hb k1.2.1
  have:=compareR_r hr (s:=.of n 1) ⟨i64_lt a b,i64_lt (n:=1) (by omega) (by omega)⟩ h1 h2
  rw [RQ.of_p,RQ.of_q,Int.mul_one] at this
  exact this
 refine ⟨r.A_size,.inl ⟨_,valid_r hr,fun h1=>.inl ⟨_,whole_r l1 l2,.inl ⟨_,key lo l1 l2 h1,fun h2=>.inl ⟨_,whole_r u1 u2,.inl ⟨_,key hi u1 u2 h1,by kernel_rfl,bv ?_,trivial⟩⟩,fun h2=>⟨by kernel_rfl,bv ?_,trivial⟩⟩⟩,fun h1=>⟨nofun,fun _=>⟨by kernel_rfl,bv ?_,trivial⟩⟩⟩⟩
 ·have h1:r.ok=true:=h1
  have h2:decide (cmpI r.p (lo*r.q) ≥ 0)=true:=h2
  rw [cmpI_ge] at h2
  rw [betQ,h1,h2,cmpI_le];rfl
 ·have h2:decide (cmpI r.p (lo*r.q) ≥ 0)=false:=h2
  rw [cmpI_ge] at h2
  rw [betQ,h2,Bool.false_and,Bool.and_false]
 ·have h1:r.ok=false:=h1
  rw [betQ,h1];rfl
theorem runs_num {E:Env} (hE:E.P=Tryz.prog) (r:RQ):Runs E (Instr.field 59 (.agg r.A) 0) (.agg (iA r.a r.N)):=fun w _=>by
 rw [hE]
 have h:=part_agg (P:=Tryz.prog) tok57 rfl r.A 0 w
 have e:r.A.extract 0 (0+ti57.size)=iA r.a r.N:=r.cat_l
 rw [e] at h
 simp [Instr.field,Sem.run_bind,run_underlying Tryz.underlying59,asAgg,h]
theorem power_r {n:Nat} (h:n≤18):Pure Tryz.prog 232 [SV.c (.int .i64 n)] (.agg (RQ.of ((tp n:Nat):Int) 1).A):=by
 refine sx_pure tt_ok mixed at232 _ _ rfl rfl fun w=>?_
 have hpn:=tp_le h
 rw [tp18] at hpn
 refine ⟨fun q f m=>∃ i:Nat,q=n - i∧i≤n∧f=[(0,SV.c (.int .i64 n)),(2,SV.ptr 2 0),(3,SV.c (.int .i64 ((tp i:Nat):Int))),(4,SV.c (.int .i64 i))]∧m=[(2,Blk.row 59 66 ti59.zero)],n,⟨_,_,⟨0,rfl,Nat.zero_le _,rfl,rfl⟩,⟨rfl,rfl,rfl,rfl,trivial⟩,⟨rfl,trivial⟩,rfl⟩,?_⟩
 rintro q f m ⟨i,rfl,hi,rfl,rfl⟩
 refine ⟨fun h1=>?_,fun h1=>?_⟩
 ·have h1:(i:Int) < n:=of_decide_eq_true h1
  have hp:tp (i+1)≤tp 18:=tp_le (by omega)
  refine ⟨n - (i+1),_,_,by omega,⟨i+1,rfl,by omega,rfl,rfl⟩,⟨rfl,rfl,c_int ?_,c_int (by rw [i64_in (by omega)];rfl),trivial⟩,⟨rfl,trivial⟩,rfl⟩
  rw [tp_succ,tp18] at hp
  rw [tp_succ]
  rw [i64_in (by omega)]
  omega
 ·have h1:¬ ((i:Int) < n):=of_decide_eq_false h1
  obtain rfl:i=n:=by omega
  exact .inl ⟨_,whole_r (by omega) (by omega),RQ.A_fits _,rfl,trivial⟩
theorem scaled_r {r:RQ} (hr:r.In) (hk:r.ok=true) {n:Nat} (hn:n≤9):Pure Tryz.prog 203 [SV.c (.agg r.A),SV.c (.int .i64 n)] (.tuple #[.agg (eA (r.p*((tp n:Nat):Int))),.agg (eA r.q)]):=by
 refine sx_pure tt_ok mixed at203 _ _ rfl rfl fun w=>?_
 obtain ⟨k1,k2,k3,k4,k5⟩:=RQ.ok_bits hk
 have hp:=tp_le hn
 rw [tp9] at hp
 have hl:=scale_lt k1 hn
 have hm:=mul_r hr.num (isI_e (z:=((tp n:Nat):Int)) (i64_lt (by omega) (by omega)))
 rw [fitR,if_pos hl] at hm
 rw [← den_ok hk]
 exact ⟨r.A_size,by decide,_,r.cat_l,.inl ⟨_,power_r (by omega),_,runs_num rfl (.of _ _),.inl ⟨_,hm,eA_fits _,by kernel_rfl,by decide,_,r.cat_r,eA_fits _,iA_fits _ _,by kernel_rfl,rfl,trivial⟩⟩⟩
def plOk (n:Int):Bool:=decide (n ≥ 0) && decide (n≤9)
theorem plOk_iff {n:Int}:plOk n=true↔¬ (n < 0∨n > 9):=by
 unfold plOk;simp only [Bool.and_eq_true,decide_eq_true_eq];omega
theorem places_r (n:Int):Pure Tryz.prog 202 [SV.c (.int .i64 n)] (.bool (plOk n)):=by
 refine sx_pure tt_ok mixed at202 _ _ rfl rfl fun w=>?_
 refine ⟨fun h=>⟨bv ?_,trivial⟩,fun h=>⟨bv ?_,trivial⟩⟩
 ·have h:decide (n ≥ 0)=true:=h
  rw [plOk,h,Bool.true_and]
 ·have h:decide (n ≥ 0)=false:=h
  rw [plOk,h,Bool.false_and]
theorem above_r {mode:Int} (_hm:¬ (mode < 1∨mode > 6)) (neg:Bool) (half:Int) (odd:Bool):Pure Tryz.prog 205 [SV.c (.int .i64 mode),SV.c (.bool neg),SV.c (.int .i64 half),SV.c (.bool odd)] (.bool (upM mode neg half odd)):=by
 refine sx_pure tt_ok mixed at205 _ _ rfl rfl fun w=>?_
 unfold upM
 refine ⟨fun h1=>⟨bv ?_,trivial⟩,fun h1=>⟨fun h2=>⟨bv ?_,trivial⟩,fun h2=>⟨fun h3=>⟨bv ?_,trivial⟩,fun h3=>⟨fun h4=>⟨bv ?_,trivial⟩,fun h4=>⟨fun h5=>⟨bv ?_,trivial⟩,fun h5=>⟨fun h6=>⟨bv ?_,trivial⟩,fun h6=>⟨bv ?_,trivial⟩⟩⟩⟩⟩⟩⟩
 all_goals simp only [beq_iff_eq,beq_eq_false_iff_ne,ne_eq,bne_iff_ne,bne_eq_false_iff_eq] at *
 ·rw [if_pos h1]
 ·rw [if_neg h1,if_pos h2]
 ·rw [if_neg h1,if_neg h2,if_pos h3]
 ·rw [if_neg h1,if_neg h2,if_neg h3,if_pos h4]
 ·rw [if_neg h1,if_neg h2,if_neg h3,if_neg h4,if_neg h5,if_neg h5,ite_self]
 ·rw [if_neg h1,if_neg h2,if_neg h3,if_neg h4,if_pos h6,if_pos h5]
 ·rw [if_neg h1,if_neg h2,if_neg h3,if_neg h4,if_neg h6,if_pos h5]
theorem round_r {r:RQ} (hr:r.In) (n mode:Int):Pure Tryz.prog 166 [SV.c (.agg r.A),SV.c (.int .i64 n),SV.c (.int .i64 mode)] (resZ (rndQ r n mode)):=by
 refine sx_pure tt_ok mixed at166 _ _ rfl rfl fun w=>?_
 refine ⟨r.A_size,.inl ⟨_,valid_r hr,fun h1=>⟨ti57.zero,rfl,eA_fits 0,?_,trivial⟩,fun h1=>.inl ⟨_,places_r n,fun h2=>⟨ti57.zero,rfl,eA_fits 0,?_,trivial⟩,fun h2=>⟨fun h3=>⟨fun h4=>⟨ti57.zero,rfl,eA_fits 0,?_,trivial⟩,fun h4=>?_⟩,fun h3=>⟨fun _=>⟨ti57.zero,rfl,eA_fits 0,?_,trivial⟩,nofun⟩⟩⟩⟩⟩
 ·have h1:=bnt h1
  rw [rndQ,h1,Bool.not_false,if_pos rfl];rfl
 all_goals
  have hk:=bnf h1
  clear h1
 ·have h2:=bnt h2
  have h2:n < 0∨n > 9:=Decidable.of_not_not fun h=>by rw [plOk_iff.2 h] at h2;cases h2
  rw [rndQ,hk,Bool.not_true,if_neg Bool.false_ne_true,if_pos h2];rfl
 all_goals
  have hn:=plOk_iff.1 (bnf h2)
  clear h2
 ·have h4:=of_decide_eq_true h4
  rw [rndQ,hk,Bool.not_true,if_neg Bool.false_ne_true,if_neg hn,if_pos (.inr h4)];rfl
 rotate_left
 ·have h3:=of_decide_eq_true h3
  rw [rndQ,hk,Bool.not_true,if_neg Bool.false_ne_true,if_neg hn,if_pos (.inl h3)];rfl
 have h3:=of_decide_eq_false h3
 have h4:=of_decide_eq_false h4
 have hm:¬ (mode < 1∨mode > 6):=by omega
 obtain ⟨k,rfl⟩:∃ k:Nat,n=k:=⟨n.toNat,by omega⟩
 have hk9:k≤9:=by omega
 obtain ⟨k1,k2,k3,k4,k5⟩:=RQ.ok_bits hk
 have hs:=scaled_r hr hk hk9
 have hl:=scale_lt2 k1 hk9
 have hql:r.q.natAbs < 2 ^ e480:=Nat.lt_of_lt_of_le (bl_bits _).1 (Nat.pow_le_pow_right (by omega) k2)
 have hrl:(r.p*((tp k:Nat):Int) % r.q).natAbs < 2 ^ e480:=by
  have h1:=Int.emod_lt_of_pos (r.p*((tp k:Nat):Int)) k3
  have h2:=Int.emod_nonneg (r.p*((tp k:Nat):Int)) (show r.q≠0 by omega)
  omega
 have hlow:(r.p*((tp k:Nat):Int) / r.q).natAbs < 2 ^ e960:=Nat.lt_of_le_of_lt (Int.natAbs_ediv_le_natAbs _ _) hl
 have p1:=hp480
 have p2:=hp960
 have p3:=hp961
 have pp:2 ^ e480+2 ^ e480≤2 ^ e960:=by decide +kernel
 have p4:1≤2 ^ e960:=Nat.pow_pos (by omega)
 rw [rndQ,hk,Bool.not_true,if_neg Bool.false_ne_true,if_neg hn,if_neg hm,Int.toNat_natCast]
 unfold rndZ
 have hd:=divmod_r (isI_e (z:=r.p*((tp k:Nat):Int)) (by omega)) (isI_e (z:=r.q) (by omega)) (by omega)
 have hsx:=sign_r (isI_e (z:=r.p*((tp k:Nat):Int)) (by omega))
 generalize r.p*((tp k:Nat):Int) / r.q=low at *
 generalize r.p*((tp k:Nat):Int) % r.q=rest at *
 generalize r.p*((tp k:Nat):Int)=x at *
 have ht:=add_r (isI_e (z:=rest) (by omega)) (isI_e (z:=rest) (by omega))
 rw [fitR,if_pos (by omega)] at ht
 have hcm:=cmp_r (isI_e (z:=rest+rest) (by omega)) (isI_e (z:=r.q) (by omega))
 have ha:=add_r (isI_e (z:=low) (by omega)) (isI_e (z:=1) (by omega))
 rw [fitR,if_pos (by omega)] at ha
 have g0:(eA low)[1]? = some (.int .u32 (dg low.natAbs 0:Nat)):=iA_lim (i:=0) (by omega)
 have eodd:(((((dg low.natAbs 0:Nat):Int)).tmod 2) == 1)=decide (low % 2=1):=by
  rw [dg0,Bool.eq_iff_iff]
  simp only [beq_iff_eq,decide_eq_true_eq]
  rw [Int.tmod_eq_emod_of_nonneg (by omega)]
  omega
 have hab:=above_r hm (decide (sgn x < 0)) (cmpI (rest+rest) r.q) (((((dg low.natAbs 0:Nat):Int)).tmod 2) == 1)
 refine .inl ⟨_,hs,eA_fits _,eA_fits _,.inl ⟨_,hd,eA_fits _,eA_fits _,.inl ⟨_,sign_r (isI_e (z:=rest) (by omega)),fun h1=>?_,fun h1=>?_⟩⟩⟩
 ·rw [sgn_zero] at h1
  have h1:rest=0:=of_decide_eq_true h1
  refine ⟨eA_fits _,?_,trivial⟩
  rw [if_pos h1];rfl
 ·rw [sgn_zero] at h1
  have h1:¬ rest=0:=of_decide_eq_false h1
  rw [if_neg h1]
  refine .inl ⟨_,ht,eA_fits _,.inl ⟨_,hsx,.inl ⟨_,hcm,by decide,by decide,_,g0,by decide,.inl ⟨_,hab,by kernel_rfl,fun h2=>?_,fun h2=>?_⟩⟩⟩⟩
  ·have h2:upM mode (decide (sgn x < 0)) (cmpI (rest+rest) r.q) (((((dg low.natAbs 0:Nat):Int)).tmod 2) == 1)=true:=h2
   rw [eodd,sgn_neg] at h2
   refine .inl ⟨_,fromInt_r 1 (by omega) (by omega),.inl ⟨_,ha,eA_fits _,by kernel_rfl,eA_fits _,?_,trivial⟩⟩
   rw [h2,if_pos rfl];rfl
  ·have h2:upM mode (decide (sgn x < 0)) (cmpI (rest+rest) r.q) (((((dg low.natAbs 0:Nat):Int)).tmod 2) == 1)=false:=h2
   rw [eodd,sgn_neg] at h2
   refine ⟨eA_fits _,?_,trivial⟩
   rw [h2,if_neg Bool.false_ne_true];rfl
theorem roundInt_r {r:RQ} (hr:r.In) (n mode:Int):Pure Tryz.prog 113 [SV.c (.agg r.A),SV.c (.int .i64 n),SV.c (.int .i64 mode)] (resI (rndI (rndQ r n mode))):=by
 refine sx_pure tt_ok mixed at113 _ _ rfl rfl fun w=>?_
 have hx:=round_r hr n mode
 have hlt:=rndQ_lt r n mode
 generalize rndQ r n mode=x at *
 obtain ⟨x,e⟩:=x
 have ht:=toInt_r (isI_e hlt)
 have hx:Pure Tryz.prog 166 [SV.c (.agg r.A),SV.c (.int .i64 n),SV.c (.int .i64 mode)] (.tuple #[.agg (eA x),.int .i64 e]):=hx
 have ht:Pure Tryz.prog 110 [SV.c (.agg (eA x))] (toIntR x):=ht
 refine ⟨r.A_size,.inl ⟨_,hx,eA_fits _,fun h=>?_,fun h=>?_⟩⟩
 ·have h:e≠0:=by simpa using h
  refine ⟨?_,trivial⟩
  rw [rndI,if_pos h];rfl
 ·have h:¬ (e≠0):=by simpa using h
  rw [rndI,if_neg h]
  by_cases hz : -9223372036854775808≤x∧x≤9223372036854775807
  ·rw [toIntR,if_pos hz] at ht
   refine .inl ⟨_,ht,fun _=>⟨fun h1=>⟨fun h2=>?_,fun h2=>?_⟩,fun h1=>⟨fun _=>?_,nofun⟩⟩,nofun⟩
   ·have h2:=of_decide_eq_true h2
    refine ⟨?_,trivial⟩
    rw [if_pos (.inl h2)];rfl
   ·have h1:=of_decide_eq_false h1
    have h2:=of_decide_eq_false h2
    refine ⟨?_,trivial⟩
    rw [if_neg (by omega)];rfl
   ·have h1:=of_decide_eq_true h1
    refine ⟨?_,trivial⟩
    rw [if_pos (.inr h1)];rfl
  ·rw [toIntR,if_neg hz] at ht
   refine .inl ⟨_,ht,nofun,fun _=>⟨nofun,fun _=>⟨fun _=>⟨?_,trivial⟩,nofun⟩⟩⟩
   rw [if_pos (show (x,e).1 < -1000000000000000∨(x,e).1 > 1000000000000000 by show x < _∨x > _;omega)];rfl
def exaQ (r:RQ) (n:Int):Bool×Int:=if !r.ok then (false,20) else if n < 0∨n > 9 then (false,30) else (decide (r.p*(tp n.toNat:Nat) % r.q=0),0)
theorem exact_r {r:RQ} (hr:r.In) (n:Int):Pure Tryz.prog 228 [SV.c (.agg r.A),SV.c (.int .i64 n)] (.tuple #[.bool (exaQ r n).1,.int .i64 (exaQ r n).2]):=by
 refine sx_pure tt_ok mixed at228 _ _ rfl rfl fun w=>?_
 refine ⟨r.A_size,.inl ⟨_,valid_r hr,fun h1=>⟨?_,trivial⟩,fun h1=>.inl ⟨_,places_r n,fun h2=>⟨?_,trivial⟩,fun h2=>?_⟩⟩⟩
 ·have h1:=bnt h1
  rw [exaQ,h1,Bool.not_false,if_pos rfl];rfl
 all_goals
  have hk:=bnf h1
  clear h1
 ·have h2:=bnt h2
  have h2:n < 0∨n > 9:=Decidable.of_not_not fun h=>by rw [plOk_iff.2 h] at h2;cases h2
  rw [exaQ,hk,Bool.not_true,if_neg Bool.false_ne_true,if_pos h2];rfl
 have hn:=plOk_iff.1 (bnf h2)
 obtain ⟨k,rfl⟩:∃ k:Nat,n=k:=⟨n.toNat,by omega⟩
 have hk9:k≤9:=by omega
 obtain ⟨k1,k2,k3,k4,k5⟩:=RQ.ok_bits hk
 have hs:=scaled_r hr hk hk9
 have hl:=scale_lt2 k1 hk9
 have hql:r.q.natAbs < 2 ^ e480:=Nat.lt_of_lt_of_le (bl_bits _).1 (Nat.pow_le_pow_right (by omega) k2)
 have hrl:(r.p*((tp k:Nat):Int) % r.q).natAbs < 2 ^ e480:=by
  have h1:=Int.emod_lt_of_pos (r.p*((tp k:Nat):Int)) k3
  have h2:=Int.emod_nonneg (r.p*((tp k:Nat):Int)) (show r.q≠0 by omega)
  omega
 have p1:=hp480
 have p2:=hp960
 rw [exaQ,hk,Bool.not_true,if_neg Bool.false_ne_true,if_neg hn,Int.toNat_natCast]
 have hd:=divmod_r (isI_e (z:=r.p*((tp k:Nat):Int)) (by omega)) (isI_e (z:=r.q) (by omega)) (by omega)
 generalize r.p*((tp k:Nat):Int) % r.q=rest at *
 refine .inl ⟨_,hs,eA_fits _,eA_fits _,.inl ⟨_,hd,eA_fits _,eA_fits _,.inl ⟨_,sign_r (isI_e (z:=rest) (by omega)),tup2 (bv sgn_zero) rfl,trivial⟩⟩⟩
end Go.Proofs.YtkaakbpeegpnkaaGreatDoor
