/- walks: the reference, pairs. walks: the reference, rounding; no condition. -/
import Derived.Test.YtekfkdddadcalaaGreatDoorP16
set_option maxRecDepth 100000
set_option maxHeartbeats 4000000
namespace Go.Proofs.YtekfkdddadcalaaGreatDoor
open Go Go.RowKit Go.SX
theorem whole_r {n:Int} (h1 : -9223372036854775808≤n) (h2:n≤9223372036854775807):Pure Tryz.prog 94 [SV.c (.int .i64 n)] (.agg (RQ.of n 1).A):=by
 refine sx_pure tt_ok mixed at94 _ _ rfl rfl fun w=>?_
 exact .inl ⟨_,fromInt_r n h1 h2,.inl ⟨_,fromInt_r 1 (by omega) (by omega),_,fill_ratio (eA_size _) (eA_size _) rfl rfl,(RQ.of n 1).A_fits,rfl,trivial⟩⟩
theorem zeroR_r:Pure Tryz.prog 54 [] (.agg (RQ.of 0 1).A):=by
 refine sx_pure tt_ok mixed at54 _ _ rfl rfl fun w=>?_
 exact .inl ⟨_,whole_r (n:=0) (by omega) (by omega),(RQ.of 0 1).A_fits,rfl,trivial⟩
theorem ediv_neg_iff {y:Int} {g:Nat} (hg:0 < g):decide (sgn (y / (g:Int)) < 0)=decide (y < 0):=by
 rw [sgn_neg,decide_eq_decide]
 constructor
 ·intro h
  rcases Int.lt_or_le y 0 with h1 | h1
  ·exact h1
  ·have:=Int.ediv_nonneg h1 (show (0:Int)≤g by omega);omega
 ·intro h;exact Int.ediv_neg_of_neg_of_pos h (by omega)
theorem make_r {A B:Array Value} {x y:Int} (hA:IsI A x) (hB:IsI B y):Pure Tryz.prog 110 [SV.c (.agg A),SV.c (.agg B)] (resQ (mkQ x y)):=by
 refine sx_pureC [8] tt_ok mixed at110 _ _ rfl rfl fun w=>?_
 refine ⟨hA.size,hB.size,.inl ⟨_,sign_r hB,fun h=>?_,fun h=>?_⟩⟩
 ·rw [sgn_zero] at h
  have h:=of_decide_eq_true h
  refine ⟨ti59.zero,rfl,(RQ.of 0 0).A_fits,?_,trivial⟩
  rw [mkQ,if_pos h];rfl
 rw [sgn_zero] at h
 have h:=of_decide_eq_false h
 obtain ⟨g1,g2⟩:=gcd_le (x:=x) h
 have gl:((Int.gcd x y:Nat):Int).natAbs < BB ^ 32:=by have:=hB.lt;omega
 have gn:((Int.gcd x y:Nat):Int)≠0:=by omega
 have d1:=divmod_r hA (isI_e gl) gn
 have d2:=divmod_r hB (isI_e gl) gn
 have lx:(x / ((Int.gcd x y:Nat):Int)).natAbs < BB ^ 32:=Nat.lt_of_le_of_lt (Int.natAbs_ediv_le_natAbs x _) hA.lt
 have ly:(y / ((Int.gcd x y:Nat):Int)).natAbs < BB ^ 32:=Nat.lt_of_le_of_lt (Int.natAbs_ediv_le_natAbs y _) hB.lt
 refine .inl ⟨_,gcd_r hA hB,eA_fits _,.inl ⟨_,d1,eA_fits _,eA_fits _,.inl ⟨_,d2,eA_fits _,eA_fits _,fun f mm=>f=[(4,SV.ptr 4 0),(7,SV.ptr 7 0),(10,SV.ptr 10 0)]∧mm=[(4,Blk.row 59 66 ti59.zero),(7,Blk.row 57 33 (eA (x / (sgn y*Int.gcd x y)))),(10,Blk.row 57 33 (eA (y / (sgn y*Int.gcd x y))))],.inl ⟨_,sign_r (isI_e ly),fun h2=>?_,fun h2=>?_⟩,?_⟩⟩⟩
 ·rw [ediv_neg_iff g1] at h2
  have h2:=of_decide_eq_true h2
  have e:sgn y*(Int.gcd x y:Int)=-((Int.gcd x y:Nat):Int):=by unfold sgn;rw [if_pos h2];omega
  refine .inl ⟨_,neg_r (isI_e lx),.inl ⟨_,neg_r (isI_e ly),eA_fits _,eA_fits _,by kernel_rfl,_,_,⟨rfl,rfl⟩,⟨rfl,rfl,rfl,trivial⟩,⟨rfl,row_eq (by rw [e,Int.ediv_neg]),row_eq (by rw [e,Int.ediv_neg]),trivial⟩,rfl⟩⟩
 ·rw [ediv_neg_iff g1] at h2
  have h2:=of_decide_eq_false h2
  have e:sgn y*(Int.gcd x y:Int)=((Int.gcd x y:Nat):Int):=by unfold sgn;rw [if_neg h2,if_neg h];omega
  exact ⟨_,_,⟨rfl,rfl⟩,⟨rfl,rfl,rfl,trivial⟩,⟨rfl,row_eq (by rw [e]),row_eq (by rw [e]),trivial⟩,rfl⟩
 rintro f mm ⟨rfl,rfl⟩
 have lx2:(x / (sgn y*Int.gcd x y)).natAbs < BB ^ 32:=Nat.lt_of_le_of_lt (Int.natAbs_ediv_le_natAbs x _) hA.lt
 have ly2:(y / (sgn y*Int.gcd x y)).natAbs < BB ^ 32:=Nat.lt_of_le_of_lt (Int.natAbs_ediv_le_natAbs y _) hB.lt
 rw [mkQ,if_neg h]
 generalize x / (sgn y*Int.gcd x y)=p at *
 generalize y / (sgn y*Int.gcd x y)=q at *
 have bad:¬ (bl p.natAbs≤480∧bl q.natAbs≤480)→mkRes [.agg ti59.zero,.int .i64 10]=resQ (if bl p.natAbs≤480∧bl q.natAbs≤480 then (.of p q,0) else (.of 0 0,10)):=fun h=>by rw [if_neg h];rfl
 refine .inl ⟨_,bits_r (isI_e lx2),fun h2=>.inl ⟨_,bits_r (isI_e ly2),fun h3=>⟨ti59.zero,rfl,(RQ.of 0 0).A_fits,bad ?_,trivial⟩,fun h3=>⟨_,fill_ratio (eA_size _) (eA_size _) rfl rfl,(RQ.of p q).A_fits,?_,trivial⟩⟩,fun h2=>⟨fun _=>⟨ti59.zero,rfl,(RQ.of 0 0).A_fits,bad ?_,trivial⟩,nofun⟩⟩
 ·have:=of_decide_eq_true h3
  omega
 ·have h2:=of_decide_eq_false h2
  have h3:=of_decide_eq_false h3
  rw [if_pos (by omega)];rfl
 ·have:=of_decide_eq_true h2
  omega
theorem of_r {n d:Int} (h1 : -9223372036854775808≤n) (h2:n≤9223372036854775807) (h3 : -9223372036854775808≤d) (h4:d≤9223372036854775807):Pure Tryz.prog 78 [SV.c (.int .i64 n),SV.c (.int .i64 d)] (resQ (mkQ n d)):=by
 refine sx_pure tt_ok mixed at78 _ _ rfl rfl fun w=>?_
 exact .inl ⟨_,fromInt_r n h1 h2,.inl ⟨_,fromInt_r d h3 h4,.inl ⟨_,make_r (isI_e (i64_lt h1 h2)) (isI_e (i64_lt h3 h4)),RQ.A_fits _,rfl,trivial⟩⟩⟩
end Go.Proofs.YtekfkdddadcalaaGreatDoor
