/- walks: a corporate action, the reference. walks: what an action makes, the reference. walks: the law of an action's effects; no condition. -/
import Derived.Test.YtnfmpddhcjkjbaaGreatDoorP18
set_option maxRecDepth 100000
set_option maxHeartbeats 4000000
namespace Go.Proofs.YtnfmpddhcjkjbaaGreatDoor
open Go Go.RowKit Go.SX
theorem capital_r (x:Nat):Pure Tryz.prog 137 [SV.c (.int .u8 (x:Nat))] (.bool (decide (65≤x) && decide (x≤90))):=by
 refine sx_pure tt_ok mixed at137 _ _ rfl rfl fun w=>?_
 refine ⟨fun h=>⟨bv ?_,trivial⟩,fun h=>⟨bv ?_,trivial⟩⟩
 ·have h:=of_decide_eq_true h
  rw [decide_eq_true (by omega:65≤x),Bool.true_and,Bool.eq_iff_iff];simp only [decide_eq_true_eq];omega
 ·have h:=of_decide_eq_false h
  rw [decide_eq_false (by omega:¬ 65≤x),Bool.false_and]
theorem out_r (n:Int):Pure Tryz.prog 97 [SV.c (.int .i64 n)] (.bool (decide (n < 0) || decide (n > 73048))):=by
 refine sx_pure tt_ok mixed at97 _ _ rfl rfl fun w=>?_
 refine ⟨fun h=>⟨bv ?_,trivial⟩,fun h=>⟨bv ?_,trivial⟩⟩
 ·rw [show decide (n < 0)=false from h,Bool.false_or]
 ·rw [show decide (n < 0)=true from h,Bool.true_or]
theorem factor_r (n:Int):Pure Tryz.prog 100 [SV.c (.int .i64 n)] (.bool (facOk n)):=by
 refine sx_pure tt_ok mixed at100 _ _ rfl rfl fun w=>?_
 refine ⟨fun h=>⟨bv ?_,trivial⟩,fun h=>⟨bv ?_,trivial⟩⟩
 ·rw [facOk,decide_eq_true (of_decide_eq_true h:n ≥ 1),Bool.true_and]
 ·rw [facOk,decide_eq_false (of_decide_eq_false h:¬ n ≥ 1),Bool.false_and]
def capR (l:List UInt8) (j:Nat):Bool:=decide (65≤(l.getD j 0).toNat) && decide ((l.getD j 0).toNat≤90)
theorem capR_false (l:List UInt8) (j:Nat):capAt false l j=capR l j:=by
 unfold capAt capR;simp
theorem capR_zero (l:List UInt8):capAt true l 0=capR l 0:=by
 unfold capAt capR;simp
theorem curOk_eq (l:List UInt8):curOk l=(decide ((l.length:Int)=3) && (capR l 0 && (capR l 1 && capR l 2))):=by
 unfold curOk
 by_cases h:l.length=3
 ·rw [decide_eq_true (by omega:(l.length:Int)=3),decide_eq_true (by omega:(3:Int)≤l.length),decide_eq_true (by omega:(l.length:Int)≤3)]
  simp only [Bool.and_true,Bool.true_and]
  by_cases h0:capR l 0=true
  ·by_cases h1:capR l 1=true
   ·by_cases h2:capR l 2=true
    ·rw [h0,h1,h2]
     apply capAll_true
     intro j hj
     rw [capR_false]
     obtain rfl | rfl | rfl:j=0∨j=1∨j=2:=by omega
     ·exact h0
     ·exact h1
     ·exact h2
    ·have h2:capR l 2=false:=by simpa using h2
     rw [h2,Bool.and_false,Bool.and_false]
     exact capAll_false (j:=2) (by omega) (by rw [capR_false];exact h2)
   ·have h1:capR l 1=false:=by simpa using h1
    rw [h1,Bool.false_and,Bool.and_false]
    exact capAll_false (j:=1) (by omega) (by rw [capR_false];exact h1)
  ·have h0:capR l 0=false:=by simpa using h0
   rw [h0,Bool.false_and]
   exact capAll_false (j:=0) (by omega) (by rw [capR_false];exact h0)
 ·rw [decide_eq_false (by omega:¬ (l.length:Int)=3),Bool.false_and]
  by_cases h3:(3:Int)≤l.length
  ·rw [decide_eq_false (by omega:¬ (l.length:Int)≤3),Bool.and_false,Bool.and_false]
  ·rw [decide_eq_false h3,Bool.false_and,Bool.and_false]
theorem code_r (l:List UInt8) (_hl:l.length≤9223372036854775807):Pure Tryz.prog 99 [SV.c (.string (S l))] (.bool (curOk l)):=by
 refine sx_pure tt_ok mixed at99 _ _ rfl rfl fun w=>?_
 have hx:∀ i:Nat,i < l.length→Runs ((envP Tryz.prog tt Tryz.f99.ntmps w).toEnv) (Instr.index 9 (.string (S l)) (.int .i64 (i:Int))) (.int .u8 ((l.getD i 0).toNat:Nat)):=fun i h=>runs_idx Tryz.underlying9 i rfl h
 rw [curOk_eq]
 refine ⟨_,fun w _=>run_len_S Tryz.underlying9 w,fun h=>?_,fun h=>?_⟩
 ·have h:((l.length:Int) == 3)=true:=h
  have h:(l.length:Int)=3:=by simpa using h
  rw [decide_eq_true h,Bool.true_and]
  refine ⟨_,hx 0 (by omega),.inl ⟨_,capital_r _,fun h0=>⟨_,hx 1 (by omega),.inl ⟨_,capital_r _,fun h1=>⟨_,hx 2 (by omega),.inl ⟨_,capital_r _,bv ?_,trivial⟩⟩,fun h1=>⟨bv ?_,trivial⟩⟩⟩,fun h0=>⟨nofun,fun _=>⟨bv ?_,trivial⟩⟩⟩⟩
  ·rw [show capR l 0=true from h0,show capR l 1=true from h1];rfl
  ·rw [show capR l 0=true from h0,show capR l 1=false from h1];rfl
  ·rw [show capR l 0=false from h0];rfl
 ·have h:((l.length:Int) == 3)=false:=h
  have h:¬ (l.length:Int)=3:=by simpa using h
  rw [decide_eq_false h,Bool.false_and]
  refine ⟨nofun,fun _=>⟨nofun,fun _=>⟨rfl,trivial⟩⟩⟩
theorem capAt_eq (l:List UInt8) (j:Nat):capAt true l j=(capR l j || (!decide (j=0) && decide (48≤(l.getD j 0).toNat) && decide ((l.getD j 0).toNat≤57))):=by
 unfold capAt capR;rw [Bool.true_and]
theorem paper_r (l:List UInt8) (hl:l.length≤9223372036854775807):Pure Tryz.prog 96 [SV.c (.string (S l))] (.bool (insOk l)):=by
 refine sx_pure tt_ok mixed at96 _ _ rfl rfl fun w=>?_
 have hx:∀ i:Nat,i < l.length→Runs ((envP Tryz.prog tt Tryz.f96.ntmps w).toEnv) (Instr.index 9 (.string (S l)) (.int .i64 (i:Int))) (.int .u8 ((l.getD i 0).toNat:Nat)):=fun i h=>runs_idx Tryz.underlying9 i rfl h
 have hlen:∀ (w:World),(builtin .len #[9] 3 #[false] #[.string (S l)]).run Tryz.prog w=.ok (.value (.int .i64 (l.length:Nat))) w:=fun w=>run_len_S Tryz.underlying9 w
 have stop:∀ j,j < l.length→capAt true l j=false→insOk l=false:=fun j hj e=>by rw [insOk,capAll_false hj e];rfl
 refine ⟨_,fun w _=>run_len_S Tryz.underlying9 w,fun h1=>⟨_,fun w _=>run_len_S Tryz.underlying9 w,fun h2=>⟨_,hx 0 ?_,.inl ⟨_,capital_r _,fun h3=>⟨bv ?_,trivial⟩,fun h3=>?_⟩⟩,fun h2=>⟨fun _=>⟨bv ?_,trivial⟩,nofun⟩⟩,fun h1=>⟨nofun,fun _=>⟨fun _=>⟨bv ?_,trivial⟩,nofun⟩⟩⟩
 ·have h1:decide ((l.length:Int) < 1)=false:=h1
  have h1:=of_decide_eq_false h1
  omega
 ·have h3:capR l 0=false:=bnt h3
  have h1:decide ((l.length:Int) < 1)=false:=h1
  have h1:=of_decide_eq_false h1
  rw [stop 0 (by omega) (by rw [capR_zero];exact h3)]
 ·have h1:decide ((l.length:Int) < 1)=false:=h1
  have h1:=of_decide_eq_false h1
  have h2:decide ((l.length:Int) > 12)=false:=h2
  have h2:=of_decide_eq_false h2
  have h3:capR l 0=true:=of_bnf h3
  refine ⟨fun q f m=>∃ i:Nat,q=l.length - i∧i≤l.length∧(∀ j,j < i→capAt true l j=true)∧f=[(0,SV.c (.string (S l))),(3,SV.c (.int .i64 i))]∧m=[],l.length,⟨_,_,⟨0,rfl,Nat.zero_le _,fun j hj=>absurd hj (by omega),rfl,rfl⟩,⟨rfl,rfl,trivial⟩,trivial,rfl⟩,?_⟩
  rintro q f m ⟨i,rfl,hi1,hall,rfl,rfl⟩
  refine ⟨_,fun w _=>run_len_S Tryz.underlying9 w,fun h=>?_,fun h=>?_⟩
  ·have h:i < l.length:=by have:=of_decide_eq_true h;omega
   have hnext:capAt true l i=true→∀ j,j < i+1→capAt true l j=true:=fun e j hj=>by
    by_cases e2:j=i
    ·rw [e2];exact e
    ·exact hall j (by omega)
   refine ⟨_,hx i h,.inl ⟨_,capital_r _,fun h4=>⟨_,hx i h,fun h5=>⟨_,hx i h,fun h6=>⟨bv ?_,trivial⟩,fun h6=>?_⟩,fun h5=>⟨fun _=>⟨bv ?_,trivial⟩,nofun⟩⟩,fun h4=>⟨nofun,fun _=>?_⟩⟩⟩
   ·have h4:capR l i=false:=bnt h4
    have h6:=of_decide_eq_true h6
    rw [stop i h]
    rw [capAt_eq,h4,decide_eq_false (by omega:¬ (l.getD i 0).toNat≤57),Bool.and_false,Bool.or_false]
   ·have h4:capR l i=false:=bnt h4
    have h5:=of_decide_eq_false h5
    have h6:=of_decide_eq_false h6
    have hi0:¬ i=0:=by intro e;rw [e,h3] at h4;cases h4
    exact ⟨l.length - (i+1),_,_,by omega,⟨i+1,rfl,by omega,hnext (by rw [capAt_eq,h4,decide_eq_false hi0,decide_eq_true (by omega:48≤(l.getD i 0).toNat),decide_eq_true (by omega:(l.getD i 0).toNat≤57)];rfl),rfl,rfl⟩,⟨rfl,c_int (by rw [i64_in (by omega)];rfl),trivial⟩,trivial,rfl⟩
   ·have h4:capR l i=false:=bnt h4
    have h5:=of_decide_eq_true h5
    rw [stop i h]
    rw [capAt_eq,h4,decide_eq_false (by omega:¬ 48≤(l.getD i 0).toNat),Bool.and_false,Bool.false_and,Bool.or_false]
   ·have h4:capR l i=true:=of_bnf h4
    exact ⟨l.length - (i+1),_,_,by omega,⟨i+1,rfl,by omega,hnext (by rw [capAt_eq,h4,Bool.true_or]),rfl,rfl⟩,⟨rfl,c_int (by rw [i64_in (by omega)];rfl),trivial⟩,trivial,rfl⟩
  ·have h:i=l.length:=by have:=of_decide_eq_false h;omega
   subst h
   refine ⟨bv ?_,trivial⟩
   rw [insOk,capAll_true hall,decide_eq_true (by omega:1≤l.length),decide_eq_true (by omega:l.length≤12)];rfl
 ·have h2:decide ((l.length:Int) > 12)=true:=h2
  have h2:=of_decide_eq_true h2
  rw [insOk,decide_eq_false (by omega:¬ l.length≤12),Bool.and_false,Bool.and_false]
 ·have h1:decide ((l.length:Int) < 1)=true:=h1
  have h1:=of_decide_eq_true h1
  rw [insOk,decide_eq_false (by omega:¬ 1≤l.length),Bool.false_and,Bool.and_false]
theorem betQ_pay {r:RQ}:((txtQ r 6).2 == 0 && betQ r 0 1000000000)=payOk r:=by
 unfold payOk betQ
 by_cases hk:r.ok=true
 ·rw [hk]
  simp only [Bool.true_and,Int.zero_mul]
  by_cases h0:0≤r.p
  ·by_cases h1:r.p≤1000000000*r.q
   ·rw [pay_txt hk h0 h1]
    by_cases h:r.p*1000000 % r.q=0
    ·rw [if_pos h];simp [h]
    ·rw [if_neg h];simp [h]
   ·simp [h1]
  ·simp [h0]
 ·have hk:r.ok=false:=by simpa using hk
  rw [txt_inv hk,hk];rfl
theorem price_r {r:RQ} (hr:r.In):Pure Tryz.prog 98 [SV.c (.agg r.A)] (.bool (payOk r)):=by
 refine sx_pure tt_ok mixed at98 _ _ rfl rfl fun w=>?_
 rw [← betQ_pay]
 refine ⟨r.A_size,.inl ⟨_,text_r hr 6,fun h=>.inl ⟨_,between_r hr (by decide) (by decide) (by decide) (by decide),bv ?_,trivial⟩,fun h=>⟨bv ?_,trivial⟩⟩⟩
 ·rw [show ((txtQ r 6).2 == 0)=true from h,Bool.true_and]
 ·rw [show ((txtQ r 6).2 == 0)=false from h,Bool.false_and]
theorem one_in0:(RQ.of 0 1).In:=⟨i64_lt (n:=0) (by omega) (by omega),i64_lt (n:=1) (by omega) (by omega)⟩
theorem neq_zero {r:RQ} (h:payOk r=true):(!r.beq (.of 0 1))=decide (sgn r.p > 0):=by
 unfold payOk at h
 simp only [Bool.and_eq_true,decide_eq_true_eq] at h
 obtain ⟨hk,-,h0,-⟩:=h
 obtain ⟨-,-,k3,k4,k5⟩:=RQ.ok_bits hk
 by_cases hp:r.p=0
 ·rw [hp] at k4
  have:r.q=1:=by rw [Int.gcd_zero_left] at k4;omega
  rw [hp,this] at k5
  rw [(RQ.beq_iff _ _).mpr k5,hp];rfl
 ·have:r.beq (.of 0 1)=false:=by
    cases e:r.beq (.of 0 1) with
    | false=>rfl
    | true=>exact absurd (by rw [(RQ.beq_iff _ _).mp e,RQ.of_p]) hp
  rw [this]
  have:sgn r.p > 0:=by
   unfold sgn
   repeat' split
   all_goals omega
  rw [decide_eq_true this];rfl
theorem valid_ra {a:AC} (ha:a.In):Pure Tryz.prog 52 [SV.c (.agg a.A)] (.bool (validA a)):=by
 refine sx_pure tt_ok mixed at52 _ _ rfl rfl fun w=>?_
 have no:hdrOk a=false→mkRes [.bool false]=.bool (validA a):=fun h=>by rw [validA,h];rfl
 have len:∀ (E:Env),E.P=Tryz.prog→∀ (ty:TypeId) (l:List UInt8) (cs:Array Bool) (w:World),OldW E w→(builtin .len #[9] ty cs #[.string (S l)]).run E.P w=.ok (.value (.int .i64 (l.length:Nat))) w:=fun E hE ty l cs w _=>by rw [hE];exact run_len_S Tryz.underlying9 w
 refine ⟨a.size,_,a.g1,_,len _ rfl _ _ _,fun h1=>⟨_,a.g1,_,len _ rfl _ _ _,fun h2=>⟨_,a.g74,fun h3=>⟨_,a.g74,fun h4=>?_,fun h4=>?_⟩,fun h3=>?_⟩,fun h2=>?_⟩,fun h1=>?_⟩
 ·have h4:decide (a.known > 2147483647)=true:=h4
  refine ⟨no ?_,trivial⟩
  rw [hdrOk,h4];simp
 ·have h1:decide (((a.key.length:Nat):Int) < 1)=false:=h1
  have h2:decide (((a.key.length:Nat):Int) > 64)=false:=h2
  have h3:decide (a.known < 1)=false:=h3
  have h4:decide (a.known > 2147483647)=false:=h4
  have h1:(((a.key.length:Nat):Int) == 0)=false:=by have:=of_decide_eq_false h1;simp;intro e;rw [e] at this;simp at this
  have hh:hdrOk a=true:=by rw [hdrOk,h1,h2,h3,h4];rfl
  have va:validA a=(if a.void then a.beq (.nil a.key a.known) else bodyOk a && kindOk a):=by rw [validA,hh,Bool.true_and]
  rw [va]
  refine ⟨_,a.g75,fun h5=>?_,fun h5=>?_⟩
  ·have h5:a.void=true:=h5
   rw [if_pos h5]
   exact ⟨_,a.g1,_,a.g74,_,fill_void a.key a.known rfl,_,eql_action rfl ha.cash nil_in,rfl,trivial⟩
  ·have h5:¬ (a.void=true):=by intro e;rw [e] at h5;cases h5
   rw [if_neg h5]
   have nob:bodyOk a=false→mkRes [.bool false]=.bool (bodyOk a && kindOk a):=fun h=>by rw [h];rfl
   have hp:=price_r ha.cash
   have hc:=code_r a.cur ha.cur
   have hi:=paper_r a.ins ha.ins
   have hz:=zeroR_r
   have hi2:=paper_r a.into ha.into
   refine ⟨_,a.g2,.inl ⟨_,hi,fun q1=>⟨_,a.g4,.inl ⟨_,out_r _,fun q2=>⟨by decide,_,a.gcash,.inl ⟨_,hp,fun q4=>⟨_,a.g73,.inl ⟨_,hc,fun q5=>?_,fun q5=>?_⟩⟩,fun q4=>?_⟩⟩,fun q2=>?_⟩⟩,fun q1=>?_⟩⟩
   ·have q5:curOk a.cur=false:=bnt q5
    refine ⟨nob ?_,trivial⟩
    rw [bodyOk,q5];simp
   ·have q1:insOk a.ins=true:=of_bnf q1
    have q2:(decide (a.day < 0) || decide (a.day > 73048))=false:=q2
    have q3:=(Bool.or_eq_false_iff.mp q2).2
    have q2:=(Bool.or_eq_false_iff.mp q2).1
    have q4:payOk a.cash=true:=of_bnf q4
    have q5:curOk a.cur=true:=of_bnf q5
    have hb:bodyOk a=true:=by rw [bodyOk,q1,q2,q3,q4,q5];rfl
    rw [hb,Bool.true_and]
    have ein:((S a.into).toList == (S []).toList)=decide (a.into=[]):=S_beq _ []
    have ens:((S a.into).toList == (S a.ins).toList)=decide (a.into=a.ins):=S_beq _ _
    refine ⟨_,a.g0,fun k1=>⟨_,a.g3,fun k2=>⟨_,a.g5,.inl ⟨_,factor_r _,fun k3=>⟨_,a.g6,.inl ⟨_,factor_r _,bv ?_,trivial⟩⟩,fun k3=>⟨bv ?_,trivial⟩⟩⟩,fun k2=>⟨nofun,fun _=>⟨bv ?_,trivial⟩⟩⟩,fun k1=>⟨fun m1=>⟨_,a.g3,fun k2=>⟨_,a.g5,fun k3=>⟨_,a.g6,fun k4=>⟨by decide,_,a.gcash,.inl ⟨_,hz,_,neq_ratio rfl ha.cash one_in0,by kernel_rfl,bv ?_,trivial⟩⟩,fun k4=>⟨by kernel_rfl,bv ?_,trivial⟩⟩,fun k3=>⟨nofun,fun _=>⟨by kernel_rfl,bv ?_,trivial⟩⟩⟩,fun k2=>⟨nofun,fun _=>⟨nofun,fun _=>⟨by kernel_rfl,bv ?_,trivial⟩⟩⟩⟩,fun m1=>⟨fun n1=>⟨_,a.g3,.inl ⟨_,hi2,fun k2=>⟨_,a.g3,_,a.g2,fun k3=>⟨_,a.g5,.inl ⟨_,factor_r _,fun k4=>⟨_,a.g6,.inl ⟨_,factor_r _,bv ?_,trivial⟩⟩,fun k4=>⟨bv ?_,trivial⟩⟩⟩,fun k3=>⟨nofun,fun _=>⟨bv ?_,trivial⟩⟩⟩,fun k2=>⟨nofun,fun _=>⟨nofun,fun _=>⟨bv ?_,trivial⟩⟩⟩⟩⟩,fun n1=>⟨bv ?_,trivial⟩⟩⟩⟩
    ·have k2:=ein.symm.trans k2
     have k1:a.kind=1:=by simpa using k1
     have k3:facOk a.num=true:=k3
     rw [kindOk,if_pos k1,k2,k3,Bool.true_and,Bool.true_and]
    ·have k2:=ein.symm.trans k2
     have k1:a.kind=1:=by simpa using k1
     have k3:facOk a.num=false:=k3
     rw [kindOk,if_pos k1,k3,Bool.false_and,Bool.and_false]
    ·have k2:=ein.symm.trans k2
     have k1:a.kind=1:=by simpa using k1
     rw [kindOk,if_pos k1,k2];rfl
    ·have k2:=ein.symm.trans k2
     have k1:¬ a.kind=1:=by intro e;rw [e] at k1;simp at k1
     have m1:a.kind=2:=by simpa using m1
     have k3:(a.num == 0)=true:=k3
     have k4:(a.den == 0)=true:=k4
     rw [kindOk,if_neg k1,if_pos m1,k2,k3,k4,Bool.true_and,Bool.true_and,Bool.true_and]
     exact neq_zero q4
    ·have k1:¬ a.kind=1:=by intro e;rw [e] at k1;simp at k1
     have m1:a.kind=2:=by simpa using m1
     have k4:(a.den == 0)=false:=k4
     rw [kindOk,if_neg k1,if_pos m1,k4,Bool.false_and,Bool.and_false,Bool.and_false]
    ·have k1:¬ a.kind=1:=by intro e;rw [e] at k1;simp at k1
     have m1:a.kind=2:=by simpa using m1
     have k3:(a.num == 0)=false:=k3
     rw [kindOk,if_neg k1,if_pos m1,k3,Bool.false_and,Bool.and_false]
    ·have k2:=ein.symm.trans k2
     have k1:¬ a.kind=1:=by intro e;rw [e] at k1;simp at k1
     have m1:a.kind=2:=by simpa using m1
     rw [kindOk,if_neg k1,if_pos m1,k2];rfl
    ·have k1:¬ a.kind=1:=by intro e;rw [e] at k1;simp at k1
     have m1:¬ a.kind=2:=by intro e;rw [e] at m1;simp at m1
     have n1:a.kind=3:=by simpa using n1
     have k2:insOk a.into=true:=k2
     have k3:=bnt (ens ▸ k3)
     have k4:facOk a.num=true:=k4
     rw [kindOk,if_neg k1,if_neg m1,if_pos n1,k2,k3,k4];rfl
    ·have k1:¬ a.kind=1:=by intro e;rw [e] at k1;simp at k1
     have m1:¬ a.kind=2:=by intro e;rw [e] at m1;simp at m1
     have n1:a.kind=3:=by simpa using n1
     have k4:facOk a.num=false:=k4
     rw [kindOk,if_neg k1,if_neg m1,if_pos n1,k4,Bool.false_and,Bool.and_false,Bool.and_false]
    ·have k1:¬ a.kind=1:=by intro e;rw [e] at k1;simp at k1
     have m1:¬ a.kind=2:=by intro e;rw [e] at m1;simp at m1
     have n1:a.kind=3:=by simpa using n1
     have k3:=of_bnf (ens ▸ k3)
     rw [kindOk,if_neg k1,if_neg m1,if_pos n1,k3,Bool.not_true,Bool.false_and,Bool.and_false]
    ·have k1:¬ a.kind=1:=by intro e;rw [e] at k1;simp at k1
     have m1:¬ a.kind=2:=by intro e;rw [e] at m1;simp at m1
     have n1:a.kind=3:=by simpa using n1
     have k2:insOk a.into=false:=k2
     rw [kindOk,if_neg k1,if_neg m1,if_pos n1,k2];rfl
    ·have k1:¬ a.kind=1:=by intro e;rw [e] at k1;simp at k1
     have m1:¬ a.kind=2:=by intro e;rw [e] at m1;simp at m1
     have n1:¬ a.kind=3:=by intro e;rw [e] at n1;simp at n1
     rw [kindOk,if_neg k1,if_neg m1,if_neg n1]
   ·have q4:payOk a.cash=false:=bnt q4
    refine ⟨fun _=>⟨nob ?_,trivial⟩,nofun⟩
    rw [bodyOk,q4];simp
   ·have q2:(decide (a.day < 0) || decide (a.day > 73048))=true:=q2
    refine ⟨nofun,fun _=>⟨fun _=>⟨nob ?_,trivial⟩,nofun⟩⟩
    rw [bodyOk]
    rcases Bool.or_eq_true_iff.mp q2 with q2 | q2<;>rw [q2]<;>simp
   ·have q1:insOk a.ins=false:=bnt q1
    refine ⟨nofun,fun _=>⟨nofun,fun _=>⟨fun _=>⟨nob ?_,trivial⟩,nofun⟩⟩⟩
    rw [bodyOk,q1];rfl
 ·have h3:decide (a.known < 1)=true:=h3
  refine ⟨fun _=>⟨no ?_,trivial⟩,nofun⟩
  rw [hdrOk,h3];simp
 ·have h2:decide (((a.key.length:Nat):Int) > 64)=true:=h2
  refine ⟨nofun,fun _=>⟨fun _=>⟨no ?_,trivial⟩,nofun⟩⟩
  rw [hdrOk,h2];simp
 ·have h1:decide (((a.key.length:Nat):Int) < 1)=true:=h1
  refine ⟨nofun,fun _=>⟨nofun,fun _=>⟨fun _=>⟨no ?_,trivial⟩,nofun⟩⟩⟩
  have h1:(((a.key.length:Nat):Int) == 0)=true:=by have h1:=of_decide_eq_true h1;rw [beq_iff_eq];omega
  rw [hdrOk,h1];simp
theorem adjust_r {a:AC} (ha:a.In) {r:RQ} (hr:r.In):Pure Tryz.prog 14 [SV.c (.agg a.A),SV.c (.agg r.A)] (resQ (adjustA a r)):=by
 refine sx_pure tt_ok mixed at14 _ _ rfl rfl fun w=>?_
 have bad:actOk a=false→resQ (adjustA a r)=mkRes [.agg ti27.zero,.int .i64 170]:=fun h=>by rw [adjustA,if_pos h];rfl
 refine ⟨a.size,r.A_size,.inl ⟨_,valid_ra ha,fun h1=>⟨_,a.g75,fun h2=>?_,fun h2=>?_⟩,fun h1=>⟨fun _=>?_,nofun⟩⟩⟩
 ·have h2:a.void=true:=h2
  refine ⟨ti27.zero,rfl,(RQ.of 0 0).A_fits,?_,trivial⟩
  rw [bad (by rw [actOk,h2];rfl)]
 ·have h1:validA a=true:=of_bnf h1
  have h2:a.void=false:=h2
  have hk:actOk a=true:=by rw [actOk,h1,h2];rfl
  rw [adjustA,if_neg (by rw [hk];simp)]
  refine ⟨_,a.g0,fun h=>?_,fun h=>?_⟩
  ·have h:a.kind=2:=by simpa using h
   rw [if_pos h]
   exact ⟨by decide,_,a.gcash,.inl ⟨_,subR_r hr ha.cash,RQ.A_fits _,rfl,trivial⟩⟩
  ·have h:¬ a.kind=2:=by intro e;rw [e] at h;simp at h
   rw [if_neg h]
   exact ⟨_,a.g6,_,a.g5,.inl ⟨_,of_r ha.den.1 ha.den.2 ha.num.1 ha.num.2,RQ.A_fits _,.inl ⟨_,mulR_r hr (mkQ_in _ _),RQ.A_fits _,rfl,trivial⟩⟩⟩
 ·have h1:validA a=false:=bnt h1
  refine ⟨ti27.zero,rfl,(RQ.of 0 0).A_fits,?_,trivial⟩
  rw [bad (by rw [actOk,h1,Bool.and_false])]
theorem fill_ef2 (l:List UInt8) (q:Int) {pl:List (Nat×Nat)} (hpl:pl=[(0,1),(1,1),(2,1)]):Instr.fill (fun k=>pl[k]?) ti31.zero [(0,.string (S l)),(1,.int .i64 q)]=some (EF.A ⟨l,q,0⟩):=by
 subst hpl;rfl
theorem apply_r {a:AC} (ha:a.In) (q:Int):Pure Tryz.prog 12 [SV.c (.agg a.A),SV.c (.int .i64 q)] (resE (applyA a q)):=by
 refine sx_pure tt_ok mixed at12 _ _ rfl rfl fun w=>?_
 have bad:actOk a=false→resE (applyA a q)=mkRes [.agg ti31.zero,.int .i64 170]:=fun h=>by rw [applyA,if_pos h];rfl
 refine ⟨a.size,.inl ⟨_,valid_ra ha,fun h1=>⟨_,a.g75,fun h2=>?_,fun h2=>?_⟩,fun h1=>⟨fun _=>?_,nofun⟩⟩⟩
 ·have h2:a.void=true:=h2
  refine ⟨ti31.zero,rfl,EF.zero.fits,?_,trivial⟩
  rw [bad (by rw [actOk,h2];rfl)]
 ·have h1:validA a=true:=of_bnf h1
  have h2:a.void=false:=h2
  have hk:actOk a=true:=by rw [actOk,h1,h2];rfl
  rw [applyA,if_neg (by rw [hk];simp)]
  refine ⟨fun h1=>⟨fun h2=>⟨ti31.zero,rfl,EF.zero.fits,?_,trivial⟩,fun h2=>?_⟩,fun h1=>⟨fun _=>⟨ti31.zero,rfl,EF.zero.fits,?_,trivial⟩,nofun⟩⟩
  ·have h2:=of_decide_eq_true h2
   rw [if_pos (.inr h2)];rfl
  ·have h1:=of_decide_eq_false h1
   have h2:=of_decide_eq_false h2
   rw [if_neg (by omega)]
   have hkk:a.kind=2∨(1≤a.num∧a.num≤1000000∧1≤a.den∧a.den≤1000000):=by
    rcases act_kind hk with h | h
    ·exact .inl h.1
    ·exact .inr h.2
   obtain ⟨b1,b2⟩:=pieQ_bd (a:=a) (q:=q) (by omega) (by omega) hkk
   have hpi:=paidQ_in a (q:=q) (by omega) (by omega)
   have big:1000000000000000000000 < BB ^ 32:=Nat.lt_of_lt_of_le (by decide:1000000000000000000000 < BB ^ 3) (Nat.pow_le_pow_right BB_pos (by omega))
   have ht:=toInt_r (isI_e (z:=pieQ a q) (by omega))
   have hm:=mulR_r hpi ha.cash
   have hr:=roundInt_r (mulQ_in (paidQ a q) a.cash) 2 6
   have hwh:=whole_r (n:=q) (by omega) (by omega)
   generalize rndI (rndQ (mulQ (paidQ a q) a.cash).1 2 6)=x at *
   obtain ⟨c,e⟩:=x
   have hr:Pure Tryz.prog 55 [SV.c (.agg (mulQ (paidQ a q) a.cash).1.A),SV.c (.int .i64 2),SV.c (.int .i64 6)] (.tuple #[.int .i64 c,.int .i64 e]):=hr
   refine ⟨_,a.g2,_,fill_ef2 a.ins q rfl,EF.fits _,.inl ⟨_,hwh,RQ.A_fits _,_,a.g0,fun k=>?_,fun k=>?_⟩⟩
   ·have k:¬ a.kind=2:=by intro e;rw [e] at k;simp at k
    obtain ⟨n1,n2,d1,d2⟩:=hkk.resolve_left k
    have hqn:0≤q*a.num∧q*a.num≤1000000000000000*1000000:=⟨Int.mul_nonneg (by omega) (by omega),Int.mul_le_mul (by omega) n2 (by omega) (by omega)⟩
    have hfq:=fromInt_r q (by omega) (by omega)
    have hfn:=fromInt_r a.num (by omega) (by omega)
    have hfd:=fromInt_r a.den (by omega) (by omega)
    have hmu:=mul_r (isI_e (i64_lt (n:=q) (by omega) (by omega))) (isI_e (i64_lt (n:=a.num) (by omega) (by omega)))
    rw [fitR,if_pos (by omega)] at hmu
    have hdd:=isI_e (i64_lt (n:=a.den) (by omega) (by omega))
    have hdm:=divmod_r (isI_e (z:=q*a.num) (by omega)) hdd (by omega)
    have hrr:(q*a.num % a.den).natAbs < BB ^ 32:=by
     have:=Int.emod_nonneg (q*a.num) (show a.den≠0 by omega)
     have:=Int.emod_lt_of_pos (q*a.num) (show 0 < a.den by omega)
     omega
    have hmk:=make_r (isI_e hrr) hdd
    have ep:pieQ a q=q*a.num / a.den:=by rw [pieQ,if_neg k]
    have er:paidQ a q=(mkQ (q*a.num % a.den) a.den).1:=by rw [paidQ,if_neg k]
    rw [ep] at ht ⊢
    rw [er] at hm hr hpi
    refine .inl ⟨_,hfq,_,a.g5,.inl ⟨_,hfn,.inl ⟨_,hmu,eA_fits _,by kernel_rfl,_,a.g6,.inl ⟨_,hfd,.inl ⟨_,hdm,eA_fits _,eA_fits _,by kernel_rfl,?_⟩⟩⟩⟩⟩
    by_cases hn:q*a.num / a.den > 1000000000000000
    ·rw [if_pos hn]
     by_cases hz : -9223372036854775808≤q*a.num / a.den∧q*a.num / a.den≤9223372036854775807
     ·rw [toIntR,if_pos hz] at ht
      refine .inl ⟨_,ht,fun _=>⟨fun _=>⟨ti31.zero,rfl,EF.zero.fits,rfl,trivial⟩,fun h=>?_⟩,nofun⟩
      exact absurd hn (of_decide_eq_false h)
     ·rw [toIntR,if_neg hz] at ht
      exact .inl ⟨_,ht,nofun,fun _=>⟨fun _=>⟨ti31.zero,rfl,EF.zero.fits,rfl,trivial⟩,nofun⟩⟩
    ·rw [if_neg hn]
     rw [ep] at b1
     rw [toIntR,if_pos (by omega)] at ht
     refine .inl ⟨_,ht,fun _=>⟨fun h=>absurd (of_decide_eq_true h) hn,fun _=>⟨by decide,rfl,EF.A ⟨a.ins,q*a.num / a.den,0⟩,rfl,?_⟩⟩,nofun⟩
     refine ⟨_,a.g6,.inl ⟨_,hfd,.inl ⟨_,hmk,RQ.A_fits _,by kernel_rfl,_,a.g0,fun m=>?_,fun m=>?_⟩⟩⟩
     ·have m:a.kind=3:=by simpa using m
      rw [show intoA a=a.into by rw [intoA,if_pos m]]
      refine ⟨_,a.g3,by decide,rfl,EF.A ⟨a.into,q*a.num / a.den,0⟩,rfl,by decide,_,a.gcash,.inl ⟨_,hm,RQ.A_fits _,.inl ⟨_,hr,fun h3=>⟨ti31.zero,rfl,EF.zero.fits,?_,trivial⟩,fun h3=>?_⟩⟩⟩
      ·have h3:e≠0:=by simpa using h3
       rw [if_pos (show (c,e).2≠0 from h3)];rfl
      ·have h3:¬ (e≠0):=by simpa using h3
       rw [if_neg (show ¬ (c,e).2≠0 from h3)]
       exact ⟨by decide,rfl,EF.A ⟨a.into,q*a.num / a.den,c⟩,rfl,EF.fits _,rfl,trivial⟩
     ·have m:¬ a.kind=3:=by intro e;rw [e] at m;simp at m
      rw [show intoA a=a.ins by rw [intoA,if_neg m]]
      refine ⟨by decide,_,a.gcash,.inl ⟨_,hm,RQ.A_fits _,.inl ⟨_,hr,fun h3=>⟨ti31.zero,rfl,EF.zero.fits,?_,trivial⟩,fun h3=>?_⟩⟩⟩
      ·have h3:e≠0:=by simpa using h3
       rw [if_pos (show (c,e).2≠0 from h3)];rfl
      ·have h3:¬ (e≠0):=by simpa using h3
       rw [if_neg (show ¬ (c,e).2≠0 from h3)]
       exact ⟨by decide,rfl,EF.A ⟨a.ins,q*a.num / a.den,c⟩,rfl,EF.fits _,rfl,trivial⟩
   ·have k:a.kind=2:=by simpa using k
    have ep:pieQ a q=q:=by rw [pieQ,if_pos k]
    have er:paidQ a q=.of q 1:=by rw [paidQ,if_pos k]
    rw [ep,if_neg (by omega)]
    rw [er] at hm hr
    have k3:intoA a=a.ins:=by rw [intoA,if_neg (by omega)]
    rw [k3]
    refine ⟨_,a.g0,fun m=>absurd m (by rw [k];simp),fun _=>⟨by decide,_,a.gcash,.inl ⟨_,hm,RQ.A_fits _,.inl ⟨_,hr,fun h3=>⟨ti31.zero,rfl,EF.zero.fits,?_,trivial⟩,fun h3=>?_⟩⟩⟩⟩
    ·have h3:e≠0:=by simpa using h3
     rw [if_pos (show (c,e).2≠0 from h3)];rfl
    ·have h3:¬ (e≠0):=by simpa using h3
     rw [if_neg (show ¬ (c,e).2≠0 from h3)]
     exact ⟨by decide,rfl,EF.A ⟨a.ins,q,c⟩,rfl,EF.fits _,rfl,trivial⟩
  ·have h1:=of_decide_eq_true h1
   rw [if_pos (.inl h1)];rfl
 ·have h1:validA a=false:=bnt h1
  refine ⟨ti31.zero,rfl,EF.zero.fits,?_,trivial⟩
  rw [bad (by rw [actOk,h1,Bool.and_false])]
def EF.beq (x y:EF):Bool:=decide (x.ins=y.ins) && ((x.qty == y.qty) && ((x.cash == y.cash) && true))
theorem EF.beq_self (x:EF):x.beq x=true:=by simp [EF.beq]
theorem eq_ef_raw {d:Nat} (x y:EF) (w:World):(Op.equalIn (d+1+1) 31 (.agg x.A) (.agg y.A)).run Tryz.prog w=.ok (x.beq y) w:=by
 rw [run_equalIn_struct w (d+1) 31 _ _ (by simp only [Program.fieldsOf,Tryz.underlying31]) (by kernel_rfl)]
 rw [show (Tryz.prog.fieldsOf 31).toList=[⟨ "Instrument",9,0,false,"","",0⟩,⟨ "Quantity",3,1,false,"","",16⟩,⟨ "Cash",3,2,false,"","",24⟩] from by simp only [Program.fieldsOf,Tryz.underlying31]]
 refine eqF_cons (by decide) (part_cell tok9 rfl rfl w) (part_cell tok9 rfl rfl w) (eq_str _ _ w) fun _=>?_
 refine eqF_cons (by decide) (part_cell tok3 rfl rfl w) (part_cell tok3 rfl rfl w) (eq_int64 _ Tryz.underlying3 _ _ w) fun _=>?_
 exact eqF_cons (by decide) (part_cell tok3 rfl rfl w) (part_cell tok3 rfl rfl w) (eq_int64 _ Tryz.underlying3 _ _ w) fun _=>eqF_nil
theorem guard_ef:Tryz.prog.eqGuardType Tryz.prog.depth 31=false:=by kernel_rfl
theorem eql_ef {E:Env} (hE:E.P=Tryz.prog) (x y:EF) {u v:Operand}:Runs E (do eqGuard .eql 31 u v (.agg x.A) (.agg y.A);binOp .eql 31 (.agg x.A) (.agg y.A)) (.bool (x.beq y)) :=
 runs_eql (by rw [hE];exact guard_ef) fun w=>by rw [hE];exact eq_ef_raw x y w
theorem RQ.beq_self (r:RQ):r.beq r=true:=(r.beq_iff r).mpr rfl
theorem made_of {n d:Int} (h1 : -9223372036854775808≤n) (h2:n≤9223372036854775807) (h3 : -9223372036854775808≤d) (h4:d≤9223372036854775807):Pure Tryz.prog 24 [SV.c (.int .i64 n),SV.c (.int .i64 d)] (.agg (mkQ n d).1.A):=by
 refine sx_pure tt_ok mixed at24 _ _ rfl rfl fun w=>?_
 exact .inl ⟨_,of_r h1 h2 h3 h4,RQ.A_fits _,RQ.A_fits _,rfl,trivial⟩
def splitA (n d:Int) (r:RQ):AC:=⟨1,[115],[65,67,77,69],[],5,n,d,r,[85,83,68],1,false⟩
theorem fill_split (n d:Int) (r:RQ) {pl:List (Nat×Nat)} (hpl:pl=[(0,1),(1,1),(2,1),(3,1),(4,1),(5,1),(6,1),(7,66),(73,1),(74,1),(75,1)]):Instr.fill (fun k=>pl[k]?) ti29.zero [(0,.int .i64 1),(1,.string (S [115])),(2,.string (S [65,67,77,69])),(4,.int .i64 5),(5,.int .i64 n),(6,.int .i64 d),(7,.agg r.A),(8,.string (S [85,83,68])),(9,.int .i64 1)]=some (splitA n d r).A:=by
 subst hpl
 kernel_rfl
def divA (r:RQ):AC:=⟨2,[100],[65,67,77,69],[],5,0,0,r,[85,83,68],1,false⟩
theorem fill_div (r:RQ) {pl:List (Nat×Nat)} (hpl:pl=[(0,1),(1,1),(2,1),(3,1),(4,1),(5,1),(6,1),(7,66),(73,1),(74,1),(75,1)]):Instr.fill (fun k=>pl[k]?) ti29.zero [(0,.int .i64 2),(1,.string (S [100])),(2,.string (S [65,67,77,69])),(4,.int .i64 5),(7,.agg r.A),(8,.string (S [85,83,68])),(9,.int .i64 1)]=some (divA r).A:=by
 subst hpl
 kernel_rfl
theorem split_f (n d:Int) (r:RQ):Pure Tryz.prog 26 [SV.c (.int .i64 n),SV.c (.int .i64 d),SV.c (.agg r.A)] (.agg (splitA n d r).A):=by
 refine sx_pure tt_ok mixed at26 _ _ rfl rfl fun w=>?_
 exact ⟨r.A_size,_,fill_split n d r rfl,AC.fits _,rfl,trivial⟩
theorem splitA_in {n d:Int} {r:RQ} (hr:r.In) (h1 : -9223372036854775808≤n) (h2:n≤9223372036854775807) (h3 : -9223372036854775808≤d) (h4:d≤9223372036854775807):(splitA n d r).In:=⟨hr,by simp [splitA],by simp [splitA],by simp [splitA],by simp [splitA],⟨h1,h2⟩,⟨h3,h4⟩⟩
theorem divA_in {r:RQ} (hr:r.In):(divA r).In:=⟨hr,by simp [divA],by simp [divA],by simp [divA],by simp [divA],by simp [divA],by simp [divA]⟩
theorem known_1:applyA (splitA 3 2 (mkQ 10 1).1) 7=(⟨[65,67,77,69],10,500⟩,0):=by kernel_rfl
theorem known_2:applyA (divA (mkQ 1 8).1) 7=(⟨[65,67,77,69],7,88⟩,0):=by kernel_rfl
theorem known_3:adjustA (splitA 3 2 (mkQ 10 1).1) (mkQ 30 1).1=((mkQ 20 1).1,0):=by kernel_rfl
theorem eqs_ef {E:Env} (hE:E.P=Tryz.prog) (x:EF) {u v:Operand}:Runs E (do eqGuard .eql 31 u v (.agg x.A) (.agg x.A);binOp .eql 31 (.agg x.A) (.agg x.A)) (.bool true):=by
 have:=eql_ef hE x x (u:=u) (v:=v)
 rwa [EF.beq_self] at this
theorem eqs_ratio {E:Env} (hE:E.P=Tryz.prog) {r:RQ} (hr:r.In) {u v:Operand}:Runs E (do eqGuard .eql 27 u v (.agg r.A) (.agg r.A);binOp .eql 27 (.agg r.A) (.agg r.A)) (.bool true):=by
 have:=eql_ratio hE hr hr (u:=u) (v:=v)
 rwa [RQ.beq_self] at this
theorem known_f:Pure Tryz.prog 15 [] (.bool true):=by
 refine sx_pure tt_ok mixed at15 _ _ rfl rfl fun w=>?_
 have o1:=made_of (n:=10) (d:=1) (by decide) (by decide) (by decide) (by decide)
 have o2:=made_of (n:=1) (d:=8) (by decide) (by decide) (by decide) (by decide)
 have o3:=made_of (n:=30) (d:=1) (by decide) (by decide) (by decide) (by decide)
 have o4:=made_of (n:=20) (d:=1) (by decide) (by decide) (by decide) (by decide)
 have s1:=splitA_in (n:=3) (d:=2) (mkQ_in 10 1) (by decide) (by decide) (by decide) (by decide)
 have d1:=divA_in (mkQ_in 1 8)
 have a1:=apply_z s1 7
 rw [known_1] at a1
 have a2:=apply_z d1 7
 rw [known_2] at a2
 have a3:=adjust_z s1 (mkQ_in 30 1)
 rw [known_3] at a3
 have sp:=split_f 3 2 (mkQ 10 1).1
 have q4:=mkQ_in 20 1
 generalize mkQ 10 1=x1 at *
 generalize mkQ 1 8=x2 at *
 generalize mkQ 30 1=x3 at *
 generalize mkQ 20 1=x4 at *
 refine .inl ⟨_,o1,.inl ⟨_,sp,.inl ⟨_,a1,EF.fits _,.inl ⟨_,o2,_,fill_div x2.1 rfl,AC.fits _,.inl ⟨_,a2,EF.fits _,.inl ⟨_,o1,.inl ⟨_,sp,.inl ⟨_,o3,.inl ⟨_,a3,RQ.A_fits _,?_⟩⟩⟩⟩⟩⟩⟩⟩⟩
 have fe:∀ (x:EF),Instr.fill (fun k=>[(0,1),(1,1),(2,1)][k]?) ti31.zero [(0,.string (S x.ins)),(1,.int .i64 x.qty),(2,.int .i64 x.cash)]=some x.A:=fun x=>fill_ef x rfl
 exact ⟨fun _=>⟨_,fill_ef ⟨[65,67,77,69],10,500⟩ rfl,_,eqs_ef rfl ⟨[65,67,77,69],10,500⟩,fun _=>⟨fun _=>⟨_,fill_ef ⟨[65,67,77,69],7,88⟩ rfl,_,eqs_ef rfl ⟨[65,67,77,69],7,88⟩,fun _=>⟨fun _=>.inl ⟨_,o4,_,eqs_ratio rfl q4,by kernel_rfl,rfl,trivial⟩,nofun⟩,nofun⟩,nofun⟩,nofun⟩,nofun⟩
theorem adjust_in {a:AC} (_ha:a.In) {r:RQ} (_hr:r.In):(adjustA a r).1.In:=by
 unfold adjustA
 split
 ·exact ⟨zero_lt,zero_lt⟩
 ·split
  ·exact sumQ_in _ _ _
  ·exact mulQ_in _ _
theorem actionExact_f {a:AC} (ha:a.In) (q:Int) {r:RQ} (hr:r.In):Pure Tryz.prog 3 [SV.c (.agg a.A),SV.c (.int .i64 q),SV.c (.agg r.A)] (.bool true):=by
 refine sx_pure tt_ok mixed at3 _ _ rfl rfl fun w=>?_
 have a1:=apply_z ha q
 have a2:=apply_r ha q
 have a3:=adjust_z ha hr
 have a4:=adjust_r ha hr
 have i3:(adjustA a r).1.In:=adjust_in ha hr
 generalize applyA a q=x at *
 generalize adjustA a r=y at *
 obtain ⟨x,e⟩:=x
 obtain ⟨y,f⟩:=y
 refine ⟨a.size,r.A_size,.inl ⟨_,a1,EF.fits _,.inl ⟨_,a2,EF.fits _,.inl ⟨_,a3,RQ.A_fits _,.inl ⟨_,a4,RQ.A_fits _,.inl ⟨_,known_f,?_⟩⟩⟩⟩⟩⟩
 exact ⟨fun _=>⟨_,eqs_ef rfl x,fun _=>⟨fun _=>⟨_,eqs_ratio rfl i3,fun _=>⟨bv (beq_self_eq_true f),trivial⟩,nofun⟩,fun h=>absurd h (by rw [show ((e:Int) == e)=true from beq_self_eq_true e];decide)⟩,nofun⟩,nofun⟩
end Go.Proofs.YtnfmpddhcjkjbaaGreatDoor
