/- walks: the reference, texts of whole numbers. walks: the reference, decimals read and written. walks: the reference, the text of a pair. walks: a corporate action, the reference. walks: what an action makes, the reference. walks: the law of an action's effects; no condition. -/
import Derived.Test.YtofllflnmmjijaaGreatDoorP20
set_option maxRecDepth 100000
set_option maxHeartbeats 4000000
namespace Go.Proofs.YtofllflnmmjijaaGreatDoor
open Go Go.RowKit Go.SX
def ten:List UInt8:=[48,49,50,51,52,53,54,55,56,57]
theorem capital_r (x:Nat):Pure Tryz.prog 81 [SV.c (.int .u8 (x:Nat))] (.bool (decide (65≤x) && decide (x≤90))):=by
 refine sx_pure tt_ok mixed at81 _ _ rfl rfl fun w=>?_
 refine ⟨fun h=>⟨bv ?_,trivial⟩,fun h=>⟨bv ?_,trivial⟩⟩
 ·have h:=of_decide_eq_true h
  rw [decide_eq_true (by omega:65≤x),Bool.true_and,Bool.eq_iff_iff];simp only [decide_eq_true_eq];omega
 ·have h:=of_decide_eq_false h
  rw [decide_eq_false (by omega:¬ 65≤x),Bool.false_and]
theorem out_r (n:Int):Pure Tryz.prog 35 [SV.c (.int .i64 n)] (.bool (decide (n < 0) || decide (n > 73048))):=by
 refine sx_pure tt_ok mixed at35 _ _ rfl rfl fun w=>?_
 refine ⟨fun h=>⟨bv ?_,trivial⟩,fun h=>⟨bv ?_,trivial⟩⟩
 ·rw [show decide (n < 0)=false from h,Bool.false_or]
 ·rw [show decide (n < 0)=true from h,Bool.true_or]
def capR (l:List UInt8) (j:Nat):Bool:=decide (65≤(l.getD j 0).toNat) && decide ((l.getD j 0).toNat≤90)
theorem capR_false (l:List UInt8) (j:Nat):capAt false l j=capR l j:=by
 unfold capAt capR;simp
theorem curOk_eq (l:List UInt8):curOk l=(decide ((l.length:Int)=3) && (capR l 0 && (capR l 1 && capR l 2))):=by
 unfold curOk
 by_cases h:l.length=3
 ·rw [decide_eq_true (by omega:(l.length:Int)=3),decide_eq_true (by omega:(3:Int)≤l.length),decide_eq_true (by omega:(l.length:Int)≤3)]
  simp only [Bool.and_true,Bool.true_and]
  by_cases h0:capR l 0=true
  ·by_cases h1:capR l 1=true
   ·by_cases h2:capR l 2=true
    ·rw [h0,h1,h2]
     apply capAll_true
     intro j hj
     rw [capR_false]
     obtain rfl | rfl | rfl:j=0∨j=1∨j=2:=by omega
     ·exact h0
     ·exact h1
     ·exact h2
    ·have h2:capR l 2=false:=by simpa using h2
     rw [h2,Bool.and_false,Bool.and_false]
     exact capAll_false (j:=2) (by omega) (by rw [capR_false];exact h2)
   ·have h1:capR l 1=false:=by simpa using h1
    rw [h1,Bool.false_and,Bool.and_false]
    exact capAll_false (j:=1) (by omega) (by rw [capR_false];exact h1)
  ·have h0:capR l 0=false:=by simpa using h0
   rw [h0,Bool.false_and]
   exact capAll_false (j:=0) (by omega) (by rw [capR_false];exact h0)
 ·rw [decide_eq_false (by omega:¬ (l.length:Int)=3),Bool.false_and]
  by_cases h3:(3:Int)≤l.length
  ·rw [decide_eq_false (by omega:¬ (l.length:Int)≤3),Bool.and_false,Bool.and_false]
  ·rw [decide_eq_false h3,Bool.false_and,Bool.and_false]
def EF.beq (x y:EF):Bool:=decide (x.ins=y.ins) && ((x.qty == y.qty) && ((x.cash == y.cash) && true))
theorem EF.beq_self (x:EF):x.beq x=true:=by simp [EF.beq]
theorem RQ.beq_self (r:RQ):r.beq r=true:=(r.beq_iff r).mpr rfl
theorem made_of {n d:Int} (h1 : -9223372036854775808≤n) (h2:n≤9223372036854775807) (h3 : -9223372036854775808≤d) (h4:d≤9223372036854775807):Pure Tryz.prog 25 [SV.c (.int .i64 n),SV.c (.int .i64 d)] (.agg (mkQ n d).1.A):=by
 refine sx_pure tt_ok mixed at25 _ _ rfl rfl fun w=>?_
 exact .inl ⟨_,of_r h1 h2 h3 h4,RQ.A_fits _,RQ.A_fits _,rfl,trivial⟩
end Go.Proofs.YtofllflnmmjijaaGreatDoor
