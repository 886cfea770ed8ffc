/- walks: the reference, texts of whole numbers. walks: the ref; no condition. -/
import Derived.Test.YtklehfchdoikeaaGreatDoorP16
set_option maxRecDepth 100000
set_option maxHeartbeats 4000000
namespace Go.Proofs.YtklehfchdoikeaaGreatDoor
open Go Go.RowKit Go.SX
def ten:List UInt8:=[48,49,50,51,52,53,54,55,56,57]
theorem qZ (x:Nat):ay Tryz.prog 129 [SV.c (.int .u8 (x:Nat))] (.bool (decide (65<=x) && decide (x<=90))):=by
 refine al ai ak Sp _ _ rfl rfl fun w=>?_
 refine ⟨fun h=>⟨bv ?_,trivial⟩,fun h=>⟨bv ?_,trivial⟩⟩
 ·have h:=af h
  rw [decide_eq_true (by omega:65<=x),Bool.true_and,Bool.eq_iff_iff];simp only [decide_eq_true_eq];omega
 ·have h:=ag h
  rw [decide_eq_false (by omega:¬ 65<=x),Bool.false_and]
theorem LH (n:Int):ay Tryz.prog 60 [SV.c (.int .i64 n)] (.bool (decide (n < 0) || decide (n > 73048))):=by
 refine al ai ak Ut _ _ rfl rfl fun w=>?_
 refine ⟨fun h=>⟨bv ?_,trivial⟩,fun h=>⟨bv ?_,trivial⟩⟩
 ·rw [show decide (n < 0)=false from h,Bool.false_or]
 ·rw [show decide (n < 0)=true from h,Bool.true_or]
def mi (l:List UInt8) (j:Nat):Bool:=decide (65<=(l.getD j 0).toNat) && decide ((l.getD j 0).toNat<=90)
theorem jM (l:List UInt8) (j:Nat):cX false l j=mi l j:=by
 unfold cX mi;simp
theorem Il (l:List UInt8):aF l=(decide ((l.length:Int)=3) && (mi l 0 && (mi l 1 && mi l 2))):=by
 unfold aF
 by_cases h:l.length=3
 ·rw [decide_eq_true (by omega:(l.length:Int)=3),decide_eq_true (by omega:(3:Int)<=l.length),decide_eq_true (by omega:(l.length:Int)<=3)]
  simp only [Bool.and_true,Bool.true_and]
  by_cases h0:mi l 0=true
  ·by_cases h1:mi l 1=true
   ·by_cases h2:mi l 2=true
    ·rw [h0,h1,h2]
     apply fO
     intro j hj
     rw [jM]
     obtain rfl | rfl | rfl:j=0\/j=1\/j=2:=by omega
     ·exact h0
     ·exact h1
     ·exact h2
    ·have h2:mi l 2=false:=by simpa using h2
     rw [h2,Bool.and_false,Bool.and_false]
     exact de (j:=2) (by omega) (by rw [jM];exact h2)
   ·have h1:mi l 1=false:=by simpa using h1
    rw [h1,Bool.false_and,Bool.and_false]
    exact de (j:=1) (by omega) (by rw [jM];exact h1)
  ·have h0:mi l 0=false:=by simpa using h0
   rw [h0,Bool.false_and]
   exact de (j:=0) (by omega) (by rw [jM];exact h0)
 ·rw [decide_eq_false (by omega:¬ (l.length:Int)=3),Bool.false_and]
  by_cases h3:(3:Int)<=l.length
  ·rw [decide_eq_false (by omega:¬ (l.length:Int)<=3),Bool.and_false,Bool.and_false]
  ·rw [decide_eq_false h3,Bool.false_and,Bool.and_false]
def EF.beq (x y:EF):Bool:=decide (x.ins=y.ins) && ((x.qty == y.qty) && ((x.cash == y.cash) && true))
theorem EF.beq_self (x:EF):x.beq x=true:=by simp [EF.beq]
theorem RQ.beq_self (r:RQ):r.beq r=true:=(r.beq_iff r).mpr rfl
theorem dT {n d:Int} (h1 : -9223372036854775808<=n) (h2:n<=9223372036854775807) (h3 : -9223372036854775808<=d) (h4:d<=9223372036854775807):ay Tryz.prog 23 [SV.c (.int .i64 n),SV.c (.int .i64 d)] (.agg (mkQ n d).1.A):=by
 refine al ai ak UU _ _ rfl rfl fun w=>?_
 exact .inl ⟨_,TS h1 h2 h3 h4,RQ.A_fits _,RQ.A_fits _,rfl,trivial⟩
end Go.Proofs.YtklehfchdoikeaaGreatDoor
