/- walks: the reference, texts of whole numbers. walks: the reference, decimals read and written. walks: the reference, the text of a pair. walks: a corporate action, the reference. walks: what an action makes, the reference. walks: the law of an action's effects; no condition. -/
import Derived.Test.YtekfkdddadcalaaGreatDoorPositionBentQ15
set_option maxRecDepth 100000
set_option maxHeartbeats 4000000
namespace Go.Proofs.YtekfkdddadcalaaGreatDoor
open Go Go.RowKit Go.SX
def ten:List UInt8:=[48,49,50,51,52,53,54,55,56,57]
theorem capital_r (x:Nat):Pure Tryz.prog 97 [SV.c (.int .u8 (x:Nat))] (.bool (decide (65≤x) && decide (x≤90))):=by
 refine sx_pure tt_ok mixed at97 _ _ rfl rfl fun w=>?_
 refine ⟨fun h=>⟨bv ?_,trivial⟩,fun h=>⟨bv ?_,trivial⟩⟩
 ·have h:=of_decide_eq_true h
  rw [decide_eq_true (by omega:65≤x),Bool.true_and,Bool.eq_iff_iff];simp only [decide_eq_true_eq];omega
 ·have h:=of_decide_eq_false h
  rw [decide_eq_false (by omega:¬ 65≤x),Bool.false_and]
theorem out_r (n:Int):Pure Tryz.prog 67 [SV.c (.int .i64 n)] (.bool (decide (n < 0) || decide (n > 73048))):=by
 refine sx_pure tt_ok mixed at67 _ _ rfl rfl fun w=>?_
 refine ⟨fun h=>⟨bv ?_,trivial⟩,fun h=>⟨bv ?_,trivial⟩⟩
 ·rw [show decide (n < 0)=false from h,Bool.false_or]
 ·rw [show decide (n < 0)=true from h,Bool.true_or]
def capR (l:List UInt8) (j:Nat):Bool:=decide (65≤(l.getD j 0).toNat) && decide ((l.getD j 0).toNat≤90)
theorem capR_false (l:List UInt8) (j:Nat):capAt false l j=capR l j:=by
 unfold capAt capR;simp
theorem capR_zero (l:List UInt8):capAt true l 0=capR l 0:=by
 unfold capAt capR;simp
theorem curOk_eq (l:List UInt8):curOk l=(decide ((l.length:Int)=3) && (capR l 0 && (capR l 1 && capR l 2))):=by
 unfold curOk
 by_cases h:l.length=3
 ·rw [decide_eq_true (by omega:(l.length:Int)=3),decide_eq_true (by omega:(3:Int)≤l.length),decide_eq_true (by omega:(l.length:Int)≤3)]
  simp only [Bool.and_true,Bool.true_and]
  by_cases h0:capR l 0=true
  ·by_cases h1:capR l 1=true
   ·by_cases h2:capR l 2=true
    ·rw [h0,h1,h2]
     apply capAll_true
     intro j hj
     rw [capR_false]
     obtain rfl | rfl | rfl:j=0∨j=1∨j=2:=by omega
     ·exact h0
     ·exact h1
     ·exact h2
    ·have h2:capR l 2=false:=by simpa using h2
     rw [h2,Bool.and_false,Bool.and_false]
     exact capAll_false (j:=2) (by omega) (by rw [capR_false];exact h2)
   ·have h1:capR l 1=false:=by simpa using h1
    rw [h1,Bool.false_and,Bool.and_false]
    exact capAll_false (j:=1) (by omega) (by rw [capR_false];exact h1)
  ·have h0:capR l 0=false:=by simpa using h0
   rw [h0,Bool.false_and]
   exact capAll_false (j:=0) (by omega) (by rw [capR_false];exact h0)
 ·rw [decide_eq_false (by omega:¬ (l.length:Int)=3),Bool.false_and]
  by_cases h3:(3:Int)≤l.length
  ·rw [decide_eq_false (by omega:¬ (l.length:Int)≤3),Bool.and_false,Bool.and_false]
  ·rw [decide_eq_false h3,Bool.false_and,Bool.and_false]
theorem code_r (l:List UInt8) (_hl:l.length≤9223372036854775807):Pure Tryz.prog 98 [SV.c (.string (S l))] (.bool (curOk l)):=by
 refine sx_pure tt_ok mixed at98 _ _ rfl rfl fun w=>?_
 have hx:∀ i:Nat,i < l.length→Runs ((envP Tryz.prog tt Tryz.f98.ntmps w).toEnv) (Instr.index 9 (.string (S l)) (.int .i64 (i:Int))) (.int .u8 ((l.getD i 0).toNat:Nat)):=fun i h=>runs_idx Tryz.underlying9 i rfl h
 rw [curOk_eq]
 refine ⟨_,fun w _=>run_len_S Tryz.underlying9 w,fun h=>?_,fun h=>?_⟩
 ·have h:((l.length:Int) == 3)=true:=h
  have h:(l.length:Int)=3:=by simpa using h
  rw [decide_eq_true h,Bool.true_and]
  refine ⟨_,hx 0 (by omega),.inl ⟨_,capital_r _,fun h0=>⟨_,hx 1 (by omega),.inl ⟨_,capital_r _,fun h1=>⟨_,hx 2 (by omega),.inl ⟨_,capital_r _,bv ?_,trivial⟩⟩,fun h1=>⟨bv ?_,trivial⟩⟩⟩,fun h0=>⟨nofun,fun _=>⟨bv ?_,trivial⟩⟩⟩⟩
  ·rw [show capR l 0=true from h0,show capR l 1=true from h1];rfl
  ·rw [show capR l 0=true from h0,show capR l 1=false from h1];rfl
  ·rw [show capR l 0=false from h0];rfl
 ·have h:((l.length:Int) == 3)=false:=h
  have h:¬ (l.length:Int)=3:=by simpa using h
  rw [decide_eq_false h,Bool.false_and]
  refine ⟨nofun,fun _=>⟨nofun,fun _=>⟨rfl,trivial⟩⟩⟩
theorem capAt_eq (l:List UInt8) (j:Nat):capAt true l j=(capR l j || (!decide (j=0) && decide (48≤(l.getD j 0).toNat) && decide ((l.getD j 0).toNat≤57))):=by
 unfold capAt capR;rw [Bool.true_and]
theorem paper_r (l:List UInt8) (hl:l.length≤9223372036854775807):Pure Tryz.prog 60 [SV.c (.string (S l))] (.bool (insOk l)):=by
 refine sx_pure tt_ok mixed at60 _ _ rfl rfl fun w=>?_
 have hx:∀ i:Nat,i < l.length→Runs ((envP Tryz.prog tt Tryz.f60.ntmps w).toEnv) (Instr.index 9 (.string (S l)) (.int .i64 (i:Int))) (.int .u8 ((l.getD i 0).toNat:Nat)):=fun i h=>runs_idx Tryz.underlying9 i rfl h
 have hlen:∀ (w:World),(builtin .len #[9] 3 #[false] #[.string (S l)]).run Tryz.prog w=.ok (.value (.int .i64 (l.length:Nat))) w:=fun w=>run_len_S Tryz.underlying9 w
 have stop:∀ j,j < l.length→capAt true l j=false→insOk l=false:=fun j hj e=>by rw [insOk,capAll_false hj e];rfl
 refine ⟨_,fun w _=>run_len_S Tryz.underlying9 w,fun h1=>⟨_,fun w _=>run_len_S Tryz.underlying9 w,fun h2=>⟨_,hx 0 ?_,.inl ⟨_,capital_r _,fun h3=>⟨bv ?_,trivial⟩,fun h3=>?_⟩⟩,fun h2=>⟨fun _=>⟨bv ?_,trivial⟩,nofun⟩⟩,fun h1=>⟨nofun,fun _=>⟨fun _=>⟨bv ?_,trivial⟩,nofun⟩⟩⟩
 ·have h1:decide ((l.length:Int) < 1)=false:=h1
  have h1:=of_decide_eq_false h1
  omega
 ·have h3:capR l 0=false:=bnt h3
  have h1:decide ((l.length:Int) < 1)=false:=h1
  have h1:=of_decide_eq_false h1
  rw [stop 0 (by omega) (by rw [capR_zero];exact h3)]
 ·have h1:decide ((l.length:Int) < 1)=false:=h1
  have h1:=of_decide_eq_false h1
  have h2:decide ((l.length:Int) > 12)=false:=h2
  have h2:=of_decide_eq_false h2
  have h3:capR l 0=true:=of_bnf h3
  refine ⟨fun q f m=>∃ i:Nat,q=l.length - i∧i≤l.length∧(∀ j,j < i→capAt true l j=true)∧f=[(0,SV.c (.string (S l))),(3,SV.c (.int .i64 i))]∧m=[],l.length,⟨_,_,⟨0,rfl,Nat.zero_le _,fun j hj=>absurd hj (by omega),rfl,rfl⟩,⟨rfl,rfl,trivial⟩,trivial,rfl⟩,?_⟩
  rintro q f m ⟨i,rfl,hi1,hall,rfl,rfl⟩
  refine ⟨_,fun w _=>run_len_S Tryz.underlying9 w,fun h=>?_,fun h=>?_⟩
  ·have h:i < l.length:=by have:=of_decide_eq_true h;omega
   have hnext:capAt true l i=true→∀ j,j < i+1→capAt true l j=true:=fun e j hj=>by
    by_cases e2:j=i
    ·rw [e2];exact e
    ·exact hall j (by omega)
   refine ⟨_,hx i h,.inl ⟨_,capital_r _,fun h4=>⟨_,hx i h,fun h5=>⟨_,hx i h,fun h6=>⟨bv ?_,trivial⟩,fun h6=>?_⟩,fun h5=>⟨fun _=>⟨bv ?_,trivial⟩,nofun⟩⟩,fun h4=>⟨nofun,fun _=>?_⟩⟩⟩
   ·have h4:capR l i=false:=bnt h4
    have h6:=of_decide_eq_true h6
    rw [stop i h]
    rw [capAt_eq,h4,decide_eq_false (by omega:¬ (l.getD i 0).toNat≤57),Bool.and_false,Bool.or_false]
   ·have h4:capR l i=false:=bnt h4
    have h5:=of_decide_eq_false h5
    have h6:=of_decide_eq_false h6
    have hi0:¬ i=0:=by intro e;rw [e,h3] at h4;cases h4
    exact ⟨l.length - (i+1),_,_,by omega,⟨i+1,rfl,by omega,hnext (by rw [capAt_eq,h4,decide_eq_false hi0,decide_eq_true (by omega:48≤(l.getD i 0).toNat),decide_eq_true (by omega:(l.getD i 0).toNat≤57)];rfl),rfl,rfl⟩,⟨rfl,c_int (by rw [i64_in (by omega)];rfl),trivial⟩,trivial,rfl⟩
   ·have h4:capR l i=false:=bnt h4
    have h5:=of_decide_eq_true h5
    rw [stop i h]
    rw [capAt_eq,h4,decide_eq_false (by omega:¬ 48≤(l.getD i 0).toNat),Bool.and_false,Bool.false_and,Bool.or_false]
   ·have h4:capR l i=true:=of_bnf h4
    exact ⟨l.length - (i+1),_,_,by omega,⟨i+1,rfl,by omega,hnext (by rw [capAt_eq,h4,Bool.true_or]),rfl,rfl⟩,⟨rfl,c_int (by rw [i64_in (by omega)];rfl),trivial⟩,trivial,rfl⟩
  ·have h:i=l.length:=by have:=of_decide_eq_false h;omega
   subst h
   refine ⟨bv ?_,trivial⟩
   rw [insOk,capAll_true hall,decide_eq_true (by omega:1≤l.length),decide_eq_true (by omega:l.length≤12)];rfl
 ·have h2:decide ((l.length:Int) > 12)=true:=h2
  have h2:=of_decide_eq_true h2
  rw [insOk,decide_eq_false (by omega:¬ l.length≤12),Bool.and_false,Bool.and_false]
 ·have h1:decide ((l.length:Int) < 1)=true:=h1
  have h1:=of_decide_eq_true h1
  rw [insOk,decide_eq_false (by omega:¬ 1≤l.length),Bool.false_and,Bool.and_false]
def EF.beq (x y:EF):Bool:=decide (x.ins=y.ins) && ((x.qty == y.qty) && ((x.cash == y.cash) && true))
theorem made_of {n d:Int} (h1 : -9223372036854775808≤n) (h2:n≤9223372036854775807) (h3 : -9223372036854775808≤d) (h4:d≤9223372036854775807):Pure Tryz.prog 36 [SV.c (.int .i64 n),SV.c (.int .i64 d)] (.agg (mkQ n d).1.A):=by
 refine sx_pure tt_ok mixed at36 _ _ rfl rfl fun w=>?_
 exact .inl ⟨_,of_r h1 h2 h3 h4,RQ.A_fits _,RQ.A_fits _,rfl,trivial⟩
end Go.Proofs.YtekfkdddadcalaaGreatDoor
