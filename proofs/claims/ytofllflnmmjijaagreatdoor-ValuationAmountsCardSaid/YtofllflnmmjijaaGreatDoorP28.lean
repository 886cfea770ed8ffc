/- texts and numbers compared. what is held: keys compared, cells. where a key stands among texts. where a key stands among balances; no condition. -/
import Derived.Lib.Bytealg
import Derived.Test.YtofllflnmmjijaaGreatDoorP26
import Derived.Test.YtofllflnmmjijaaGreatDoorP7
set_option maxRecDepth 100000
set_option maxHeartbeats 4000000
namespace Go.Proofs.YtofllflnmmjijaaGreatDoor
open Go Go.RowKit Go.SX
def cmpB (a b:List UInt8):Int:=if ltB a b then -1 else if ltB b a then 1 else 0
theorem cmpB_eq:∀ (a b:List UInt8),Lib.compareBytes a b=cmpB a b
 | [],[]=>rfl
 | [],_ :: _=>rfl
 | _ :: _,[]=>rfl
 | a :: x,b :: y=>by
  rw [Lib.compareBytes,cmpB_eq x y]
  unfold cmpB
  rw [ltB,ltB]
  by_cases h1:a < b
  ·rw [if_pos h1,if_pos h1,if_pos rfl]
  ·rw [if_neg h1,if_neg h1]
   by_cases h2:b < a
   ·rw [if_pos h2,if_pos h2,if_neg (by decide),if_pos h2,if_pos rfl]
   ·rw [if_neg h2,if_neg h2,if_neg h2,if_neg h1]
theorem bytesLess_eq:∀ (a b:List UInt8),Op.bytesLess a b=ltB a b
 | [],[]=>rfl
 | [],_ :: _=>rfl
 | _ :: _,[]=>rfl
 | a :: x,b :: y=>by
  rw [Op.bytesLess,ltB,bytesLess_eq x y]
  by_cases h1:a < b
  ·simp [h1]
  ·by_cases h2:b < a
   ·have:(a == b)=false:=by
      rw [beq_eq_false_iff_ne]
      intro e;subst e;exact absurd h2 (UInt8.lt_irrefl a)
    simp [h1,h2,this]
   ·have:a=b:=UInt8.le_antisymm (UInt8.not_lt.1 h2) (UInt8.not_lt.1 h1)
    subst this
    simp [h1]
theorem cmpB_lt {a b:List UInt8}:cmpB a b < 0↔ltB a b=true:=by
 unfold cmpB
 by_cases h:ltB a b=true
 ·simp [h]
 ·rw [if_neg h]
  by_cases h2:ltB b a=true
  ·simp [h,h2]
  ·simp [h,h2]
theorem cmpB_zero {a b:List UInt8}:cmpB a b=0↔a=b:=by
 unfold cmpB
 by_cases h:ltB a b=true
 ·rw [if_pos h]
  constructor
  ·intro e;cases e
  ·rintro rfl;rw [ltB_irr] at h;cases h
 ·rw [if_neg h]
  by_cases h2:ltB b a=true
  ·rw [if_pos h2]
   constructor
   ·intro e;cases e
   ·rintro rfl;rw [ltB_irr] at h2;cases h2
  ·rw [if_neg h2]
   exact ⟨fun _=>ltB_tri a b (by simpa using h) (by simpa using h2),fun _=>rfl⟩
theorem bytealg_c (a b:ByteArray) (w:World):Calls Tryz.prog 172 #[.string a,.string b] w fun e w'=>e=.returned (.int .i64 (Lib.compareBytes a.data.toList b.data.toList))∧w'=w:=by
 go_enter Tryz.func172,Tryz.ntmps172
 go_wp2
 rw [run_callFunc_extern Tryz.func216 (by kernel_rfl) (by kernel_rfl) (by kernel_rfl) (e:=Extern.BytealgCompare.compare) (by kernel_rfl),Lib.run_compareString]
 simp only [Result.andThen]
 rw [Oper.upon_value]
 go_wp2
 go_ret
 exact ⟨rfl,rfl⟩
theorem bytealg_z (a b:List UInt8):Pure Tryz.prog 172 [SV.c (.string (S a)),SV.c (.string (S b))] (.int .i64 (cmpB a b)):=by
 refine ⟨at172.enters,fun ρ w xs hx=>?_⟩
 match xs,hx with
 | [x,y],hx =>
  obtain ⟨h1,h2,_⟩:=hx
  cases (show x=.string (S a) from h1)
  cases (show y=.string (S b) from h2)
  refine (bytealg_c (S a) (S b) w).mono ?_
  rintro e w' ⟨rfl,rfl⟩
  exact ⟨by rw [cmpB_eq];rfl,Below.refl _ _⟩
theorem compareS_z (a b:List UInt8):Pure Tryz.prog 116 [SV.c (.string (S a)),SV.c (.string (S b))] (.int .i64 (cmpB a b)):=by
 refine sx_pure tt_ok mixed at116 _ _ rfl rfl fun w=>?_
 exact .inl ⟨_,bytealg_z a b,rfl,trivial⟩
theorem isNaN_z (n:Int):Pure Tryz.prog 173 [SV.c (.int .i64 n)] (.bool false):=by
 refine sx_pure tt_ok mixed at173 _ _ rfl rfl fun w=>?_
 exact ⟨bv (by simp),trivial⟩
def cmpN (a b:Int):Int:=if a < b then -1 else if b < a then 1 else 0
theorem compareN_z (a b:Int):Pure Tryz.prog 117 [SV.c (.int .i64 a),SV.c (.int .i64 b)] (.int .i64 (cmpN a b)):=by
 refine sx_pure tt_ok mixed at117 _ _ rfl rfl fun w=>?_
 refine .inl ⟨_,isNaN_z a,.inl ⟨_,isNaN_z b,?_⟩⟩
 refine ⟨nofun,fun _=>⟨nofun,fun _=>⟨fun c=>?_,fun c=>⟨fun c2=>?_,fun c2=>?_⟩⟩⟩⟩
 ·have c:=of_decide_eq_true c
  exact ⟨by unfold cmpN;rw [if_pos c];rfl,trivial⟩
 ·have c:=of_decide_eq_false c
  have c2:=of_decide_eq_true (show decide (a > b)=true from c2)
  exact ⟨by unfold cmpN;rw [if_neg c,if_pos (by omega)];rfl,trivial⟩
 ·have c:=of_decide_eq_false c
  have c2:=of_decide_eq_false (show decide (a > b)=false from c2)
  exact ⟨by unfold cmpN;rw [if_neg c,if_neg (by omega)];rfl,trivial⟩
theorem cmpN_lt {a b:Int}:cmpN a b < 0↔a < b:=by
 unfold cmpN
 split
 ·simp;assumption
 ·split<;>simp<;>omega
theorem row_ints (a b:Int):Instr.fill (fun k=>some (k*ti3.size,ti3.size)) (madeCells ti3.zero (2*ti3.size)) [(0,.int .i64 a),(1,.int .i64 b)]=some #[.int .i64 a,.int .i64 b]:=by kernel_rfl
theorem or_z {E:Env} (hE:E.P=Tryz.prog) (a b:Int):OwnC E 115 [SV.sl 9400 0 2 2] [(9400,Blk.row 3 2 #[.int .i64 a,.int .i64 b])] (fun r U=>r=.int .i64 (if a=0 then b else a)∧U=[(9400,Blk.row 3 2 #[.int .i64 a,.int .i64 b])]):=by
 refine sx_ownC [] tt_ok mixed at115 E hE [SV.sl 9400 0 2 2] [(9400,Blk.row 3 2 #[.int .i64 a,.int .i64 b])] _ rfl rfl fun w X β hT=>?_
 refine ⟨fun q f m=>∃ (i:Nat),q=2 - i∧i≤2∧(1≤i→a=0)∧(2≤i→b=0)∧f=[(3,SV.c (.int .i64 0)),(6,SV.sl 9400 0 2 2),(7,SV.c (.int .i64 2)),(8,SV.c (.int .i64 (i:Nat)))]∧m=[(9400,Blk.row 3 2 #[.int .i64 a,.int .i64 b])],2,⟨_,_,⟨0,rfl,by omega,by omega,by omega,rfl,rfl⟩,⟨rfl,rfl,rfl,rfl,trivial⟩,⟨rfl,trivial⟩,rfl⟩,?_⟩
 rintro q f m ⟨i,rfl,hi,h1,h2,rfl,rfl⟩
 match i with
 | 0 =>
  refine ⟨fun _=>?_,fun c=>absurd c (by decide)⟩
  refine ⟨by decide,by decide,_,rfl,fun c=>?_,fun c=>?_⟩
  ·have c:(a != 0)=true:=c
   have c:a≠0:=by simpa using c
   exact ⟨_,[],⟨by rw [if_neg c];rfl,rfl⟩,⟨rfl,trivial⟩,rfl⟩
  ·have c:(a != 0)=false:=c
   have c:a=0:=by simpa using c
   exact ⟨1,_,_,by omega,⟨1,rfl,by omega,fun _=>c,by omega,rfl,rfl⟩,⟨rfl,rfl,rfl,c_int rfl,trivial⟩,⟨rfl,trivial⟩,rfl⟩
 | 1 =>
  have h1:=h1 (by omega)
  refine ⟨fun _=>?_,fun c=>absurd c (by decide)⟩
  refine ⟨by decide,by decide,_,rfl,fun c=>?_,fun c=>?_⟩
  ·have c:(b != 0)=true:=c
   exact ⟨_,[],⟨by rw [if_pos h1];rfl,rfl⟩,⟨rfl,trivial⟩,rfl⟩
  ·have c:(b != 0)=false:=c
   have c:b=0:=by simpa using c
   exact ⟨0,_,_,by omega,⟨2,rfl,by omega,fun _=>h1,fun _=>c,rfl,rfl⟩,⟨rfl,rfl,rfl,c_int rfl,trivial⟩,⟨rfl,trivial⟩,rfl⟩
 | 2 =>
  have h1:=h1 (by omega)
  have h2:=h2 (by omega)
  refine ⟨fun c=>absurd c (by decide),fun _=>?_⟩
  exact ⟨_,[],⟨by rw [if_pos h1,h2];rfl,rfl⟩,⟨rfl,trivial⟩,rfl⟩
 | i+3=>omega
def KyA (k:Ky):Array Value:=#[.string (S k.1),.int .i64 k.2]
def cmpK (a b:Ky):Int:=if cmpB a.1 b.1=0 then cmpN a.2 b.2 else cmpB a.1 b.1
theorem cmpK_lt {a b:Ky}:cmpK a b < 0↔ltK2 a b=true:=by
 unfold cmpK ltK2
 by_cases h:a.1=b.1
 ·rw [if_pos (cmpB_zero.2 h),h,ltB_irr]
  simp [cmpN_lt]
 ·rw [if_neg (fun e=>h (cmpB_zero.1 e)),cmpB_lt]
  by_cases h1:ltB a.1 b.1=true
  ·simp [h1]
  ·by_cases h2:ltB b.1 a.1=true
   ·simp [h1,h2]
   ·exact absurd (ltB_tri _ _ (by simpa using h1) (by simpa using h2)) h
theorem earlier_z {E:Env} (hE:E.P=Tryz.prog) (a b:Ky):OwnC E 63 [SV.c (.agg (KyA a)),SV.c (.agg (KyA b))] [] (fun r U=>r=.int .i64 (cmpK a b)∧U=[]):=by
 refine sx_ownC [] tt_ok mixed at63 E hE [SV.c (.agg (KyA a)),SV.c (.agg (KyA b))] [] _ rfl rfl fun w X β hT=>?_
 have O1:=or_z (E:=(envC Tryz.prog tt Tryz.f63.ntmps w X (tiedK [] β)).toEnv) rfl (cmpB a.1 b.1) (cmpN a.2 b.2)
 refine ⟨rfl,rfl,_,rfl,_,rfl,.inl ⟨_,compareS_z _ _,?_⟩⟩
 refine ⟨_,rfl,_,rfl,.inl ⟨_,compareN_z _ _,.inl ⟨by decide,by decide,_,row_ints _ _,rfl,?_⟩⟩⟩
 refine .inr (.inr (.inl ⟨[(9400,15)],[_],[_],_,[_],O1,rfl,⟨rfl,trivial⟩,rfl,rfl,?_⟩))
 exact ⟨by kernel_rfl,[],[],⟨rfl,rfl⟩,trivial,rfl⟩
def sumA (x:Bs×Int):Array Value:=#[.string (S x.1),.int .i64 x.2]
def sumK (x:Ky×Int):Array Value:=#[.string (S x.1.1),.int .i64 x.1.2,.int .i64 x.2]
theorem sumA_size (x:Bs×Int):(sumA x).size=2:=rfl
theorem sumK_size (x:Ky×Int):(sumK x).size=3:=rfl
theorem sumA_fits (x:Bs×Int):Fits (sumA x) 2:=⟨rfl,by simp [sumA,Value.oneCell']⟩
theorem sumK_fits (x:Ky×Int):Fits (sumK x) 3:=⟨rfl,by simp [sumK,Value.oneCell']⟩
end Go.Proofs.YtofllflnmmjijaaGreatDoor
namespace Go.Proofs.YtofllflnmmjijaaGreatDoor
open Go Go.RowKit Go.SX
section
variable {κ:Type}
end
end Go.Proofs.YtofllflnmmjijaaGreatDoor
namespace Go.Proofs.YtofllflnmmjijaaGreatDoor
open Go Go.RowKit Go.SX
end Go.Proofs.YtofllflnmmjijaaGreatDoor
