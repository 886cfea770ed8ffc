/- texts and numbers compared. what is held: keys compared, cel; no condition. -/
import Derived.Lib.Bytealg
import Derived.Test.YtklehfchdoikeaaGreatDoorP23
set_option maxRecDepth 100000
set_option maxHeartbeats 4000000
namespace Go.Proofs.YtklehfchdoikeaaGreatDoor
open Go Go.RowKit Go.SX
def tC (a b:List UInt8):Int:=if ltB a b then -1 else if ltB b a then 1 else 0
theorem CJ:∀ (a b:List UInt8),Lib.compareBytes a b=tC a b
 | [],[]=>rfl
 | [],_ :: _=>rfl
 | _ :: _,[]=>rfl
 | a :: x,b :: y=>by
  rw [Lib.compareBytes,CJ x y]
  unfold tC
  rw [ltB,ltB]
  by_cases h1:a < b
  ·rw [if_pos h1,if_pos h1,if_pos rfl]
  ·rw [if_neg h1,if_neg h1]
   by_cases h2:b < a
   ·rw [if_pos h2,if_pos h2,if_neg (by decide),if_pos h2,if_pos rfl]
   ·rw [if_neg h2,if_neg h2,if_neg h2,if_neg h1]
theorem qf:∀ (a b:List UInt8),Op.bytesLess a b=ltB a b
 | [],[]=>rfl
 | [],_ :: _=>rfl
 | _ :: _,[]=>rfl
 | a :: x,b :: y=>by
  rw [Op.bytesLess,ltB,qf x y]
  by_cases h1:a < b
  ·simp [h1]
  ·by_cases h2:b < a
   ·have:(a == b)=false:=by
      rw [beq_eq_false_iff_ne]
      intro e;subst e;exact absurd h2 (UInt8.lt_irrefl a)
    simp [h1,h2,this]
   ·have:a=b:=UInt8.le_antisymm (UInt8.not_lt.1 h2) (UInt8.not_lt.1 h1)
    subst this
    simp [h1]
theorem KX {a b:List UInt8}:tC a b < 0↔ltB a b=true:=by
 unfold tC
 by_cases h:ltB a b=true
 ·simp [h]
 ·rw [if_neg h]
  by_cases h2:ltB b a=true
  ·simp [h,h2]
  ·simp [h,h2]
theorem u6 {a b:List UInt8}:tC a b=0↔a=b:=by
 unfold tC
 by_cases h:ltB a b=true
 ·rw [if_pos h]
  constructor
  ·intro e;cases e
  ·rintro rfl;rw [lI] at h;cases h
 ·rw [if_neg h]
  by_cases h2:ltB b a=true
  ·rw [if_pos h2]
   constructor
   ·intro e;cases e
   ·rintro rfl;rw [lI] at h2;cases h2
  ·rw [if_neg h2]
   exact ⟨fun _=>pO a b (by simpa using h) (by simpa using h2),fun _=>rfl⟩
theorem EN (a b:ByteArray) (w:World):Calls Tryz.prog 227 #[.string a,.string b] w fun e w'=>e=.returned (.int .i64 (Lib.compareBytes a.data.toList b.data.toList))/\w'=w:=by
 go_enter Tryz.func227,Tryz.ntmps227
 go_wp2
 rw [run_callFunc_extern Tryz.func273 (by kernel_rfl) (by kernel_rfl) (by kernel_rfl) (e:=Extern.BytealgCompare.compare) (by kernel_rfl),Lib.run_compareString]
 simp only [Result.andThen]
 rw [Oper.upon_value]
 go_wp2
 go_ret
 exact ⟨rfl,rfl⟩
theorem EM (a b:List UInt8):ay Tryz.prog 227 [SV.c (.string (S a)),SV.c (.string (S b))] (.int .i64 (tC a b)):=by
 refine ⟨QZ.enters,fun ρ w xs hx=>?_⟩
 match xs,hx with
 | [x,y],hx =>
  obtain ⟨h1,h2,_⟩:=hx
  cases (show x=.string (S a) from h1)
  cases (show y=.string (S b) from h2)
  refine (EN (S a) (S b) w).mono ?_
  rintro e w' ⟨rfl,rfl⟩
  exact ⟨by rw [CJ];rfl,Below.refl _ _⟩
theorem A7 (a b:List UInt8):ay Tryz.prog 174 [SV.c (.string (S a)),SV.c (.string (S b))] (.int .i64 (tC a b)):=by
 refine al ai ak RG _ _ rfl rfl fun w=>?_
 exact .inl ⟨_,EM a b,rfl,trivial⟩
theorem Ck (n:Int):ay Tryz.prog 228 [SV.c (.int .i64 n)] (.bool false):=by
 refine al ai ak QY _ _ rfl rfl fun w=>?_
 exact ⟨bv (by simp),trivial⟩
def y8 (a b:Int):Int:=if a < b then -1 else if b < a then 1 else 0
theorem A9 (a b:Int):ay Tryz.prog 175 [SV.c (.int .i64 a),SV.c (.int .i64 b)] (.int .i64 (y8 a b)):=by
 refine al ai ak RE _ _ rfl rfl fun w=>?_
 refine .inl ⟨_,Ck a,.inl ⟨_,Ck b,?_⟩⟩
 refine ⟨nofun,fun _=>⟨nofun,fun _=>⟨fun c=>?_,fun c=>⟨fun c2=>?_,fun c2=>?_⟩⟩⟩⟩
 ·have c:=af c
  exact ⟨by unfold y8;rw [if_pos c];rfl,trivial⟩
 ·have c:=ag c
  have c2:=af (show decide (a > b)=true from c2)
  exact ⟨by unfold y8;rw [if_neg c,if_pos (by omega)];rfl,trivial⟩
 ·have c:=ag c
  have c2:=ag (show decide (a > b)=false from c2)
  exact ⟨by unfold y8;rw [if_neg c,if_neg (by omega)];rfl,trivial⟩
theorem KW {a b:Int}:y8 a b < 0↔a < b:=by
 unfold y8
 split
 ·simp;assumption
 ·split<;>simp<;>omega
theorem Gh (a b:Int):Instr.fill (fun k=>some (k*ti3.size,ti3.size)) (madeCells ti3.zero (2*ti3.size)) [(0,.int .i64 a),(1,.int .i64 b)]=some #[.int .i64 a,.int .i64 b]:=by kernel_rfl
theorem TO {E:Env} (hE:E.P=Tryz.prog) (a b:Int):OwnC E 173 [SV.sl 9400 0 2 2] [(9400,Blk.row 3 2 #[.int .i64 a,.int .i64 b])] (fun r U=>r=.int .i64 (if a=0 then b else a)/\U=[(9400,Blk.row 3 2 #[.int .i64 a,.int .i64 b])]):=by
 refine aD [] ai ak RH E hE [SV.sl 9400 0 2 2] [(9400,Blk.row 3 2 #[.int .i64 a,.int .i64 b])] _ rfl rfl fun w X β hT=>?_
 refine ⟨fun q f m=>∃ (i:Nat),q=2 - i/\i<=2/\(1<=i->a=0)/\(2<=i->b=0)/\f=[(3,SV.c (.int .i64 0)),(6,SV.sl 9400 0 2 2),(7,SV.c (.int .i64 2)),(8,SV.c (.int .i64 (i:Nat)))]/\m=[(9400,Blk.row 3 2 #[.int .i64 a,.int .i64 b])],2,⟨_,_,⟨0,rfl,by omega,by omega,by omega,rfl,rfl⟩,⟨rfl,rfl,rfl,rfl,trivial⟩,⟨rfl,trivial⟩,rfl⟩,?_⟩
 rintro q f m ⟨i,rfl,hi,h1,h2,rfl,rfl⟩
 match i with
 | 0 =>
  refine ⟨fun _=>?_,fun c=>absurd c (by decide)⟩
  refine ⟨by decide,by decide,_,rfl,fun c=>?_,fun c=>?_⟩
  ·have c:(a != 0)=true:=c
   have c:a≠0:=by simpa using c
   exact ⟨_,[],⟨by rw [if_neg c];rfl,rfl⟩,⟨rfl,trivial⟩,rfl⟩
  ·have c:(a != 0)=false:=c
   have c:a=0:=by simpa using c
   exact ⟨1,_,_,by omega,⟨1,rfl,by omega,fun _=>c,by omega,rfl,rfl⟩,⟨rfl,rfl,rfl,ar rfl,trivial⟩,⟨rfl,trivial⟩,rfl⟩
 | 1 =>
  have h1:=h1 (by omega)
  refine ⟨fun _=>?_,fun c=>absurd c (by decide)⟩
  refine ⟨by decide,by decide,_,rfl,fun c=>?_,fun c=>?_⟩
  ·have c:(b != 0)=true:=c
   exact ⟨_,[],⟨by rw [if_pos h1];rfl,rfl⟩,⟨rfl,trivial⟩,rfl⟩
  ·have c:(b != 0)=false:=c
   have c:b=0:=by simpa using c
   exact ⟨0,_,_,by omega,⟨2,rfl,by omega,fun _=>h1,fun _=>c,rfl,rfl⟩,⟨rfl,rfl,rfl,ar rfl,trivial⟩,⟨rfl,trivial⟩,rfl⟩
 | 2 =>
  have h1:=h1 (by omega)
  have h2:=h2 (by omega)
  refine ⟨fun c=>absurd c (by decide),fun _=>?_⟩
  exact ⟨_,[],⟨by rw [if_pos h1,h2];rfl,rfl⟩,⟨rfl,trivial⟩,rfl⟩
 | i+3=>omega
def KyA (k:Ky):Array Value:=#[.string (S k.1),.int .i64 k.2]
def Ir (a b:Ky):Int:=if tC a.1 b.1=0 then y8 a.2 b.2 else tC a.1 b.1
theorem CE {a b:Ky}:Ir a b < 0↔kU a b=true:=by
 unfold Ir kU
 by_cases h:a.1=b.1
 ·rw [if_pos (u6.2 h),h,lI]
  simp [KW]
 ·rw [if_neg (fun e=>h (u6.1 e)),KX]
  by_cases h1:ltB a.1 b.1=true
  ·simp [h1]
  ·by_cases h2:ltB b.1 a.1=true
   ·simp [h1,h2]
   ·exact absurd (pO _ _ (by simpa using h1) (by simpa using h2)) h
theorem Er {E:Env} (hE:E.P=Tryz.prog) (a b:Ky):OwnC E 112 [SV.c (.agg (KyA a)),SV.c (.agg (KyA b))] [] (fun r U=>r=.int .i64 (Ir a b)/\U=[]):=by
 refine aD [] ai ak SI E hE [SV.c (.agg (KyA a)),SV.c (.agg (KyA b))] [] _ rfl rfl fun w X β hT=>?_
 have O1:=TO (E:=(aY Tryz.prog tt Tryz.f112.ntmps w X (aJ [] β)).toEnv) rfl (tC a.1 b.1) (y8 a.2 b.2)
 refine ⟨rfl,rfl,_,rfl,_,rfl,.inl ⟨_,A7 _ _,?_⟩⟩
 refine ⟨_,rfl,_,rfl,.inl ⟨_,A9 _ _,.inl ⟨by decide,by decide,_,Gh _ _,rfl,?_⟩⟩⟩
 refine .inr (.inr (.inl ⟨[(9400,15)],[_],[_],_,[_],O1,rfl,⟨rfl,trivial⟩,rfl,rfl,?_⟩))
 exact ⟨by kernel_rfl,[],[],⟨rfl,rfl⟩,trivial,rfl⟩
def dI (x:Bs×Int):Array Value:=#[.string (S x.1),.int .i64 x.2]
def cj (x:Ky×Int):Array Value:=#[.string (S x.1.1),.int .i64 x.1.2,.int .i64 x.2]
theorem lu (x:Bs×Int):(dI x).size=2:=rfl
theorem cH (x:Ky×Int):(cj x).size=3:=rfl
theorem qt (x:Bs×Int):Fits (dI x) 2:=⟨rfl,by simp [dI,Value.oneCell']⟩
theorem um (x:Ky×Int):Fits (cj x) 3:=⟨rfl,by simp [cj,Value.oneCell']⟩
end Go.Proofs.YtklehfchdoikeaaGreatDoor
namespace Go.Proofs.YtklehfchdoikeaaGreatDoor
open Go Go.RowKit Go.SX
section
variable {κ:Type}
end
end Go.Proofs.YtklehfchdoikeaaGreatDoor
namespace Go.Proofs.YtklehfchdoikeaaGreatDoor
open Go Go.RowKit Go.SX
end Go.Proofs.YtklehfchdoikeaaGreatDoor
