/- texts and numbers compared. what is held: keys compared, cells. where a key stands among texts. where a key stands among balances; no condition. -/
import Derived.Lib.Bytealg
import Derived.Test.YtkaakbpeegpnkaaGreatDoorP23
set_option maxRecDepth 100000
set_option maxHeartbeats 4000000
namespace Go.Proofs.YtkaakbpeegpnkaaGreatDoor
open Go Go.RowKit Go.SX
def cmpB (a b:List UInt8):Int:=if ltB a b then -1 else if ltB b a then 1 else 0
theorem cmpB_eq:∀ (a b:List UInt8),Lib.compareBytes a b=cmpB a b
 | [],[]=>rfl
 | [],_ :: _=>rfl
 | _ :: _,[]=>rfl
 | a :: x,b :: y=>by
  rw [Lib.compareBytes,cmpB_eq x y]
  unfold cmpB
  rw [ltB,ltB]
  by_cases h1:a < b
  ·rw [if_pos h1,if_pos h1,if_pos rfl]
  ·rw [if_neg h1,if_neg h1]
   by_cases h2:b < a
   ·rw [if_pos h2,if_pos h2,if_neg (by decide),if_pos h2,if_pos rfl]
   ·rw [if_neg h2,if_neg h2,if_neg h2,if_neg h1]
theorem bytesLess_eq:∀ (a b:List UInt8),Op.bytesLess a b=ltB a b
 | [],[]=>rfl
 | [],_ :: _=>rfl
 | _ :: _,[]=>rfl
 | a :: x,b :: y=>by
  rw [Op.bytesLess,ltB,bytesLess_eq x y]
  by_cases h1:a < b
  ·simp [h1]
  ·by_cases h2:b < a
   ·have:(a == b)=false:=by
      rw [beq_eq_false_iff_ne]
      intro e;subst e;exact absurd h2 (UInt8.lt_irrefl a)
    simp [h1,h2,this]
   ·have:a=b:=UInt8.le_antisymm (UInt8.not_lt.1 h2) (UInt8.not_lt.1 h1)
    subst this
    simp [h1]
theorem cmpB_lt {a b:List UInt8}:cmpB a b < 0↔ltB a b=true:=by
 unfold cmpB
 by_cases h:ltB a b=true
 ·simp [h]
 ·rw [if_neg h]
  by_cases h2:ltB b a=true
  ·simp [h,h2]
  ·simp [h,h2]
theorem cmpB_zero {a b:List UInt8}:cmpB a b=0↔a=b:=by
 unfold cmpB
 by_cases h:ltB a b=true
 ·rw [if_pos h]
  constructor
  ·intro e;cases e
  ·rintro rfl;rw [ltB_irr] at h;cases h
 ·rw [if_neg h]
  by_cases h2:ltB b a=true
  ·rw [if_pos h2]
   constructor
   ·intro e;cases e
   ·rintro rfl;rw [ltB_irr] at h2;cases h2
  ·rw [if_neg h2]
   exact ⟨fun _=>ltB_tri a b (by simpa using h) (by simpa using h2),fun _=>rfl⟩
theorem bytealg_c (a b:ByteArray) (w:World):Calls Tryz.prog 60 #[.string a,.string b] w fun e w'=>e=.returned (.int .i64 (Lib.compareBytes a.data.toList b.data.toList))∧w'=w:=by
 go_enter Tryz.func60,Tryz.ntmps60
 go_wp2
 rw [run_callFunc_extern Tryz.func91 (by kernel_rfl) (by kernel_rfl) (by kernel_rfl) (e:=Extern.BytealgCompare.compare) (by kernel_rfl),Lib.run_compareString]
 simp only [Result.andThen]
 rw [Oper.upon_value]
 go_wp2
 go_ret
 exact ⟨rfl,rfl⟩
theorem bytealg_z (a b:List UInt8):Pure Tryz.prog 60 [SV.c (.string (S a)),SV.c (.string (S b))] (.int .i64 (cmpB a b)):=by
 refine ⟨at60.enters,fun ρ w xs hx=>?_⟩
 match xs,hx with
 | [x,y],hx =>
  obtain ⟨h1,h2,_⟩:=hx
  cases (show x=.string (S a) from h1)
  cases (show y=.string (S b) from h2)
  refine (bytealg_c (S a) (S b) w).mono ?_
  rintro e w' ⟨rfl,rfl⟩
  exact ⟨by rw [cmpB_eq];rfl,Below.refl _ _⟩
theorem compareS_z (a b:List UInt8):Pure Tryz.prog 28 [SV.c (.string (S a)),SV.c (.string (S b))] (.int .i64 (cmpB a b)):=by
 refine sx_pure tt_ok mixed at28 _ _ rfl rfl fun w=>?_
 exact .inl ⟨_,bytealg_z a b,rfl,trivial⟩
theorem isNaN_z (n:Int):Pure Tryz.prog 92 [SV.c (.int .i64 n)] (.bool false):=by
 refine sx_pure tt_ok mixed at92 _ _ rfl rfl fun w=>?_
 exact ⟨bv (by simp),trivial⟩
def cmpN (a b:Int):Int:=if a < b then -1 else if b < a then 1 else 0
theorem compareN_z (a b:Int):Pure Tryz.prog 62 [SV.c (.int .i64 a),SV.c (.int .i64 b)] (.int .i64 (cmpN a b)):=by
 refine sx_pure tt_ok mixed at62 _ _ rfl rfl fun w=>?_
 refine .inl ⟨_,isNaN_z a,.inl ⟨_,isNaN_z b,?_⟩⟩
 refine ⟨nofun,fun _=>⟨nofun,fun _=>⟨fun c=>?_,fun c=>⟨fun c2=>?_,fun c2=>?_⟩⟩⟩⟩
 ·have c:=of_decide_eq_true c
  exact ⟨by unfold cmpN;rw [if_pos c];rfl,trivial⟩
 ·have c:=of_decide_eq_false c
  have c2:=of_decide_eq_true (show decide (a > b)=true from c2)
  exact ⟨by unfold cmpN;rw [if_neg c,if_pos (by omega)];rfl,trivial⟩
 ·have c:=of_decide_eq_false c
  have c2:=of_decide_eq_false (show decide (a > b)=false from c2)
  exact ⟨by unfold cmpN;rw [if_neg c,if_neg (by omega)];rfl,trivial⟩
theorem cmpN_lt {a b:Int}:cmpN a b < 0↔a < b:=by
 unfold cmpN
 split
 ·simp;assumption
 ·split<;>simp<;>omega
theorem cmpN_zero {a b:Int}:cmpN a b=0↔a=b:=by
 unfold cmpN
 split
 ·simp;omega
 ·split<;>simp<;>omega
theorem row_ints (a b:Int):Instr.fill (fun k=>some (k*ti3.size,ti3.size)) (madeCells ti3.zero (2*ti3.size)) [(0,.int .i64 a),(1,.int .i64 b)]=some #[.int .i64 a,.int .i64 b]:=by kernel_rfl
theorem or_z {E:Env} (hE:E.P=Tryz.prog) (a b:Int):OwnC E 61 [SV.sl 9400 0 2 2] [(9400,Blk.row 3 2 #[.int .i64 a,.int .i64 b])] (fun r U=>r=.int .i64 (if a=0 then b else a)∧U=[(9400,Blk.row 3 2 #[.int .i64 a,.int .i64 b])]):=by
 refine sx_ownC [] tt_ok mixed at61 E hE [SV.sl 9400 0 2 2] [(9400,Blk.row 3 2 #[.int .i64 a,.int .i64 b])] _ rfl rfl fun w X β hT=>?_
 refine ⟨fun q f m=>∃ (i:Nat),q=2 - i∧i≤2∧(1≤i→a=0)∧(2≤i→b=0)∧f=[(3,SV.c (.int .i64 0)),(6,SV.sl 9400 0 2 2),(7,SV.c (.int .i64 2)),(8,SV.c (.int .i64 (i:Nat)))]∧m=[(9400,Blk.row 3 2 #[.int .i64 a,.int .i64 b])],2,⟨_,_,⟨0,rfl,by omega,by omega,by omega,rfl,rfl⟩,⟨rfl,rfl,rfl,rfl,trivial⟩,⟨rfl,trivial⟩,rfl⟩,?_⟩
 rintro q f m ⟨i,rfl,hi,h1,h2,rfl,rfl⟩
 match i with
 | 0 =>
  refine ⟨fun _=>?_,fun c=>absurd c (by decide)⟩
  refine ⟨by decide,by decide,_,rfl,fun c=>?_,fun c=>?_⟩
  ·have c:(a != 0)=true:=c
   have c:a≠0:=by simpa using c
   exact ⟨_,[],⟨by rw [if_neg c];rfl,rfl⟩,⟨rfl,trivial⟩,rfl⟩
  ·have c:(a != 0)=false:=c
   have c:a=0:=by simpa using c
   exact ⟨1,_,_,by omega,⟨1,rfl,by omega,fun _=>c,by omega,rfl,rfl⟩,⟨rfl,rfl,rfl,c_int rfl,trivial⟩,⟨rfl,trivial⟩,rfl⟩
 | 1 =>
  have h1:=h1 (by omega)
  refine ⟨fun _=>?_,fun c=>absurd c (by decide)⟩
  refine ⟨by decide,by decide,_,rfl,fun c=>?_,fun c=>?_⟩
  ·have c:(b != 0)=true:=c
   exact ⟨_,[],⟨by rw [if_pos h1];rfl,rfl⟩,⟨rfl,trivial⟩,rfl⟩
  ·have c:(b != 0)=false:=c
   have c:b=0:=by simpa using c
   exact ⟨0,_,_,by omega,⟨2,rfl,by omega,fun _=>h1,fun _=>c,rfl,rfl⟩,⟨rfl,rfl,rfl,c_int rfl,trivial⟩,⟨rfl,trivial⟩,rfl⟩
 | 2 =>
  have h1:=h1 (by omega)
  have h2:=h2 (by omega)
  refine ⟨fun c=>absurd c (by decide),fun _=>?_⟩
  exact ⟨_,[],⟨by rw [if_pos h1,h2];rfl,rfl⟩,⟨rfl,trivial⟩,rfl⟩
 | i+3=>omega
def KyA (k:Ky):Array Value:=#[.string (S k.1),.int .i64 k.2]
def cmpK (a b:Ky):Int:=if cmpB a.1 b.1=0 then cmpN a.2 b.2 else cmpB a.1 b.1
theorem cmpK_lt {a b:Ky}:cmpK a b < 0↔ltK2 a b=true:=by
 unfold cmpK ltK2
 by_cases h:a.1=b.1
 ·rw [if_pos (cmpB_zero.2 h),h,ltB_irr]
  simp [cmpN_lt]
 ·rw [if_neg (fun e=>h (cmpB_zero.1 e)),cmpB_lt]
  by_cases h1:ltB a.1 b.1=true
  ·simp [h1]
  ·by_cases h2:ltB b.1 a.1=true
   ·simp [h1,h2]
   ·exact absurd (ltB_tri _ _ (by simpa using h1) (by simpa using h2)) h
theorem cmpK_zero {a b:Ky}:cmpK a b=0↔a=b:=by
 unfold cmpK
 by_cases h:a.1=b.1
 ·rw [if_pos (cmpB_zero.2 h),cmpN_zero]
  constructor
  ·intro e;exact Prod.ext h e
  ·intro e;rw [e]
 ·rw [if_neg (fun e=>h (cmpB_zero.1 e)),cmpB_zero]
  constructor
  ·intro e;exact absurd e h
  ·intro e;rw [e] at h;exact absurd rfl h
theorem earlier_z {E:Env} (hE:E.P=Tryz.prog) (a b:Ky):OwnC E 29 [SV.c (.agg (KyA a)),SV.c (.agg (KyA b))] [] (fun r U=>r=.int .i64 (cmpK a b)∧U=[]):=by
 refine sx_ownC [] tt_ok mixed at29 E hE [SV.c (.agg (KyA a)),SV.c (.agg (KyA b))] [] _ rfl rfl fun w X β hT=>?_
 have O1:=or_z (E:=(envC Tryz.prog tt Tryz.f29.ntmps w X (tiedK [] β)).toEnv) rfl (cmpB a.1 b.1) (cmpN a.2 b.2)
 refine ⟨rfl,rfl,_,rfl,_,rfl,.inl ⟨_,compareS_z _ _,?_⟩⟩
 refine ⟨_,rfl,_,rfl,.inl ⟨_,compareN_z _ _,.inl ⟨by decide,by decide,_,row_ints _ _,rfl,?_⟩⟩⟩
 refine .inr (.inr (.inl ⟨[(9400,15)],[_],[_],_,[_],O1,rfl,⟨rfl,trivial⟩,rfl,rfl,?_⟩))
 exact ⟨by kernel_rfl,[],[],⟨rfl,rfl⟩,trivial,rfl⟩
def LdA (vh vc vp:Value) (day:Int):Array Value:=#[fnW 28,vh,fnW 29,vc,fnW 29,vp,.int .i64 day]
def sumA (x:Bs×Int):Array Value:=#[.string (S x.1),.int .i64 x.2]
def sumK (x:Ky×Int):Array Value:=#[.string (S x.1.1),.int .i64 x.1.2,.int .i64 x.2]
theorem sumA_size (x:Bs×Int):(sumA x).size=2:=rfl
theorem sumK_size (x:Ky×Int):(sumK x).size=3:=rfl
theorem sumA_fits (x:Bs×Int):Fits (sumA x) 2:=⟨rfl,by simp [sumA,Value.oneCell']⟩
theorem sumK_fits (x:Ky×Int):Fits (sumK x) 3:=⟨rfl,by simp [sumK,Value.oneCell']⟩
end Go.Proofs.YtkaakbpeegpnkaaGreatDoor
namespace Go.Proofs.YtkaakbpeegpnkaaGreatDoor
open Go Go.RowKit Go.SX
def LedAt (E:Env) (g:Nat) (vh vc vp:Value) (day:Int):Prop:=∀ w,OldW E w→w.heap[g]? = some (.cells (LdA vh vc vp day) 73 (0,0))
theorem LedAt.of_old {E E0:Env} {g:Nat} {vh vc vp:Value} {day:Int} (h:LedAt E g vh vc vp day) (ho:∀ w,OldW E0 w→OldW E w):LedAt E0 g vh vc vp day:=fun w hw=>h w (ho w hw)
section
variable {κ:Type}
def posA (lt:κ→κ→Bool) (l:List (κ×Int)) (k:κ):Nat:=(l.takeWhile fun x=>lt x.1 k).length
def hasA [DecidableEq κ] (l:List (κ×Int)) (k:κ):Bool:=l.any fun x=>decide (x.1=k)
theorem posA_at {lt:κ→κ→Bool} {k:κ}:∀ {p s:List (κ×Int)},(∀ x∈p,lt x.1 k=true)→(∀ x∈s,lt x.1 k=false)→posA lt (p++s) k=p.length
 | [],[],_,_=>rfl
 | [],y :: s,_,h2=>by unfold posA;rw [List.nil_append,List.takeWhile_cons,h2 y (by simp)];rfl
 | x :: p,s,h1,h2=>by
  have ih:=posA_at (p:=p) (s:=s) (fun z hz=>h1 z (by simp [hz])) h2
  unfold posA at ih ⊢
  rw [List.cons_append,List.takeWhile_cons,h1 x (by simp),if_pos rfl,List.length_cons,ih,List.length_cons]
theorem hasA_at [DecidableEq κ] {lt:κ→κ→Bool} (O:StrictO lt) {k:κ} {p s:List (κ×Int)} (hs:SrtA lt (p++s)) (h1:∀ x∈p,lt x.1 k=true) (h2:∀ x∈s,lt x.1 k=false):hasA (p++s) k=match s with
    | []=>false
    | y :: _=>decide (y.1=k):=by
 unfold hasA
 rw [List.any_append]
 have e1:(p.any fun x=>decide (x.1=k))=false:=by
  rw [List.any_eq_false]
  intro x hx
  simpa using O.ne (h1 x hx)
 rw [e1,Bool.false_or]
 cases s with
 | nil=>rfl
 | cons y s =>
  rw [List.any_cons]
  have e2:(s.any fun x=>decide (x.1=k))=false:=by
   rw [List.any_eq_false]
   intro x hx
   unfold SrtA at hs
   rw [List.pairwise_append,List.pairwise_cons] at hs
   have hyx:=hs.2.1.1 x hx
   have:x.1≠k:=by
    intro e
    rw [e] at hyx
    have:=h2 y (by simp)
    rw [hyx] at this;cases this
   simpa using this
  rw [e2,Bool.or_false]
end
theorem place1_s {E:Env} (hE:E.P=Tryz.prog) {g:Nat} {vh vc vp:Value} {day:Int} (hl:LedAt E g vh vc vp day) (x:Bs×Int) (k:Bs):OwnC E 133 [SV.c (.agg (sumA x)),SV.c (.string (S k)),SV.ptr 9502 0] [(9502,Blk.row 143 1 #[.pointer (some ⟨g,0,none⟩)])] (fun r U=>r=.int .i64 (cmpB x.1 k)∧U=[(9502,Blk.row 143 1 #[.pointer (some ⟨g,0,none⟩)])]):=by
 refine sx_ownC [] tt_ok mixed at133 E hE [SV.c (.agg (sumA x)),SV.c (.string (S k)),SV.ptr 9502 0] [(9502,Blk.row 143 1 #[.pointer (some ⟨g,0,none⟩)])] _ rfl rfl fun w X β hT=>?_
 have hl':=hl.of_old hT
 have hE':VOk (envC Tryz.prog tt Tryz.f133.ntmps w X (tiedK [(9502,Blk.row 143 1 #[.pointer (some ⟨g,0,none⟩)])] β)):=tt_ok
 have R1:=run_rowcell hE' hl' (ty:=64) (i:=ti64) (off:=0) (v:=fnW 28) rfl rfl rfl
 exact ⟨rfl,_,rfl,.inl ⟨_,R1,_,rfl,.inl ⟨_,compareS_z _ _,by kernel_rfl,_,[],⟨rfl,rfl⟩,⟨rfl,trivial⟩,rfl⟩⟩⟩
theorem bs_s {E:Env} (hE:E.P=Tryz.prog) {g:Nat} {vh vc vp:Value} {day:Int} (hl:LedAt E g vh vc vp day) {v:Value} {H:List (Bs×Int)} (hv:Lst E v 2 H.length (cat sumA H)) (hn:H.length≤1000000000000) (hs:SrtA ltB H) (k:Bs):OwnC E 132 [SV.c v,SV.c (.string (S k)),SV.clo 133 [9502]] [(9502,Blk.row 143 1 #[.pointer (some ⟨g,0,none⟩)])] (fun r U=>r=.tuple #[.int .i64 (posA ltB H k:Nat),.bool (hasA H k)]∧U=[(9502,Blk.row 143 1 #[.pointer (some ⟨g,0,none⟩)])]):=by
 refine sx_ownC [] tt_ok mixed at132 E hE [SV.c v,SV.c (.string (S k)),SV.clo 133 [9502]] [(9502,Blk.row 143 1 #[.pointer (some ⟨g,0,none⟩)])] _ rfl rfl fun w X β hT=>?_
 have hl':=hl.of_old hT
 have hE':VOk (envC Tryz.prog tt Tryz.f132.ntmps w X (tiedK [(9502,Blk.row 143 1 #[.pointer (some ⟨g,0,none⟩)])] β)):=tt_ok
 have PL:=fun x=>place1_s (E:=(envC Tryz.prog tt Tryz.f132.ntmps w X (tiedK [(9502,Blk.row 143 1 #[.pointer (some ⟨g,0,none⟩)])] β)).toEnv) rfl hl' x k
 obtain ⟨a,cap,rfl,hc,h4⟩:=(hv.of_old hT).shape
 refine ⟨_,fun w' _=>run_len_sl Tryz.underlying65 w',?_⟩
 refine ⟨fun q f m=>∃ (P Q R:List (Bs×Int)),q=Q.length∧H=P++(Q++R)∧(∀ x∈P,ltB x.1 k=true)∧(∀ x∈R,ltB x.1 k=false)∧f=[(0,SV.c (.slice a H.length cap)),(1,SV.c (.string (S k))),(2,SV.clo 133 [9502]),(8,SV.c (.int .i64 (H.length:Nat))),(9,SV.c (.int .i64 (P.length:Nat))),(10,SV.c (.int .i64 ((P.length+Q.length:Nat):Int)))]∧m=[(9502,Blk.row 143 1 #[.pointer (some ⟨g,0,none⟩)])],H.length,⟨_,_,⟨[],H,[],rfl,by simp,by simp,by simp,rfl,rfl⟩,⟨rfl,rfl,rfl,rfl,rfl,c_int (by simp),trivial⟩,⟨rfl,trivial⟩,rfl⟩,?_⟩
 rintro q f m ⟨P,Q,R,rfl,hH,h1,h2,rfl,rfl⟩
 have hlH:=congrArg List.length hH
 simp only [List.length_append] at hlH
 refine ⟨fun c=>?_,fun c=>?_⟩
 ·have c:0 < Q.length:=by have:=of_decide_eq_true c;omega
  have hk:Q.length / 2 < Q.length:=by omega
  obtain ⟨z,hz⟩:∃ z,Q[Q.length / 2]? = some z:=⟨_,List.getElem?_eq_getElem hk⟩
  have hQ:Q=Q.take (Q.length / 2)++z :: Q.drop (Q.length / 2+1):=by rw [← drop_at hz,List.take_append_drop]
  have hlt:(Q.take (Q.length / 2)).length=Q.length / 2:=by rw [List.length_take];omega
  have hld:(Q.drop (Q.length / 2+1)).length=Q.length - (Q.length / 2+1):=List.length_drop
  generalize Q.take (Q.length / 2)=C1 at *
  generalize Q.drop (Q.length / 2+1)=C2 at *
  have ew:IntKind.i64.wrap ((IntKind.u64.wrap (IntKind.i64.wrap (((P.length:Nat):Int)+((P.length+Q.length:Nat):Int)))).fdiv (2 ^ min (1:Int).toNat IntKind.u64.bits))=((P.length+Q.length / 2:Nat):Int):=by
   rw [half_ij (by omega)];congr 1;omega
  have gz:H[P.length+Q.length / 2]? = some z:=by rw [hH,List.getElem?_append_right (by omega),Nat.add_sub_cancel_left,List.getElem?_append_left hk];exact hz
  obtain ⟨b,o,rfl,h5⟩:=h4 (by omega)
  have L1:=lst_elem hE' h5 sumA_size gz (ty:=120) (ti:=ti120) rfl rfl rfl (p:=o+(((P.length+Q.length / 2:Nat):Int)).toNat*2) rfl
  have hs':=hs
  rw [hH,hQ] at hs'
  unfold SrtA at hs'
  simp only [List.pairwise_append,List.pairwise_cons] at hs'
  refine ⟨by decide,by rw [ew];omega,by rw [ew];omega,.inl ⟨_,(by rw [ew];exact L1),?_⟩⟩
  refine .inr (.inr (.inl ⟨[],[_,_,_],[_],_,[_],PL z,rfl,⟨rfl,trivial⟩,rfl,rfl,fun c1=>?_,fun c1=>?_⟩))
  ·have c1:decide (cmpB z.1 k < 0)=true:=c1
   have c1:=cmpB_lt.1 (of_decide_eq_true c1)
   refine ⟨C2.length,_,_,by omega,⟨P++C1++[z],C2,R,rfl,by rw [hH,hQ];simp,?_,h2,rfl,rfl⟩,⟨rfl,rfl,rfl,rfl,c_int (by rw [ew,i64_in (by omega)];simp only [List.length_append,List.length_cons,List.length_nil,hlt];omega),c_int (by simp only [List.length_append,List.length_cons,List.length_nil,hlt];omega),trivial⟩,⟨rfl,trivial⟩,rfl⟩
   intro u hu
   simp only [List.mem_append,List.mem_singleton] at hu
   rcases hu with (hu | hu) | rfl
   ·exact h1 u hu
   ·exact ltB_tr _ _ _ (hs'.2.1.1.2.2 u hu z (by simp)) c1
   ·exact c1
  ·have c1:decide (cmpB z.1 k < 0)=false:=c1
   have c1:ltB z.1 k=false:=by
    have:=of_decide_eq_false c1
    rw [cmpB_lt] at this
    simpa using this
   refine ⟨C1.length,_,_,by omega,⟨P,C1,z :: (C2++R),rfl,by rw [hH,hQ];simp,h1,?_,rfl,rfl⟩,⟨rfl,rfl,rfl,rfl,rfl,c_int (by rw [ew,hlt]),trivial⟩,⟨rfl,trivial⟩,rfl⟩
   intro u hu
   simp only [List.mem_cons,List.mem_append] at hu
   rcases hu with rfl | hu | hu
   ·exact c1
   ·cases e:ltB u.1 k with
    | false=>rfl
    | true=>rw [ltB_tr _ _ _ (hs'.2.1.1.2.1.1 u hu) e] at c1;cases c1
   ·exact h2 u hu
 ·have c:Q=[]:=List.eq_nil_of_length_eq_zero (by have:=of_decide_eq_false c;omega)
  subst c
  rw [List.nil_append] at hH
  simp only [List.length_nil] at hlH
  have e1:posA ltB H k=P.length:=by rw [hH];exact posA_at h1 h2
  have hs2:=hs
  rw [hH] at hs2
  have e2:hasA H k=_:=(congrArg (fun l=>hasA l k) hH).trans (hasA_at (k:=k) ltB_ok hs2 h1 h2)
  refine ⟨fun c1=>?_,fun c1=>?_⟩
  ·have c1:=of_decide_eq_true c1
   cases R with
   | nil=>simp at hlH;omega
   | cons y R =>
    have gy:H[P.length]? = some y:=by rw [hH];exact at_mid _ _ _
    obtain ⟨b,o,rfl,h5⟩:=h4 (by omega)
    have L1:=lst_elem hE' h5 sumA_size gy (ty:=120) (ti:=ti120) rfl rfl rfl (p:=o+(((P.length:Nat):Int)).toNat*2) rfl
    refine ⟨by omega,by omega,.inl ⟨_,L1,?_⟩⟩
    refine .inr (.inr (.inl ⟨[],[_,_,_],[_],_,[_],PL y,rfl,⟨rfl,trivial⟩,rfl,rfl,?_⟩))
    have e3:(cmpB y.1 k == 0)=decide (y.1=k):=by
     by_cases e:y.1=k
     ·rw [decide_eq_true e,cmpB_zero.2 e];rfl
     ·rw [decide_eq_false e,beq_eq_false_iff_ne];exact fun h=>e (cmpB_zero.1 h)
    exact ⟨_,[],⟨by rw [e1,e2,e3];rfl,rfl⟩,⟨rfl,trivial⟩,rfl⟩
  ·have c1:=of_decide_eq_false c1
   have:R=[]:=List.eq_nil_of_length_eq_zero (by omega)
   subst this
   exact ⟨_,[],⟨by rw [e1,e2];rfl,rfl⟩,⟨rfl,trivial⟩,rfl⟩
theorem place_r {E:Env} (hE:E.P=Tryz.prog) {g:Nat} {vh vc vp:Value} {day:Int} (hl:LedAt E g vh vc vp day) {H:List (Bs×Int)} (hv:Lst E vh 2 H.length (cat sumA H)) (hn:H.length≤1000000000000) (hs:SrtA ltB H) (k:Bs):OwnC E 93 [SV.c (.pointer (some ⟨g,0,none⟩)),SV.c (.string (S k))] [] (fun r U=>r=.tuple #[.int .i64 (posA ltB H k:Nat),.bool (hasA H k)]∧U=[]):=by
 refine sx_ownC [] tt_ok mixed at93 E hE [SV.c (.pointer (some ⟨g,0,none⟩)),SV.c (.string (S k))] [] _ rfl rfl fun w X β hT=>?_
 have hl':=hl.of_old hT
 have hE':VOk (envC Tryz.prog tt Tryz.f93.ntmps w X (tiedK [] β)):=tt_ok
 have BS:=bs_s (E:=(envC Tryz.prog tt Tryz.f93.ntmps w X (tiedK [] β)).toEnv) rfl hl' (hv.of_old hT) hn hs k
 have R1:=run_rowcell hE' hl' (ty:=65) (i:=ti65) (off:=1) (v:=vh) rfl rfl rfl
 refine ⟨rfl,_,rfl,.inl ⟨_,R1,.inr (.inr (.inl ⟨[(9502,2)],[_,_,_],[_],_,[_],BS,rfl,⟨rfl,trivial⟩,rfl,rfl,?_⟩))⟩⟩
 exact ⟨[],[],⟨rfl,rfl⟩,trivial,rfl⟩
theorem place_o {E:Env} (hE:E.P=Tryz.prog) {vh vc vp:Value} {day:Int} {H:List (Bs×Int)} {n:Nat} (hn:n=H.length) (hn2:H.length≤1000000000000) (hs:SrtA ltB H) (k:Bs):OwnC E 93 [SV.ptr 9500 0,SV.c (.string (S k))] [(9501,Blk.own vh 120 2 n (cat sumA H)),(9500,Blk.row 73 7 (LdA vh vc vp day))] (fun r U=>r=.tuple #[.int .i64 (posA ltB H k:Nat),.bool (hasA H k)]∧U=[(9501,Blk.own vh 120 2 n (cat sumA H)),(9500,Blk.row 73 7 (LdA vh vc vp day))]):=by
 subst hn
 refine (OwnC.with_own2 (k:=9501) (v:=vh) (e:=120) (sz:=2) (n:=H.length) (A:=cat sumA H) (pre:=[(9500,Blk.row 73 7 (LdA vh vc vp day))]) (Q:=fun x U=>x=.tuple #[.int .i64 (posA ltB H k:Nat),.bool (hasA H k)]∧U=[(9500,Blk.row 73 7 (LdA vh vc vp day))]) rfl rfl (Go.SX.cat_all (fun x=>(sumA_fits x).one) H) (by rw [hE];exact at93.enters) (fun E0 h0 ho hl=>?_) (fun x U h=>by rw [h.2];rfl)).mono ?_
 ·refine OwnC.with_row (Q:=fun x=>x=.tuple #[.int .i64 (posA ltB H k:Nat),.bool (hasA H k)]) rfl (by rw [h0,hE];exact at93.enters) fun E1 g h1 ho1 hrow=>?_
  exact place_r (h1.trans (h0.trans hE)) (vh:=vh) (vc:=vc) (vp:=vp) (day:=day) hrow (hl.of_old ho1) hn2 hs k
 ·rintro r U ⟨U0,⟨h1,rfl⟩,rfl⟩
  exact ⟨h1,rfl⟩
end Go.Proofs.YtkaakbpeegpnkaaGreatDoor
namespace Go.Proofs.YtkaakbpeegpnkaaGreatDoor
open Go Go.RowKit Go.SX
theorem place1_m {E:Env} (hE:E.P=Tryz.prog) {g:Nat} {vh vc vp:Value} {day:Int} {off:Nat} (hcm:(LdA vh vc vp day)[off+0]? = some (fnW 29)) (hl:LedAt E g vh vc vp day) (x:Ky×Int) (k:Ky):OwnC E 148 [SV.c (.agg (sumK x)),SV.c (.agg (KyA k)),SV.ptr 9502 0] [(9502,Blk.row 159 1 #[.pointer (some ⟨g,off,none⟩)])] (fun r U=>r=.int .i64 (cmpK x.1 k)∧U=[(9502,Blk.row 159 1 #[.pointer (some ⟨g,off,none⟩)])]):=by
 refine sx_ownC [] tt_ok mixed at148 E hE [SV.c (.agg (sumK x)),SV.c (.agg (KyA k)),SV.ptr 9502 0] [(9502,Blk.row 159 1 #[.pointer (some ⟨g,off,none⟩)])] _ rfl rfl fun w X β hT=>?_
 have hl':=hl.of_old hT
 have hE':VOk (envC Tryz.prog tt Tryz.f148.ntmps w X (tiedK [(9502,Blk.row 159 1 #[.pointer (some ⟨g,off,none⟩)])] β)):=tt_ok
 have R1:=run_rowcell hE' hl' (ty:=68) (i:=ti68) (off:=off+0) (v:=fnW 29) rfl rfl hcm
 have EZ:=earlier_z (E:=(envC Tryz.prog tt Tryz.f148.ntmps w X (tiedK [(9502,Blk.row 159 1 #[.pointer (some ⟨g,off,none⟩)])] β)).toEnv) rfl x.1 k
 have X1:(sumK x).extract (0+0) (0+0+2)=KyA x.1:=by simp [sumK,KyA]
 refine ⟨rfl,rfl,_,rfl,.inl ⟨_,R1,by decide,_,X1,?_⟩⟩
 exact .inr (.inr (.inl ⟨[],[_,_],[],_,[],EZ,rfl,trivial,by kernel_rfl,by kernel_rfl,by kernel_rfl,_,[],⟨rfl,rfl⟩,⟨rfl,trivial⟩,rfl⟩))
theorem bs_m {E:Env} (hE:E.P=Tryz.prog) {g:Nat} {vh vc vp:Value} {day:Int} {off:Nat} (hcm:(LdA vh vc vp day)[off+0]? = some (fnW 29)) (hl:LedAt E g vh vc vp day) {v:Value} {H:List (Ky×Int)} (hv:Lst E v 3 H.length (cat sumK H)) (hn:H.length≤1000000000000) (hs:SrtA ltK2 H) (k:Ky):OwnC E 147 [SV.c v,SV.c (.agg (KyA k)),SV.clo 148 [9502]] [(9502,Blk.row 159 1 #[.pointer (some ⟨g,off,none⟩)])] (fun r U=>r=.tuple #[.int .i64 (posA ltK2 H k:Nat),.bool (hasA H k)]∧U=[(9502,Blk.row 159 1 #[.pointer (some ⟨g,off,none⟩)])]):=by
 refine sx_ownC [] tt_ok mixed at147 E hE [SV.c v,SV.c (.agg (KyA k)),SV.clo 148 [9502]] [(9502,Blk.row 159 1 #[.pointer (some ⟨g,off,none⟩)])] _ rfl rfl fun w X β hT=>?_
 have hl':=hl.of_old hT
 have hE':VOk (envC Tryz.prog tt Tryz.f147.ntmps w X (tiedK [(9502,Blk.row 159 1 #[.pointer (some ⟨g,off,none⟩)])] β)):=tt_ok
 have PL:=fun x=>place1_m (E:=(envC Tryz.prog tt Tryz.f147.ntmps w X (tiedK [(9502,Blk.row 159 1 #[.pointer (some ⟨g,off,none⟩)])] β)).toEnv) rfl hcm hl' x k
 obtain ⟨a,cap,rfl,hc,h4⟩:=(hv.of_old hT).shape
 refine ⟨rfl,_,fun w' _=>run_len_sl Tryz.underlying69 w',?_⟩
 refine ⟨fun q f m=>∃ (P Q R:List (Ky×Int)),q=Q.length∧H=P++(Q++R)∧(∀ x∈P,ltK2 x.1 k=true)∧(∀ x∈R,ltK2 x.1 k=false)∧f=[(0,SV.c (.slice a H.length cap)),(4,SV.ptr 4 0),(2,SV.clo 148 [9502]),(8,SV.c (.int .i64 (H.length:Nat))),(9,SV.c (.int .i64 (P.length:Nat))),(10,SV.c (.int .i64 ((P.length+Q.length:Nat):Int)))]∧m=[(4,Blk.row 95 2 (KyA k)),(9502,Blk.row 159 1 #[.pointer (some ⟨g,off,none⟩)])],H.length,⟨_,_,⟨[],H,[],rfl,by simp,by simp,by simp,rfl,rfl⟩,⟨rfl,rfl,rfl,rfl,rfl,c_int (by simp),trivial⟩,⟨rfl,rfl,trivial⟩,rfl⟩,?_⟩
 rintro q f m ⟨P,Q,R,rfl,hH,h1,h2,rfl,rfl⟩
 have hlH:=congrArg List.length hH
 simp only [List.length_append] at hlH
 refine ⟨fun c=>?_,fun c=>?_⟩
 ·have c:0 < Q.length:=by have:=of_decide_eq_true c;omega
  have hk:Q.length / 2 < Q.length:=by omega
  obtain ⟨z,hz⟩:∃ z,Q[Q.length / 2]? = some z:=⟨_,List.getElem?_eq_getElem hk⟩
  have hQ:Q=Q.take (Q.length / 2)++z :: Q.drop (Q.length / 2+1):=by rw [← drop_at hz,List.take_append_drop]
  have hlt:(Q.take (Q.length / 2)).length=Q.length / 2:=by rw [List.length_take];omega
  have hld:(Q.drop (Q.length / 2+1)).length=Q.length - (Q.length / 2+1):=List.length_drop
  generalize Q.take (Q.length / 2)=C1 at *
  generalize Q.drop (Q.length / 2+1)=C2 at *
  have ew:IntKind.i64.wrap ((IntKind.u64.wrap (IntKind.i64.wrap (((P.length:Nat):Int)+((P.length+Q.length:Nat):Int)))).fdiv (2 ^ min (1:Int).toNat IntKind.u64.bits))=((P.length+Q.length / 2:Nat):Int):=by
   rw [half_ij (by omega)];congr 1;omega
  have gz:H[P.length+Q.length / 2]? = some z:=by rw [hH,List.getElem?_append_right (by omega),Nat.add_sub_cancel_left,List.getElem?_append_left hk];exact hz
  obtain ⟨b,o,rfl,h5⟩:=h4 (by omega)
  have L1:=lst_elem hE' h5 sumK_size gz (ty:=163) (ti:=ti163) rfl rfl rfl (p:=o+(((P.length+Q.length / 2:Nat):Int)).toNat*3) rfl
  have hs':=hs
  rw [hH,hQ] at hs'
  unfold SrtA at hs'
  simp only [List.pairwise_append,List.pairwise_cons] at hs'
  refine ⟨by decide,by rw [ew];omega,by rw [ew];omega,.inl ⟨_,(by rw [ew];exact L1),?_⟩⟩
  refine .inr (.inr (.inl ⟨[],[_,_,_],[_],_,[_],PL z,rfl,⟨rfl,trivial⟩,by kernel_rfl,by kernel_rfl,by kernel_rfl,fun c1=>?_,fun c1=>?_⟩))
  ·have c1:decide (cmpK z.1 k < 0)=true:=c1
   have c1:=cmpK_lt.1 (of_decide_eq_true c1)
   refine ⟨C2.length,_,_,by omega,⟨P++C1++[z],C2,R,rfl,by rw [hH,hQ];simp,?_,h2,rfl,rfl⟩,⟨rfl,rfl,rfl,rfl,c_int (by rw [ew,i64_in (by omega)];simp only [List.length_append,List.length_cons,List.length_nil,hlt];omega),c_int (by simp only [List.length_append,List.length_cons,List.length_nil,hlt];omega),trivial⟩,⟨rfl,rfl,trivial⟩,rfl⟩
   intro u hu
   simp only [List.mem_append,List.mem_singleton] at hu
   rcases hu with (hu | hu) | rfl
   ·exact h1 u hu
   ·exact ltK2_ok.tr _ _ _ (hs'.2.1.1.2.2 u hu z (by simp)) c1
   ·exact c1
  ·have c1:decide (cmpK z.1 k < 0)=false:=c1
   have c1:ltK2 z.1 k=false:=by
    have:=of_decide_eq_false c1
    rw [cmpK_lt] at this
    simpa using this
   refine ⟨C1.length,_,_,by omega,⟨P,C1,z :: (C2++R),rfl,by rw [hH,hQ];simp,h1,?_,rfl,rfl⟩,⟨rfl,rfl,rfl,rfl,rfl,c_int (by rw [ew,hlt]),trivial⟩,⟨rfl,rfl,trivial⟩,rfl⟩
   intro u hu
   simp only [List.mem_cons,List.mem_append] at hu
   rcases hu with rfl | hu | hu
   ·exact c1
   ·cases e:ltK2 u.1 k with
    | false=>rfl
    | true=>rw [ltK2_ok.tr _ _ _ (hs'.2.1.1.2.1.1 u hu) e] at c1;cases c1
   ·exact h2 u hu
 ·have c:Q=[]:=List.eq_nil_of_length_eq_zero (by have:=of_decide_eq_false c;omega)
  subst c
  rw [List.nil_append] at hH
  simp only [List.length_nil] at hlH
  have e1:posA ltK2 H k=P.length:=by rw [hH];exact posA_at h1 h2
  have hs2:=hs
  rw [hH] at hs2
  have e2:hasA H k=_:=(congrArg (fun l=>hasA l k) hH).trans (hasA_at (k:=k) ltK2_ok hs2 h1 h2)
  refine ⟨fun c1=>?_,fun c1=>?_⟩
  ·have c1:=of_decide_eq_true c1
   cases R with
   | nil=>simp at hlH;omega
   | cons y R =>
    have gy:H[P.length]? = some y:=by rw [hH];exact at_mid _ _ _
    obtain ⟨b,o,rfl,h5⟩:=h4 (by omega)
    have L1:=lst_elem hE' h5 sumK_size gy (ty:=163) (ti:=ti163) rfl rfl rfl (p:=o+(((P.length:Nat):Int)).toNat*3) rfl
    refine ⟨by omega,by omega,.inl ⟨_,L1,?_⟩⟩
    refine .inr (.inr (.inl ⟨[],[_,_,_],[_],_,[_],PL y,rfl,⟨rfl,trivial⟩,by kernel_rfl,by kernel_rfl,by kernel_rfl,?_⟩))
    have e3:(cmpK y.1 k == 0)=decide (y.1=k):=by
     by_cases e:y.1=k
     ·rw [decide_eq_true e,cmpK_zero.2 e];rfl
     ·rw [decide_eq_false e,beq_eq_false_iff_ne];exact fun h=>e (cmpK_zero.1 h)
    exact ⟨_,[],⟨by rw [e1,e2,e3];rfl,rfl⟩,⟨rfl,trivial⟩,rfl⟩
  ·have c1:=of_decide_eq_false c1
   have:R=[]:=List.eq_nil_of_length_eq_zero (by omega)
   subst this
   exact ⟨by kernel_rfl,_,[],⟨by rw [e1,e2];rfl,rfl⟩,⟨rfl,trivial⟩,rfl⟩
theorem place_rm {E:Env} (hE:E.P=Tryz.prog) {g:Nat} {vh vc vp:Value} {day:Int} {off:Nat} (hcm:(LdA vh vc vp day)[off+0]? = some (fnW 29)) {vl:Value} (hls:(LdA vh vc vp day)[off+1]? = some vl) (hl:LedAt E g vh vc vp day) {H:List (Ky×Int)} (hv:Lst E vl 3 H.length (cat sumK H)) (hn:H.length≤1000000000000) (hs:SrtA ltK2 H) (k:Ky):OwnC E 102 [SV.c (.pointer (some ⟨g,off,none⟩)),SV.c (.agg (KyA k))] [] (fun r U=>r=.tuple #[.int .i64 (posA ltK2 H k:Nat),.bool (hasA H k)]∧U=[]):=by
 refine sx_ownC [] tt_ok mixed at102 E hE [SV.c (.pointer (some ⟨g,off,none⟩)),SV.c (.agg (KyA k))] [] _ rfl rfl fun w X β hT=>?_
 have hl':=hl.of_old hT
 have hE':VOk (envC Tryz.prog tt Tryz.f102.ntmps w X (tiedK [] β)):=tt_ok
 have BS:=bs_m (E:=(envC Tryz.prog tt Tryz.f102.ntmps w X (tiedK [] β)).toEnv) rfl hcm hl' (hv.of_old hT) hn hs k
 have R1:=run_rowcell hE' hl' (ty:=69) (i:=ti69) (off:=off+1) (v:=vl) rfl rfl hls
 refine ⟨rfl,rfl,_,rfl,.inl ⟨_,R1,.inr (.inr (.inl ⟨[(9502,2)],[_,_,_],[_],_,[_],BS,rfl,⟨rfl,trivial⟩,by kernel_rfl,by kernel_rfl,?_⟩))⟩⟩
 exact ⟨by kernel_rfl,[],[],⟨rfl,rfl⟩,trivial,rfl⟩
theorem place_om {E:Env} (hE:E.P=Tryz.prog) {vh vc vp:Value} {day:Int} {off:Nat} (hcm:(LdA vh vc vp day)[off+0]? = some (fnW 29)) {vl:Value} (hls:(LdA vh vc vp day)[off+1]? = some vl) {H:List (Ky×Int)} {n:Nat} (hn:n=H.length) (hn2:H.length≤1000000000000) (hs:SrtA ltK2 H) (k:Ky):OwnC E 102 [SV.ptr 9500 off,SV.c (.agg (KyA k))] [(9501,Blk.own vl 163 3 n (cat sumK H)),(9500,Blk.row 73 7 (LdA vh vc vp day))] (fun r U=>r=.tuple #[.int .i64 (posA ltK2 H k:Nat),.bool (hasA H k)]∧U=[(9501,Blk.own vl 163 3 n (cat sumK H)),(9500,Blk.row 73 7 (LdA vh vc vp day))]):=by
 subst hn
 refine (OwnC.with_own2 (k:=9501) (v:=vl) (e:=163) (sz:=3) (n:=H.length) (A:=cat sumK H) (pre:=[(9500,Blk.row 73 7 (LdA vh vc vp day))]) (Q:=fun x U=>x=.tuple #[.int .i64 (posA ltK2 H k:Nat),.bool (hasA H k)]∧U=[(9500,Blk.row 73 7 (LdA vh vc vp day))]) rfl rfl (Go.SX.cat_all (fun x=>(sumK_fits x).one) H) (by rw [hE];exact at102.enters) (fun E0 h0 ho hl=>?_) (fun x U h=>by rw [h.2];rfl)).mono ?_
 ·refine OwnC.with_row (Q:=fun x=>x=.tuple #[.int .i64 (posA ltK2 H k:Nat),.bool (hasA H k)]) rfl (by rw [h0,hE];exact at102.enters) fun E1 g h1 ho1 hrow=>?_
  exact place_rm (h1.trans (h0.trans hE)) (vh:=vh) (vc:=vc) (vp:=vp) (day:=day) hcm hls hrow (hl.of_old ho1) hn2 hs k
 ·rintro r U ⟨U0,⟨h1,rfl⟩,rfl⟩
  exact ⟨h1,rfl⟩
end Go.Proofs.YtkaakbpeegpnkaaGreatDoor
