/- texts and numbers compared. what is held: keys compared, cel; no condition. -/
import Derived.Lib.Bytealg
import Derived.Test.YtekfkdddadcalaaGreatDoorPositionPlaysQ23
open List (length_append length_cons length_nil mem_append mem_cons nil_append pairwise_cons)
open Go.IntKind (i64 u64)
set_option maxRecDepth 100000
set_option maxHeartbeats 4000000
namespace Go.Proofs.YtekfkdddadcalaaGreatDoor
open Go Go.RowKit Go.SX
open Go.Proofs.Tryz (prog)
def ld (a b:List UInt8):Int:=if ltB a b then -1 else if ltB b a then 1 else 0
theorem zD:∀ (a b:List UInt8),Lib.compareBytes a b=ld a b
 | [],[]=>rfl
 | [],_ :: _=>rfl
 | _ :: _,[]=>rfl
 | a :: x,b :: y=>by
  rw [Lib.compareBytes,zD x y]
  unfold ld
  rw [ltB,ltB]
  by_cases h1:a < b
  ·rw [if_pos h1,if_pos h1,if_pos rfl]
  ·rw [if_neg h1,if_neg h1]
   by_cases h2:b < a
   ·rw [if_pos h2,if_pos h2,if_neg (by decide),if_pos h2,if_pos rfl]
   ·rw [if_neg h2,if_neg h2,if_neg h2,if_neg h1]
theorem f8:∀ (a b:List UInt8),Op.bytesLess a b=ltB a b
 | [],[]=>rfl
 | [],_ :: _=>rfl
 | _ :: _,[]=>rfl
 | a :: x,b :: y=>by
  rw [Op.bytesLess,ltB,f8 x y]
  by_cases h1:a < b
  ·simp [h1]
  ·by_cases h2:b < a
   ·have:(a == b)=false:=by
      rw [beq_eq_false_iff_ne]
      intro e;subst e;exact absurd h2 (UInt8.lt_irrefl a)
    simp [h1,h2,this]
   ·have:a=b:=UInt8.le_antisymm (UInt8.not_lt.1 h2) (UInt8.not_lt.1 h1)
    subst this
    simp [h1]
theorem tX {a b:List UInt8}:ld a b < 0↔ltB a b=true:=by
 unfold ld
 by_cases h:ltB a b=true
 ·simp [h]
 ·rw [if_neg h]
  by_cases h2:ltB b a=true
  ·simp [h,h2]
  ·simp [h,h2]
theorem fw {a b:List UInt8}:ld a b=0↔a=b:=by
 unfold ld
 by_cases h:ltB a b=true
 ·rw [if_pos h]
  constructor
  ·intro e;cases e
  ·rintro rfl;rw [dL] at h;cases h
 ·rw [if_neg h]
  by_cases h2:ltB b a=true
  ·rw [if_pos h2]
   constructor
   ·intro e;cases e
   ·rintro rfl;rw [dL] at h2;cases h2
  ·rw [if_neg h2]
   exact ⟨fun _=>fB a b (by simpa using h) (by simpa using h2),fun _=>rfl⟩
theorem Bx (a b:ByteArray) (w:World):Calls prog 83 #[.string a,.string b] w fun e w'=>e=.returned (.int .i64 (Lib.compareBytes a.data.toList b.data.toList))/\w'=w:=by
 go_enter Tryz.func83,Tryz.ntmps83
 go_wp2
 rw [run_callFunc_extern Tryz.func117 (by kernel_rfl) (by kernel_rfl) (by kernel_rfl) (e:=Extern.BytealgCompare.compare) (by kernel_rfl),Lib.run_compareString]
 simp only [Result.andThen]
 rw [Oper.upon_value]
 go_wp2
 go_ret
 exact ⟨rfl,rfl⟩
theorem Bw (a b:List UInt8):aw prog 83 [SV.c (.string (S a)),SV.c (.string (S b))] (.int .i64 (ld a b)):=by
 refine ⟨NO.enters,fun ρ w xs hx=>?_⟩
 match xs,hx with
 | [x,y],hx =>
  obtain ⟨h1,h2,_⟩:=hx
  cases (show x=.string (S a) from h1)
  cases (show y=.string (S b) from h2)
  refine (Bx (S a) (S b) w).mono ?_
  rintro e w' ⟨rfl,rfl⟩
  exact ⟨by rw [zD];rfl,Below.refl _ _⟩
theorem qH (a b:List UInt8):aw prog 43 [SV.c (.string (S a)),SV.c (.string (S b))] (.int .i64 (ld a b)):=by
 refine aj af ah On _ _ rfl rfl fun w=>?_
 exact .inl ⟨_,Bw a b,rfl,trivial⟩
theorem zd (n:Int):aw prog 118 [SV.c (.int .i64 n)] (.bool false):=by
 refine aj af ah Mo _ _ rfl rfl fun w=>?_
 exact ⟨bv (by simp),trivial⟩
def rp (a b:Int):Int:=if a < b then -1 else if b < a then 1 else 0
theorem xO (a b:Int):aw prog 85 [SV.c (.int .i64 a),SV.c (.int .i64 b)] (.int .i64 (rp a b)):=by
 refine aj af ah NM _ _ rfl rfl fun w=>?_
 refine .inl ⟨_,zd a,.inl ⟨_,zd b,?_⟩⟩
 refine ⟨nofun,fun _=>⟨nofun,fun _=>⟨fun c=>?_,fun c=>⟨fun c2=>?_,fun c2=>?_⟩⟩⟩⟩
 ·have c:=ab c
  exact ⟨by unfold rp;rw [if_pos c];rfl,trivial⟩
 ·have c:=ae c
  have c2:=ab (show decide (a > b)=true from c2)
  exact ⟨by unfold rp;rw [if_neg c,if_pos (by omega)];rfl,trivial⟩
 ·have c:=ae c
  have c2:=ae (show decide (a > b)=false from c2)
  exact ⟨by unfold rp;rw [if_neg c,if_neg (by omega)];rfl,trivial⟩
theorem Gn {a b:Int}:rp a b < 0↔a < b:=by
 unfold rp
 split
 ·simp;assumption
 ·split<;>simp<;>omega
theorem Bo {a b:Int}:rp a b=0↔a=b:=by
 unfold rp
 split
 ·simp;omega
 ·split<;>simp<;>omega
theorem CC (a b:Int):Instr.fill (fun k=>some (k*ti3.size,ti3.size)) (madeCells ti3.zero (2*ti3.size)) [(0,.int .i64 a),(1,.int .i64 b)]=some #[.int .i64 a,.int .i64 b]:=by kernel_rfl
theorem Nl {E:Env} (hE:E.P=prog) (a b:Int):OwnC E 84 [SV.sl 9400 0 2 2] [(9400,Blk.row 3 2 #[.int .i64 a,.int .i64 b])] (fun r U=>r=.int .i64 (if a=0 then b else a)/\U=[(9400,Blk.row 3 2 #[.int .i64 a,.int .i64 b])]):=by
 refine av [] af ah NN E hE [SV.sl 9400 0 2 2] [(9400,Blk.row 3 2 #[.int .i64 a,.int .i64 b])] _ rfl rfl fun w X β hT=>?_
 refine ⟨fun q f m=>∃ (i:Nat),q=2 - i/\i<=2/\(1<=i->a=0)/\(2<=i->b=0)/\f=[(3,SV.c (.int .i64 0)),(6,SV.sl 9400 0 2 2),(7,SV.c (.int .i64 2)),(8,SV.c (.int .i64 (i:Nat)))]/\m=[(9400,Blk.row 3 2 #[.int .i64 a,.int .i64 b])],2,⟨_,_,⟨0,rfl,by omega,by omega,by omega,rfl,rfl⟩,⟨rfl,rfl,rfl,rfl,trivial⟩,⟨rfl,trivial⟩,rfl⟩,?_⟩
 rintro q f m ⟨i,rfl,hi,h1,h2,rfl,rfl⟩
 match i with
 | 0 =>
  refine ⟨fun _=>?_,fun c=>absurd c (by decide)⟩
  refine ⟨by decide,by decide,_,rfl,fun c=>?_,fun c=>?_⟩
  ·have c:(a != 0)=true:=c
   have c:a≠0:=by simpa using c
   exact ⟨_,[],⟨by rw [if_neg c];rfl,rfl⟩,⟨rfl,trivial⟩,rfl⟩
  ·have c:(a != 0)=false:=c
   have c:a=0:=by simpa using c
   exact ⟨1,_,_,by omega,⟨1,rfl,by omega,fun _=>c,by omega,rfl,rfl⟩,⟨rfl,rfl,rfl,ag rfl,trivial⟩,⟨rfl,trivial⟩,rfl⟩
 | 1 =>
  have h1:=h1 (by omega)
  refine ⟨fun _=>?_,fun c=>absurd c (by decide)⟩
  refine ⟨by decide,by decide,_,rfl,fun c=>?_,fun c=>?_⟩
  ·have c:(b != 0)=true:=c
   exact ⟨_,[],⟨by rw [if_pos h1];rfl,rfl⟩,⟨rfl,trivial⟩,rfl⟩
  ·have c:(b != 0)=false:=c
   have c:b=0:=by simpa using c
   exact ⟨0,_,_,by omega,⟨2,rfl,by omega,fun _=>h1,fun _=>c,rfl,rfl⟩,⟨rfl,rfl,rfl,ag rfl,trivial⟩,⟨rfl,trivial⟩,rfl⟩
 | 2 =>
  have h1:=h1 (by omega)
  have h2:=h2 (by omega)
  refine ⟨fun c=>absurd c (by decide),fun _=>?_⟩
  exact ⟨_,[],⟨by rw [if_pos h1,h2];rfl,rfl⟩,⟨rfl,trivial⟩,rfl⟩
 | i+3=>omega
def KyA (k:Ky):Array Value:=#[.string (S k.1),.int .i64 k.2]
def qI (a b:Ky):Int:=if ld a.1 b.1=0 then rp a.2 b.2 else ld a.1 b.1
theorem o8 {a b:Ky}:qI a b < 0↔bh a b=true:=by
 unfold qI bh
 by_cases h:a.1=b.1
 ·rw [if_pos (fw.2 h),h,dL]
  simp [Gn]
 ·rw [if_neg (fun e=>h (fw.1 e)),tX]
  by_cases h1:ltB a.1 b.1=true
  ·simp [h1]
  ·by_cases h2:ltB b.1 a.1=true
   ·simp [h1,h2]
   ·exact absurd (fB _ _ (by simpa using h1) (by simpa using h2)) h
theorem sw {a b:Ky}:qI a b=0↔a=b:=by
 unfold qI
 by_cases h:a.1=b.1
 ·rw [if_pos (fw.2 h),Bo]
  constructor
  ·intro e;exact Prod.ext h e
  ·intro e;rw [e]
 ·rw [if_neg (fun e=>h (fw.1 e)),fw]
  constructor
  ·intro e;exact absurd e h
  ·intro e;rw [e] at h;exact absurd rfl h
theorem sk {E:Env} (hE:E.P=prog) (a b:Ky):OwnC E 44 [SV.c (.agg (KyA a)),SV.c (.agg (KyA b))] [] (fun r U=>r=.int .i64 (qI a b)/\U=[]):=by
 refine av [] af ah Om E hE [SV.c (.agg (KyA a)),SV.c (.agg (KyA b))] [] _ rfl rfl fun w X β hT=>?_
 have O1:=Nl (E:=(aN prog tt Tryz.f44.ntmps w X (ay [] β)).toEnv) rfl (ld a.1 b.1) (rp a.2 b.2)
 refine ⟨rfl,rfl,_,rfl,_,rfl,.inl ⟨_,qH _ _,?_⟩⟩
 refine ⟨_,rfl,_,rfl,.inl ⟨_,xO _ _,.inl ⟨by decide,by decide,_,CC _ _,rfl,?_⟩⟩⟩
 refine .inr (.inr (.inl ⟨[(9400,15)],[_],[_],_,[_],O1,rfl,⟨rfl,trivial⟩,rfl,rfl,?_⟩))
 exact ⟨by kernel_rfl,[],[],⟨rfl,rfl⟩,trivial,rfl⟩
def LdA (vh vc vp:Value) (day:Int):Array Value:=#[fnW 43,vh,fnW 44,vc,fnW 44,vp,.int .i64 day]
def ao (x:Bs×Int):Array Value:=#[.string (S x.1),.int .i64 x.2]
def ai (x:Ky×Int):Array Value:=#[.string (S x.1.1),.int .i64 x.1.2,.int .i64 x.2]
theorem aJ (x:Bs×Int):(ao x).size=2:=rfl
theorem aH (x:Ky×Int):(ai x).size=3:=rfl
theorem bO (x:Bs×Int):Fits (ao x) 2:=⟨rfl,by simp [ao,Value.oneCell']⟩
theorem cf (x:Ky×Int):Fits (ai x) 3:=⟨rfl,by simp [ai,Value.oneCell']⟩
end Go.Proofs.YtekfkdddadcalaaGreatDoor
namespace Go.Proofs.YtekfkdddadcalaaGreatDoor
open Go Go.RowKit Go.SX
open Go.Proofs.Tryz (prog)
def LedAt (E:Env) (g:Nat) (vh vc vp:Value) (day:Int):Prop:=∀ w,OldW E w->w.heap[g]? = some (.cells (LdA vh vc vp day) 93 (0,0))
theorem LedAt.of_old {E E0:Env} {g:Nat} {vh vc vp:Value} {day:Int} (h:LedAt E g vh vc vp day) (ho:∀ w,OldW E0 w->OldW E w):LedAt E0 g vh vc vp day:=fun w hw=>h w (ho w hw)
section
variable {κ:Type}
def iM (lt:κ->κ->Bool) (l:List (κ×Int)) (k:κ):Nat:=(l.takeWhile fun x=>lt x.1 k).length
def d7 [DecidableEq κ] (l:List (κ×Int)) (k:κ):Bool:=l.any fun x=>decide (x.1=k)
theorem oU {lt:κ->κ->Bool} {k:κ}:∀ {p s:List (κ×Int)},(∀ x∈p,lt x.1 k=true)->(∀ x∈s,lt x.1 k=false)->iM lt (p++s) k=p.length
 | [],[],_,_=>rfl
 | [],y :: s,_,h2=>by unfold iM;rw [nil_append,List.takeWhile_cons,h2 y (by simp)];rfl
 | x :: p,s,h1,h2=>by
  have ih:=oU (p:=p) (s:=s) (fun z hz=>h1 z (by simp [hz])) h2
  unfold iM at ih ⊢
  rw [List.cons_append,List.takeWhile_cons,h1 x (by simp),if_pos rfl,length_cons,ih,length_cons]
theorem tB [DecidableEq κ] {lt:κ->κ->Bool} (O:StrictO lt) {k:κ} {p s:List (κ×Int)} (hs:SrtA lt (p++s)) (h1:∀ x∈p,lt x.1 k=true) (h2:∀ x∈s,lt x.1 k=false):d7 (p++s) k=match s with
    | []=>false
    | y :: _=>decide (y.1=k):=by
 unfold d7
 rw [List.any_append]
 have e1:(p.any fun x=>decide (x.1=k))=false:=by
  rw [List.any_eq_false]
  intro x hx
  simpa using O.ne (h1 x hx)
 rw [e1,Bool.false_or]
 cases s with
 | nil=>rfl
 | cons y s =>
  rw [List.any_cons]
  have e2:(s.any fun x=>decide (x.1=k))=false:=by
   rw [List.any_eq_false]
   intro x hx
   unfold SrtA at hs
   rw [List.pairwise_append,pairwise_cons] at hs
   have hyx:=hs.2.1.1 x hx
   have:x.1≠k:=by
    intro e
    rw [e] at hyx
    have:=h2 y (by simp)
    rw [hyx] at this;cases this
   simpa using this
  rw [e2,Bool.or_false]
end
theorem CQ {E:Env} (hE:E.P=prog) {g:Nat} {vh vc vp:Value} {day:Int} (hl:LedAt E g vh vc vp day) (x:Bs×Int) (k:Bs):OwnC E 151 [SV.c (.agg (ao x)),SV.c (.string (S k)),SV.ptr 9502 0] [(9502,Blk.row 163 1 #[.pointer (some ⟨g,0,none⟩)])] (fun r U=>r=.int .i64 (ld x.1 k)/\U=[(9502,Blk.row 163 1 #[.pointer (some ⟨g,0,none⟩)])]):=by
 refine av [] af ah LL E hE [SV.c (.agg (ao x)),SV.c (.string (S k)),SV.ptr 9502 0] [(9502,Blk.row 163 1 #[.pointer (some ⟨g,0,none⟩)])] _ rfl rfl fun w X β hT=>?_
 have hl':=hl.of_old hT
 have hE':VOk (aN prog tt Tryz.f151.ntmps w X (ay [(9502,Blk.row 163 1 #[.pointer (some ⟨g,0,none⟩)])] β)):=af
 have R1:=ie hE' hl' (ty:=84) (i:=IT) (off:=0) (v:=fnW 43) rfl rfl rfl
 exact ⟨rfl,_,rfl,.inl ⟨_,R1,_,rfl,.inl ⟨_,qH _ _,by kernel_rfl,_,[],⟨rfl,rfl⟩,⟨rfl,trivial⟩,rfl⟩⟩⟩
theorem Nv {E:Env} (hE:E.P=prog) {g:Nat} {vh vc vp:Value} {day:Int} (hl:LedAt E g vh vc vp day) {v:Value} {H:List (Bs×Int)} (hv:Lst E v 2 H.length (cat ao H)) (hn:H.length<=1000000000000) (hs:SrtA ltB H) (k:Bs):OwnC E 150 [SV.c v,SV.c (.string (S k)),SV.clo 151 [9502]] [(9502,Blk.row 163 1 #[.pointer (some ⟨g,0,none⟩)])] (fun r U=>r=.tuple #[.int .i64 (iM ltB H k:Nat),.bool (d7 H k)]/\U=[(9502,Blk.row 163 1 #[.pointer (some ⟨g,0,none⟩)])]):=by
 refine av [] af ah LN E hE [SV.c v,SV.c (.string (S k)),SV.clo 151 [9502]] [(9502,Blk.row 163 1 #[.pointer (some ⟨g,0,none⟩)])] _ rfl rfl fun w X β hT=>?_
 have hl':=hl.of_old hT
 have hE':VOk (aN prog tt Tryz.f150.ntmps w X (ay [(9502,Blk.row 163 1 #[.pointer (some ⟨g,0,none⟩)])] β)):=af
 have PL:=fun x=>CQ (E:=(aN prog tt Tryz.f150.ntmps w X (ay [(9502,Blk.row 163 1 #[.pointer (some ⟨g,0,none⟩)])] β)).toEnv) rfl hl' x k
 obtain ⟨a,cap,rfl,hc,h4⟩:=(hv.of_old hT).shape
 refine ⟨_,fun w' _=>ak Tryz.underlying85 w',?_⟩
 refine ⟨fun q f m=>∃ (P Q R:List (Bs×Int)),q=Q.length/\H=P++(Q++R)/\(∀ x∈P,ltB x.1 k=true)/\(∀ x∈R,ltB x.1 k=false)/\f=[(0,SV.c (.slice a H.length cap)),(1,SV.c (.string (S k))),(2,SV.clo 151 [9502]),(8,SV.c (.int .i64 (H.length:Nat))),(9,SV.c (.int .i64 (P.length:Nat))),(10,SV.c (.int .i64 ((P.length+Q.length:Nat):Int)))]/\m=[(9502,Blk.row 163 1 #[.pointer (some ⟨g,0,none⟩)])],H.length,⟨_,_,⟨[],H,[],rfl,by simp,by simp,by simp,rfl,rfl⟩,⟨rfl,rfl,rfl,rfl,rfl,ag (by simp),trivial⟩,⟨rfl,trivial⟩,rfl⟩,?_⟩
 rintro q f m ⟨P,Q,R,rfl,hH,h1,h2,rfl,rfl⟩
 have hlH:=congrArg List.length hH
 simp only [length_append] at hlH
 refine ⟨fun c=>?_,fun c=>?_⟩
 ·have c:0 < Q.length:=by have:=ab c;omega
  have hk:Q.length / 2 < Q.length:=by omega
  obtain ⟨z,hz⟩:∃ z,Q[Q.length / 2]? = some z:=⟨_,List.getElem?_eq_getElem hk⟩
  have hQ:Q=Q.take (Q.length / 2)++z :: Q.drop (Q.length / 2+1):=by rw [<- co hz,List.take_append_drop]
  have hlt:(Q.take (Q.length / 2)).length=Q.length / 2:=by rw [List.length_take];omega
  have hld:(Q.drop (Q.length / 2+1)).length=Q.length - (Q.length / 2+1):=List.length_drop
  generalize Q.take (Q.length / 2)=C1 at *
  generalize Q.drop (Q.length / 2+1)=C2 at *
  have ew:i64.wrap ((u64.wrap (i64.wrap (((P.length:Nat):Int)+((P.length+Q.length:Nat):Int)))).fdiv (2 ^ min (1:Int).toNat u64.bits))=((P.length+Q.length / 2:Nat):Int):=by
   rw [fD (by omega)];congr 1;omega
  have gz:H[P.length+Q.length / 2]? = some z:=by rw [hH,List.getElem?_append_right (by omega),Nat.add_sub_cancel_left,List.getElem?_append_left hk];exact hz
  obtain ⟨b,o,rfl,h5⟩:=h4 (by omega)
  have L1:=bi hE' h5 aJ gz (ty:=136) (ti:=fR) rfl rfl rfl (p:=o+(((P.length+Q.length / 2:Nat):Int)).toNat*2) rfl
  have hs':=hs
  rw [hH,hQ] at hs'
  unfold SrtA at hs'
  simp only [List.pairwise_append,pairwise_cons] at hs'
  refine ⟨by decide,by rw [ew];omega,by rw [ew];omega,.inl ⟨_,(by rw [ew];exact L1),?_⟩⟩
  refine .inr (.inr (.inl ⟨[],[_,_,_],[_],_,[_],PL z,rfl,⟨rfl,trivial⟩,rfl,rfl,fun c1=>?_,fun c1=>?_⟩))
  ·have c1:decide (ld z.1 k < 0)=true:=c1
   have c1:=tX.1 (ab c1)
   refine ⟨C2.length,_,_,by omega,⟨P++C1++[z],C2,R,rfl,by rw [hH,hQ];simp,?_,h2,rfl,rfl⟩,⟨rfl,rfl,rfl,rfl,ag (by rw [ew,i64_in (by omega)];simp only [length_append,length_cons,length_nil,hlt];omega),ag (by simp only [length_append,length_cons,length_nil,hlt];omega),trivial⟩,⟨rfl,trivial⟩,rfl⟩
   intro u hu
   simp only [mem_append,List.mem_singleton] at hu
   rcases hu with (hu | hu) | rfl
   ·exact h1 u hu
   ·exact kU _ _ _ (hs'.2.1.1.2.2 u hu z (by simp)) c1
   ·exact c1
  ·have c1:decide (ld z.1 k < 0)=false:=c1
   have c1:ltB z.1 k=false:=by
    have:=ae c1
    rw [tX] at this
    simpa using this
   refine ⟨C1.length,_,_,by omega,⟨P,C1,z :: (C2++R),rfl,by rw [hH,hQ];simp,h1,?_,rfl,rfl⟩,⟨rfl,rfl,rfl,rfl,rfl,ag (by rw [ew,hlt]),trivial⟩,⟨rfl,trivial⟩,rfl⟩
   intro u hu
   simp only [mem_cons,mem_append] at hu
   rcases hu with rfl | hu | hu
   ·exact c1
   ·cases e:ltB u.1 k with
    | false=>rfl
    | true=>rw [kU _ _ _ (hs'.2.1.1.2.1.1 u hu) e] at c1;cases c1
   ·exact h2 u hu
 ·have c:Q=[]:=List.eq_nil_of_length_eq_zero (by have:=ae c;omega)
  subst c
  rw [nil_append] at hH
  simp only [length_nil] at hlH
  have e1:iM ltB H k=P.length:=by rw [hH];exact oU h1 h2
  have hs2:=hs
  rw [hH] at hs2
  have e2:d7 H k=_:=(congrArg (fun l=>d7 l k) hH).trans (tB (k:=k) cd hs2 h1 h2)
  refine ⟨fun c1=>?_,fun c1=>?_⟩
  ·have c1:=ab c1
   cases R with
   | nil=>simp at hlH;omega
   | cons y R =>
    have gy:H[P.length]? = some y:=by rw [hH];exact cK _ _ _
    obtain ⟨b,o,rfl,h5⟩:=h4 (by omega)
    have L1:=bi hE' h5 aJ gy (ty:=136) (ti:=fR) rfl rfl rfl (p:=o+(((P.length:Nat):Int)).toNat*2) rfl
    refine ⟨by omega,by omega,.inl ⟨_,L1,?_⟩⟩
    refine .inr (.inr (.inl ⟨[],[_,_,_],[_],_,[_],PL y,rfl,⟨rfl,trivial⟩,rfl,rfl,?_⟩))
    have e3:(ld y.1 k == 0)=decide (y.1=k):=by
     by_cases e:y.1=k
     ·rw [decide_eq_true e,fw.2 e];rfl
     ·rw [decide_eq_false e,beq_eq_false_iff_ne];exact fun h=>e (fw.1 h)
    exact ⟨_,[],⟨by rw [e1,e2,e3];rfl,rfl⟩,⟨rfl,trivial⟩,rfl⟩
  ·have c1:=ae c1
   have:R=[]:=List.eq_nil_of_length_eq_zero (by omega)
   subst this
   exact ⟨_,[],⟨by rw [e1,e2];rfl,rfl⟩,⟨rfl,trivial⟩,rfl⟩
theorem Fp {E:Env} (hE:E.P=prog) {g:Nat} {vh vc vp:Value} {day:Int} (hl:LedAt E g vh vc vp day) {H:List (Bs×Int)} (hv:Lst E vh 2 H.length (cat ao H)) (hn:H.length<=1000000000000) (hs:SrtA ltB H) (k:Bs):OwnC E 119 [SV.c (.pointer (some ⟨g,0,none⟩)),SV.c (.string (S k))] [] (fun r U=>r=.tuple #[.int .i64 (iM ltB H k:Nat),.bool (d7 H k)]/\U=[]):=by
 refine av [] af ah EI E hE [SV.c (.pointer (some ⟨g,0,none⟩)),SV.c (.string (S k))] [] _ rfl rfl fun w X β hT=>?_
 have hl':=hl.of_old hT
 have hE':VOk (aN prog tt Tryz.f119.ntmps w X (ay [] β)):=af
 have BS:=Nv (E:=(aN prog tt Tryz.f119.ntmps w X (ay [] β)).toEnv) rfl hl' (hv.of_old hT) hn hs k
 have R1:=ie hE' hl' (ty:=85) (i:=IS) (off:=1) (v:=vh) rfl rfl rfl
 refine ⟨rfl,_,rfl,.inl ⟨_,R1,.inr (.inr (.inl ⟨[(9502,2)],[_,_,_],[_],_,[_],BS,rfl,⟨rfl,trivial⟩,rfl,rfl,?_⟩))⟩⟩
 exact ⟨[],[],⟨rfl,rfl⟩,trivial,rfl⟩
theorem yJ {E:Env} (hE:E.P=prog) {vh vc vp:Value} {day:Int} {H:List (Bs×Int)} {n:Nat} (hn:n=H.length) (hn2:H.length<=1000000000000) (hs:SrtA ltB H) (k:Bs):OwnC E 119 [SV.ptr 9500 0,SV.c (.string (S k))] [(9501,Blk.own vh 136 2 n (cat ao H)),(9500,Blk.row 93 7 (LdA vh vc vp day))] (fun r U=>r=.tuple #[.int .i64 (iM ltB H k:Nat),.bool (d7 H k)]/\U=[(9501,Blk.own vh 136 2 n (cat ao H)),(9500,Blk.row 93 7 (LdA vh vc vp day))]):=by
 subst hn
 refine (OwnC.with_own2 (k:=9501) (v:=vh) (e:=136) (sz:=2) (n:=H.length) (A:=cat ao H) (pre:=[(9500,Blk.row 93 7 (LdA vh vc vp day))]) (Q:=fun x U=>x=.tuple #[.int .i64 (iM ltB H k:Nat),.bool (d7 H k)]/\U=[(9500,Blk.row 93 7 (LdA vh vc vp day))]) rfl rfl (Go.SX.cat_all (fun x=>(bO x).one) H) (by rw [hE];exact EI.enters) (fun E0 h0 ho hl=>?_) (fun x U h=>by rw [h.2];rfl)).mono ?_
 ·refine OwnC.with_row (Q:=fun x=>x=.tuple #[.int .i64 (iM ltB H k:Nat),.bool (d7 H k)]) rfl (by rw [h0,hE];exact EI.enters) fun E1 g h1 ho1 hrow=>?_
  exact Fp (h1.trans (h0.trans hE)) (vh:=vh) (vc:=vc) (vp:=vp) (day:=day) hrow (hl.of_old ho1) hn2 hs k
 ·rintro r U ⟨U0,⟨h1,rfl⟩,rfl⟩
  exact ⟨h1,rfl⟩
end Go.Proofs.YtekfkdddadcalaaGreatDoor
namespace Go.Proofs.YtekfkdddadcalaaGreatDoor
open Go Go.RowKit Go.SX
open Go.Proofs.Tryz (prog)
theorem CR {E:Env} (hE:E.P=prog) {g:Nat} {vh vc vp:Value} {day:Int} {off:Nat} (hcm:(LdA vh vc vp day)[off+0]? = some (fnW 44)) (hl:LedAt E g vh vc vp day) (x:Ky×Int) (k:Ky):OwnC E 166 [SV.c (.agg (ai x)),SV.c (.agg (KyA k)),SV.ptr 9502 0] [(9502,Blk.row 179 1 #[.pointer (some ⟨g,off,none⟩)])] (fun r U=>r=.int .i64 (qI x.1 k)/\U=[(9502,Blk.row 179 1 #[.pointer (some ⟨g,off,none⟩)])]):=by
 refine av [] af ah Lu E hE [SV.c (.agg (ai x)),SV.c (.agg (KyA k)),SV.ptr 9502 0] [(9502,Blk.row 179 1 #[.pointer (some ⟨g,off,none⟩)])] _ rfl rfl fun w X β hT=>?_
 have hl':=hl.of_old hT
 have hE':VOk (aN prog tt Tryz.f166.ntmps w X (ay [(9502,Blk.row 179 1 #[.pointer (some ⟨g,off,none⟩)])] β)):=af
 have R1:=ie hE' hl' (ty:=88) (i:=IQ) (off:=off+0) (v:=fnW 44) rfl rfl hcm
 have EZ:=sk (E:=(aN prog tt Tryz.f166.ntmps w X (ay [(9502,Blk.row 179 1 #[.pointer (some ⟨g,off,none⟩)])] β)).toEnv) rfl x.1 k
 have X1:(ai x).extract (0+0) (0+0+2)=KyA x.1:=by simp [ai,KyA]
 refine ⟨rfl,rfl,_,rfl,.inl ⟨_,R1,by decide,_,X1,?_⟩⟩
 exact .inr (.inr (.inl ⟨[],[_,_],[],_,[],EZ,rfl,trivial,by kernel_rfl,by kernel_rfl,by kernel_rfl,_,[],⟨rfl,rfl⟩,⟨rfl,trivial⟩,rfl⟩))
theorem Nw {E:Env} (hE:E.P=prog) {g:Nat} {vh vc vp:Value} {day:Int} {off:Nat} (hcm:(LdA vh vc vp day)[off+0]? = some (fnW 44)) (hl:LedAt E g vh vc vp day) {v:Value} {H:List (Ky×Int)} (hv:Lst E v 3 H.length (cat ai H)) (hn:H.length<=1000000000000) (hs:SrtA bh H) (k:Ky):OwnC E 165 [SV.c v,SV.c (.agg (KyA k)),SV.clo 166 [9502]] [(9502,Blk.row 179 1 #[.pointer (some ⟨g,off,none⟩)])] (fun r U=>r=.tuple #[.int .i64 (iM bh H k:Nat),.bool (d7 H k)]/\U=[(9502,Blk.row 179 1 #[.pointer (some ⟨g,off,none⟩)])]):=by
 refine av [] af ah Lv E hE [SV.c v,SV.c (.agg (KyA k)),SV.clo 166 [9502]] [(9502,Blk.row 179 1 #[.pointer (some ⟨g,off,none⟩)])] _ rfl rfl fun w X β hT=>?_
 have hl':=hl.of_old hT
 have hE':VOk (aN prog tt Tryz.f165.ntmps w X (ay [(9502,Blk.row 179 1 #[.pointer (some ⟨g,off,none⟩)])] β)):=af
 have PL:=fun x=>CR (E:=(aN prog tt Tryz.f165.ntmps w X (ay [(9502,Blk.row 179 1 #[.pointer (some ⟨g,off,none⟩)])] β)).toEnv) rfl hcm hl' x k
 obtain ⟨a,cap,rfl,hc,h4⟩:=(hv.of_old hT).shape
 refine ⟨rfl,_,fun w' _=>ak Tryz.underlying89 w',?_⟩
 refine ⟨fun q f m=>∃ (P Q R:List (Ky×Int)),q=Q.length/\H=P++(Q++R)/\(∀ x∈P,bh x.1 k=true)/\(∀ x∈R,bh x.1 k=false)/\f=[(0,SV.c (.slice a H.length cap)),(4,SV.ptr 4 0),(2,SV.clo 166 [9502]),(8,SV.c (.int .i64 (H.length:Nat))),(9,SV.c (.int .i64 (P.length:Nat))),(10,SV.c (.int .i64 ((P.length+Q.length:Nat):Int)))]/\m=[(4,Blk.row 108 2 (KyA k)),(9502,Blk.row 179 1 #[.pointer (some ⟨g,off,none⟩)])],H.length,⟨_,_,⟨[],H,[],rfl,by simp,by simp,by simp,rfl,rfl⟩,⟨rfl,rfl,rfl,rfl,rfl,ag (by simp),trivial⟩,⟨rfl,rfl,trivial⟩,rfl⟩,?_⟩
 rintro q f m ⟨P,Q,R,rfl,hH,h1,h2,rfl,rfl⟩
 have hlH:=congrArg List.length hH
 simp only [length_append] at hlH
 refine ⟨fun c=>?_,fun c=>?_⟩
 ·have c:0 < Q.length:=by have:=ab c;omega
  have hk:Q.length / 2 < Q.length:=by omega
  obtain ⟨z,hz⟩:∃ z,Q[Q.length / 2]? = some z:=⟨_,List.getElem?_eq_getElem hk⟩
  have hQ:Q=Q.take (Q.length / 2)++z :: Q.drop (Q.length / 2+1):=by rw [<- co hz,List.take_append_drop]
  have hlt:(Q.take (Q.length / 2)).length=Q.length / 2:=by rw [List.length_take];omega
  have hld:(Q.drop (Q.length / 2+1)).length=Q.length - (Q.length / 2+1):=List.length_drop
  generalize Q.take (Q.length / 2)=C1 at *
  generalize Q.drop (Q.length / 2+1)=C2 at *
  have ew:i64.wrap ((u64.wrap (i64.wrap (((P.length:Nat):Int)+((P.length+Q.length:Nat):Int)))).fdiv (2 ^ min (1:Int).toNat u64.bits))=((P.length+Q.length / 2:Nat):Int):=by
   rw [fD (by omega)];congr 1;omega
  have gz:H[P.length+Q.length / 2]? = some z:=by rw [hH,List.getElem?_append_right (by omega),Nat.add_sub_cancel_left,List.getElem?_append_left hk];exact hz
  obtain ⟨b,o,rfl,h5⟩:=h4 (by omega)
  have L1:=bi hE' h5 aH gz (ty:=183) (ti:=dW) rfl rfl rfl (p:=o+(((P.length+Q.length / 2:Nat):Int)).toNat*3) rfl
  have hs':=hs
  rw [hH,hQ] at hs'
  unfold SrtA at hs'
  simp only [List.pairwise_append,pairwise_cons] at hs'
  refine ⟨by decide,by rw [ew];omega,by rw [ew];omega,.inl ⟨_,(by rw [ew];exact L1),?_⟩⟩
  refine .inr (.inr (.inl ⟨[],[_,_,_],[_],_,[_],PL z,rfl,⟨rfl,trivial⟩,by kernel_rfl,by kernel_rfl,by kernel_rfl,fun c1=>?_,fun c1=>?_⟩))
  ·have c1:decide (qI z.1 k < 0)=true:=c1
   have c1:=o8.1 (ab c1)
   refine ⟨C2.length,_,_,by omega,⟨P++C1++[z],C2,R,rfl,by rw [hH,hQ];simp,?_,h2,rfl,rfl⟩,⟨rfl,rfl,rfl,rfl,ag (by rw [ew,i64_in (by omega)];simp only [length_append,length_cons,length_nil,hlt];omega),ag (by simp only [length_append,length_cons,length_nil,hlt];omega),trivial⟩,⟨rfl,rfl,trivial⟩,rfl⟩
   intro u hu
   simp only [mem_append,List.mem_singleton] at hu
   rcases hu with (hu | hu) | rfl
   ·exact h1 u hu
   ·exact bu.tr _ _ _ (hs'.2.1.1.2.2 u hu z (by simp)) c1
   ·exact c1
  ·have c1:decide (qI z.1 k < 0)=false:=c1
   have c1:bh z.1 k=false:=by
    have:=ae c1
    rw [o8] at this
    simpa using this
   refine ⟨C1.length,_,_,by omega,⟨P,C1,z :: (C2++R),rfl,by rw [hH,hQ];simp,h1,?_,rfl,rfl⟩,⟨rfl,rfl,rfl,rfl,rfl,ag (by rw [ew,hlt]),trivial⟩,⟨rfl,rfl,trivial⟩,rfl⟩
   intro u hu
   simp only [mem_cons,mem_append] at hu
   rcases hu with rfl | hu | hu
   ·exact c1
   ·cases e:bh u.1 k with
    | false=>rfl
    | true=>rw [bu.tr _ _ _ (hs'.2.1.1.2.1.1 u hu) e] at c1;cases c1
   ·exact h2 u hu
 ·have c:Q=[]:=List.eq_nil_of_length_eq_zero (by have:=ae c;omega)
  subst c
  rw [nil_append] at hH
  simp only [length_nil] at hlH
  have e1:iM bh H k=P.length:=by rw [hH];exact oU h1 h2
  have hs2:=hs
  rw [hH] at hs2
  have e2:d7 H k=_:=(congrArg (fun l=>d7 l k) hH).trans (tB (k:=k) bu hs2 h1 h2)
  refine ⟨fun c1=>?_,fun c1=>?_⟩
  ·have c1:=ab c1
   cases R with
   | nil=>simp at hlH;omega
   | cons y R =>
    have gy:H[P.length]? = some y:=by rw [hH];exact cK _ _ _
    obtain ⟨b,o,rfl,h5⟩:=h4 (by omega)
    have L1:=bi hE' h5 aH gy (ty:=183) (ti:=dW) rfl rfl rfl (p:=o+(((P.length:Nat):Int)).toNat*3) rfl
    refine ⟨by omega,by omega,.inl ⟨_,L1,?_⟩⟩
    refine .inr (.inr (.inl ⟨[],[_,_,_],[_],_,[_],PL y,rfl,⟨rfl,trivial⟩,by kernel_rfl,by kernel_rfl,by kernel_rfl,?_⟩))
    have e3:(qI y.1 k == 0)=decide (y.1=k):=by
     by_cases e:y.1=k
     ·rw [decide_eq_true e,sw.2 e];rfl
     ·rw [decide_eq_false e,beq_eq_false_iff_ne];exact fun h=>e (sw.1 h)
    exact ⟨_,[],⟨by rw [e1,e2,e3];rfl,rfl⟩,⟨rfl,trivial⟩,rfl⟩
  ·have c1:=ae c1
   have:R=[]:=List.eq_nil_of_length_eq_zero (by omega)
   subst this
   exact ⟨by kernel_rfl,_,[],⟨by rw [e1,e2];rfl,rfl⟩,⟨rfl,trivial⟩,rfl⟩
theorem CP {E:Env} (hE:E.P=prog) {g:Nat} {vh vc vp:Value} {day:Int} {off:Nat} (hcm:(LdA vh vc vp day)[off+0]? = some (fnW 44)) {vl:Value} (hls:(LdA vh vc vp day)[off+1]? = some vl) (hl:LedAt E g vh vc vp day) {H:List (Ky×Int)} (hv:Lst E vl 3 H.length (cat ai H)) (hn:H.length<=1000000000000) (hs:SrtA bh H) (k:Ky):OwnC E 128 [SV.c (.pointer (some ⟨g,off,none⟩)),SV.c (.agg (KyA k))] [] (fun r U=>r=.tuple #[.int .i64 (iM bh H k:Nat),.bool (d7 H k)]/\U=[]):=by
 refine av [] af ah EH E hE [SV.c (.pointer (some ⟨g,off,none⟩)),SV.c (.agg (KyA k))] [] _ rfl rfl fun w X β hT=>?_
 have hl':=hl.of_old hT
 have hE':VOk (aN prog tt Tryz.f128.ntmps w X (ay [] β)):=af
 have BS:=Nw (E:=(aN prog tt Tryz.f128.ntmps w X (ay [] β)).toEnv) rfl hcm hl' (hv.of_old hT) hn hs k
 have R1:=ie hE' hl' (ty:=89) (i:=IP) (off:=off+1) (v:=vl) rfl rfl hls
 refine ⟨rfl,rfl,_,rfl,.inl ⟨_,R1,.inr (.inr (.inl ⟨[(9502,2)],[_,_,_],[_],_,[_],BS,rfl,⟨rfl,trivial⟩,by kernel_rfl,by kernel_rfl,?_⟩))⟩⟩
 exact ⟨by kernel_rfl,[],[],⟨rfl,rfl⟩,trivial,rfl⟩
theorem uQ {E:Env} (hE:E.P=prog) {vh vc vp:Value} {day:Int} {off:Nat} (hcm:(LdA vh vc vp day)[off+0]? = some (fnW 44)) {vl:Value} (hls:(LdA vh vc vp day)[off+1]? = some vl) {H:List (Ky×Int)} {n:Nat} (hn:n=H.length) (hn2:H.length<=1000000000000) (hs:SrtA bh H) (k:Ky):OwnC E 128 [SV.ptr 9500 off,SV.c (.agg (KyA k))] [(9501,Blk.own vl 183 3 n (cat ai H)),(9500,Blk.row 93 7 (LdA vh vc vp day))] (fun r U=>r=.tuple #[.int .i64 (iM bh H k:Nat),.bool (d7 H k)]/\U=[(9501,Blk.own vl 183 3 n (cat ai H)),(9500,Blk.row 93 7 (LdA vh vc vp day))]):=by
 subst hn
 refine (OwnC.with_own2 (k:=9501) (v:=vl) (e:=183) (sz:=3) (n:=H.length) (A:=cat ai H) (pre:=[(9500,Blk.row 93 7 (LdA vh vc vp day))]) (Q:=fun x U=>x=.tuple #[.int .i64 (iM bh H k:Nat),.bool (d7 H k)]/\U=[(9500,Blk.row 93 7 (LdA vh vc vp day))]) rfl rfl (Go.SX.cat_all (fun x=>(cf x).one) H) (by rw [hE];exact EH.enters) (fun E0 h0 ho hl=>?_) (fun x U h=>by rw [h.2];rfl)).mono ?_
 ·refine OwnC.with_row (Q:=fun x=>x=.tuple #[.int .i64 (iM bh H k:Nat),.bool (d7 H k)]) rfl (by rw [h0,hE];exact EH.enters) fun E1 g h1 ho1 hrow=>?_
  exact CP (h1.trans (h0.trans hE)) (vh:=vh) (vc:=vc) (vp:=vp) (day:=day) hcm hls hrow (hl.of_old ho1) hn2 hs k
 ·rintro r U ⟨U0,⟨h1,rfl⟩,rfl⟩
  exact ⟨h1,rfl⟩
end Go.Proofs.YtekfkdddadcalaaGreatDoor
