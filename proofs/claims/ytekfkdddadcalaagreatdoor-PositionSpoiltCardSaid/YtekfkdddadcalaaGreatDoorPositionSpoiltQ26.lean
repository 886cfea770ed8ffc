/- texts and numbers compared. what is held: keys compared, cel; no condition. -/
import Derived.Lib.Bytealg
import Derived.Test.YtekfkdddadcalaaGreatDoorPositionSpoiltQ23
set_option maxRecDepth 100000
set_option maxHeartbeats 4000000
namespace Go.Proofs.YtekfkdddadcalaaGreatDoor
open Go Go.RowKit Go.SX
def lc (a b:List UInt8):Int:=if ltB a b then -1 else if ltB b a then 1 else 0
theorem yW:∀ (a b:List UInt8),Lib.compareBytes a b=lc a b
 | [],[]=>rfl
 | [],_ :: _=>rfl
 | _ :: _,[]=>rfl
 | a :: x,b :: y=>by
  rw [Lib.compareBytes,yW x y]
  unfold lc
  rw [ltB,ltB]
  by_cases h1:a < b
  ·rw [if_pos h1,if_pos h1,if_pos rfl]
  ·rw [if_neg h1,if_neg h1]
   by_cases h2:b < a
   ·rw [if_pos h2,if_pos h2,if_neg (by decide),if_pos h2,if_pos rfl]
   ·rw [if_neg h2,if_neg h2,if_neg h2,if_neg h1]
theorem iU:∀ (a b:List UInt8),Op.bytesLess a b=ltB a b
 | [],[]=>rfl
 | [],_ :: _=>rfl
 | _ :: _,[]=>rfl
 | a :: x,b :: y=>by
  rw [Op.bytesLess,ltB,iU x y]
  by_cases h1:a < b
  ·simp [h1]
  ·by_cases h2:b < a
   ·have:(a == b)=false:=by
      rw [beq_eq_false_iff_ne]
      intro e;subst e;exact absurd h2 (UInt8.lt_irrefl a)
    simp [h1,h2,this]
   ·have:a=b:=UInt8.le_antisymm (UInt8.not_lt.1 h2) (UInt8.not_lt.1 h1)
    subst this
    simp [h1]
theorem te {a b:List UInt8}:lc a b < 0↔ltB a b=true:=by
 unfold lc
 by_cases h:ltB a b=true
 ·simp [h]
 ·rw [if_neg h]
  by_cases h2:ltB b a=true
  ·simp [h,h2]
  ·simp [h,h2]
theorem fb {a b:List UInt8}:lc a b=0↔a=b:=by
 unfold lc
 by_cases h:ltB a b=true
 ·rw [if_pos h]
  constructor
  ·intro e;cases e
  ·rintro rfl;rw [dP] at h;cases h
 ·rw [if_neg h]
  by_cases h2:ltB b a=true
  ·rw [if_pos h2]
   constructor
   ·intro e;cases e
   ·rintro rfl;rw [dP] at h2;cases h2
  ·rw [if_neg h2]
   exact ⟨fun _=>fH a b (by simpa using h) (by simpa using h2),fun _=>rfl⟩
theorem AL (a b:ByteArray) (w:World):Calls Tryz.prog 83 #[.string a,.string b] w fun e w'=>e=.returned (.int .i64 (Lib.compareBytes a.data.toList b.data.toList))/\w'=w:=by
 go_enter Tryz.func83,Tryz.ntmps83
 go_wp2
 rw [run_callFunc_extern Tryz.func117 (by kernel_rfl) (by kernel_rfl) (by kernel_rfl) (e:=Extern.BytealgCompare.compare) (by kernel_rfl),Lib.run_compareString]
 simp only [Result.andThen]
 rw [Oper.upon_value]
 go_wp2
 go_ret
 exact ⟨rfl,rfl⟩
theorem AK (a b:List UInt8):ax Tryz.prog 83 [SV.c (.string (S a)),SV.c (.string (S b))] (.int .i64 (lc a b)):=by
 refine ⟨MM.enters,fun ρ w xs hx=>?_⟩
 match xs,hx with
 | [x,y],hx =>
  obtain ⟨h1,h2,_⟩:=hx
  cases (show x=.string (S a) from h1)
  cases (show y=.string (S b) from h2)
  refine (AL (S a) (S b) w).mono ?_
  rintro e w' ⟨rfl,rfl⟩
  exact ⟨by rw [yW];rfl,Below.refl _ _⟩
theorem p9 (a b:List UInt8):ax Tryz.prog 43 [SV.c (.string (S a)),SV.c (.string (S b))] (.int .i64 (lc a b)):=by
 refine aj af ah Nj _ _ rfl rfl fun w=>?_
 exact .inl ⟨_,AK a b,rfl,trivial⟩
theorem yB (n:Int):ax Tryz.prog 118 [SV.c (.int .i64 n)] (.bool false):=by
 refine aj af ah Li _ _ rfl rfl fun w=>?_
 exact ⟨bv (by simp),trivial⟩
def qC (a b:Int):Int:=if a < b then -1 else if b < a then 1 else 0
theorem xk (a b:Int):ax Tryz.prog 85 [SV.c (.int .i64 a),SV.c (.int .i64 b)] (.int .i64 (qC a b)):=by
 refine aj af ah MJ _ _ rfl rfl fun w=>?_
 refine .inl ⟨_,yB a,.inl ⟨_,yB b,?_⟩⟩
 refine ⟨nofun,fun _=>⟨nofun,fun _=>⟨fun c=>?_,fun c=>⟨fun c2=>?_,fun c2=>?_⟩⟩⟩⟩
 ·have c:=ab c
  exact ⟨by unfold qC;rw [if_pos c];rfl,trivial⟩
 ·have c:=ae c
  have c2:=ab (show decide (a > b)=true from c2)
  exact ⟨by unfold qC;rw [if_neg c,if_pos (by omega)];rfl,trivial⟩
 ·have c:=ae c
  have c2:=ae (show decide (a > b)=false from c2)
  exact ⟨by unfold qC;rw [if_neg c,if_neg (by omega)];rfl,trivial⟩
theorem Fo {a b:Int}:qC a b < 0↔a < b:=by
 unfold qC
 split
 ·simp;assumption
 ·split<;>simp<;>omega
theorem AB {a b:Int}:qC a b=0↔a=b:=by
 unfold qC
 split
 ·simp;omega
 ·split<;>simp<;>omega
theorem BJ (a b:Int):Instr.fill (fun k=>some (k*ti3.size,ti3.size)) (madeCells ti3.zero (2*ti3.size)) [(0,.int .i64 a),(1,.int .i64 b)]=some #[.int .i64 a,.int .i64 b]:=by kernel_rfl
theorem Mk {E:Env} (hE:E.P=Tryz.prog) (a b:Int):OwnC E 84 [SV.sl 9400 0 2 2] [(9400,Blk.row 3 2 #[.int .i64 a,.int .i64 b])] (fun r U=>r=.int .i64 (if a=0 then b else a)/\U=[(9400,Blk.row 3 2 #[.int .i64 a,.int .i64 b])]):=by
 refine av [] af ah ML E hE [SV.sl 9400 0 2 2] [(9400,Blk.row 3 2 #[.int .i64 a,.int .i64 b])] _ rfl rfl fun w X β hT=>?_
 refine ⟨fun q f m=>∃ (i:Nat),q=2 - i/\i<=2/\(1<=i->a=0)/\(2<=i->b=0)/\f=[(3,SV.c (.int .i64 0)),(6,SV.sl 9400 0 2 2),(7,SV.c (.int .i64 2)),(8,SV.c (.int .i64 (i:Nat)))]/\m=[(9400,Blk.row 3 2 #[.int .i64 a,.int .i64 b])],2,⟨_,_,⟨0,rfl,by omega,by omega,by omega,rfl,rfl⟩,⟨rfl,rfl,rfl,rfl,trivial⟩,⟨rfl,trivial⟩,rfl⟩,?_⟩
 rintro q f m ⟨i,rfl,hi,h1,h2,rfl,rfl⟩
 match i with
 | 0 =>
  refine ⟨fun _=>?_,fun c=>absurd c (by decide)⟩
  refine ⟨by decide,by decide,_,rfl,fun c=>?_,fun c=>?_⟩
  ·have c:(a != 0)=true:=c
   have c:a≠0:=by simpa using c
   exact ⟨_,[],⟨by rw [if_neg c];rfl,rfl⟩,⟨rfl,trivial⟩,rfl⟩
  ·have c:(a != 0)=false:=c
   have c:a=0:=by simpa using c
   exact ⟨1,_,_,by omega,⟨1,rfl,by omega,fun _=>c,by omega,rfl,rfl⟩,⟨rfl,rfl,rfl,ag rfl,trivial⟩,⟨rfl,trivial⟩,rfl⟩
 | 1 =>
  have h1:=h1 (by omega)
  refine ⟨fun _=>?_,fun c=>absurd c (by decide)⟩
  refine ⟨by decide,by decide,_,rfl,fun c=>?_,fun c=>?_⟩
  ·have c:(b != 0)=true:=c
   exact ⟨_,[],⟨by rw [if_pos h1];rfl,rfl⟩,⟨rfl,trivial⟩,rfl⟩
  ·have c:(b != 0)=false:=c
   have c:b=0:=by simpa using c
   exact ⟨0,_,_,by omega,⟨2,rfl,by omega,fun _=>h1,fun _=>c,rfl,rfl⟩,⟨rfl,rfl,rfl,ag rfl,trivial⟩,⟨rfl,trivial⟩,rfl⟩
 | 2 =>
  have h1:=h1 (by omega)
  have h2:=h2 (by omega)
  refine ⟨fun c=>absurd c (by decide),fun _=>?_⟩
  exact ⟨_,[],⟨by rw [if_pos h1,h2];rfl,rfl⟩,⟨rfl,trivial⟩,rfl⟩
 | i+3=>omega
def KyA (k:Ky):Array Value:=#[.string (S k.1),.int .i64 k.2]
def td (a b:Ky):Int:=if lc a.1 b.1=0 then qC a.2 b.2 else lc a.1 b.1
theorem yS {a b:Ky}:td a b < 0↔bx a b=true:=by
 unfold td bx
 by_cases h:a.1=b.1
 ·rw [if_pos (fb.2 h),h,dP]
  simp [Fo]
 ·rw [if_neg (fun e=>h (fb.1 e)),te]
  by_cases h1:ltB a.1 b.1=true
  ·simp [h1]
  ·by_cases h2:ltB b.1 a.1=true
   ·simp [h1,h2]
   ·exact absurd (fH _ _ (by simpa using h1) (by simpa using h2)) h
theorem rC {a b:Ky}:td a b=0↔a=b:=by
 unfold td
 by_cases h:a.1=b.1
 ·rw [if_pos (fb.2 h),AB]
  constructor
  ·intro e;exact Prod.ext h e
  ·intro e;rw [e]
 ·rw [if_neg (fun e=>h (fb.1 e)),fb]
  constructor
  ·intro e;exact absurd e h
  ·intro e;rw [e] at h;exact absurd rfl h
theorem Aq {E:Env} (hE:E.P=Tryz.prog) (a b:Ky):OwnC E 44 [SV.c (.agg (KyA a)),SV.c (.agg (KyA b))] [] (fun r U=>r=.int .i64 (td a b)/\U=[]):=by
 refine av [] af ah Ni E hE [SV.c (.agg (KyA a)),SV.c (.agg (KyA b))] [] _ rfl rfl fun w X β hT=>?_
 have O1:=Mk (E:=(aR Tryz.prog tt Tryz.f44.ntmps w X (aA [] β)).toEnv) rfl (lc a.1 b.1) (qC a.2 b.2)
 refine ⟨rfl,rfl,_,rfl,_,rfl,.inl ⟨_,p9 _ _,?_⟩⟩
 refine ⟨_,rfl,_,rfl,.inl ⟨_,xk _ _,.inl ⟨by decide,by decide,_,BJ _ _,rfl,?_⟩⟩⟩
 refine .inr (.inr (.inl ⟨[(9400,15)],[_],[_],_,[_],O1,rfl,⟨rfl,trivial⟩,rfl,rfl,?_⟩))
 exact ⟨by kernel_rfl,[],[],⟨rfl,rfl⟩,trivial,rfl⟩
def LdA (vh vc vp:Value) (day:Int):Array Value:=#[fnW 43,vh,fnW 44,vc,fnW 44,vp,.int .i64 day]
def ao (x:Bs×Int):Array Value:=#[.string (S x.1),.int .i64 x.2]
def ai (x:Ky×Int):Array Value:=#[.string (S x.1.1),.int .i64 x.1.2,.int .i64 x.2]
theorem aM (x:Bs×Int):(ao x).size=2:=rfl
theorem aS (x:Ky×Int):(ai x).size=3:=rfl
theorem bW (x:Bs×Int):Fits (ao x) 2:=⟨rfl,by simp [ao,Value.oneCell']⟩
theorem cv (x:Ky×Int):Fits (ai x) 3:=⟨rfl,by simp [ai,Value.oneCell']⟩
end Go.Proofs.YtekfkdddadcalaaGreatDoor
namespace Go.Proofs.YtekfkdddadcalaaGreatDoor
open Go Go.RowKit Go.SX
def LedAt (E:Env) (g:Nat) (vh vc vp:Value) (day:Int):Prop:=∀ w,OldW E w->w.heap[g]? = some (.cells (LdA vh vc vp day) 93 (0,0))
theorem LedAt.of_old {E E0:Env} {g:Nat} {vh vc vp:Value} {day:Int} (h:LedAt E g vh vc vp day) (ho:∀ w,OldW E0 w->OldW E w):LedAt E0 g vh vc vp day:=fun w hw=>h w (ho w hw)
section
variable {κ:Type}
def ie (lt:κ->κ->Bool) (l:List (κ×Int)) (k:κ):Nat:=(l.takeWhile fun x=>lt x.1 k).length
def dK [DecidableEq κ] (l:List (κ×Int)) (k:κ):Bool:=l.any fun x=>decide (x.1=k)
theorem ou {lt:κ->κ->Bool} {k:κ}:∀ {p s:List (κ×Int)},(∀ x∈p,lt x.1 k=true)->(∀ x∈s,lt x.1 k=false)->ie lt (p++s) k=p.length
 | [],[],_,_=>rfl
 | [],y :: s,_,h2=>by unfold ie;rw [List.nil_append,List.takeWhile_cons,h2 y (by simp)];rfl
 | x :: p,s,h1,h2=>by
  have ih:=ou (p:=p) (s:=s) (fun z hz=>h1 z (by simp [hz])) h2
  unfold ie at ih ⊢
  rw [List.cons_append,List.takeWhile_cons,h1 x (by simp),if_pos rfl,List.length_cons,ih,List.length_cons]
theorem sH [DecidableEq κ] {lt:κ->κ->Bool} (O:StrictO lt) {k:κ} {p s:List (κ×Int)} (hs:SrtA lt (p++s)) (h1:∀ x∈p,lt x.1 k=true) (h2:∀ x∈s,lt x.1 k=false):dK (p++s) k=match s with
    | []=>false
    | y :: _=>decide (y.1=k):=by
 unfold dK
 rw [List.any_append]
 have e1:(p.any fun x=>decide (x.1=k))=false:=by
  rw [List.any_eq_false]
  intro x hx
  simpa using O.ne (h1 x hx)
 rw [e1,Bool.false_or]
 cases s with
 | nil=>rfl
 | cons y s =>
  rw [List.any_cons]
  have e2:(s.any fun x=>decide (x.1=k))=false:=by
   rw [List.any_eq_false]
   intro x hx
   unfold SrtA at hs
   rw [List.pairwise_append,List.pairwise_cons] at hs
   have hyx:=hs.2.1.1 x hx
   have:x.1≠k:=by
    intro e
    rw [e] at hyx
    have:=h2 y (by simp)
    rw [hyx] at this;cases this
   simpa using this
  rw [e2,Bool.or_false]
end
theorem BX {E:Env} (hE:E.P=Tryz.prog) {g:Nat} {vh vc vp:Value} {day:Int} (hl:LedAt E g vh vc vp day) (x:Bs×Int) (k:Bs):OwnC E 151 [SV.c (.agg (ao x)),SV.c (.string (S k)),SV.ptr 9502 0] [(9502,Blk.row 163 1 #[.pointer (some ⟨g,0,none⟩)])] (fun r U=>r=.int .i64 (lc x.1 k)/\U=[(9502,Blk.row 163 1 #[.pointer (some ⟨g,0,none⟩)])]):=by
 refine av [] af ah KL E hE [SV.c (.agg (ao x)),SV.c (.string (S k)),SV.ptr 9502 0] [(9502,Blk.row 163 1 #[.pointer (some ⟨g,0,none⟩)])] _ rfl rfl fun w X β hT=>?_
 have hl':=hl.of_old hT
 have hE':VOk (aR Tryz.prog tt Tryz.f151.ntmps w X (aA [(9502,Blk.row 163 1 #[.pointer (some ⟨g,0,none⟩)])] β)):=af
 have R1:=gf hE' hl' (ty:=84) (i:=HX) (off:=0) (v:=fnW 43) rfl rfl rfl
 exact ⟨rfl,_,rfl,.inl ⟨_,R1,_,rfl,.inl ⟨_,p9 _ _,by kernel_rfl,_,[],⟨rfl,rfl⟩,⟨rfl,trivial⟩,rfl⟩⟩⟩
theorem Mu {E:Env} (hE:E.P=Tryz.prog) {g:Nat} {vh vc vp:Value} {day:Int} (hl:LedAt E g vh vc vp day) {v:Value} {H:List (Bs×Int)} (hv:Lst E v 2 H.length (cat ao H)) (hn:H.length<=1000000000000) (hs:SrtA ltB H) (k:Bs):OwnC E 150 [SV.c v,SV.c (.string (S k)),SV.clo 151 [9502]] [(9502,Blk.row 163 1 #[.pointer (some ⟨g,0,none⟩)])] (fun r U=>r=.tuple #[.int .i64 (ie ltB H k:Nat),.bool (dK H k)]/\U=[(9502,Blk.row 163 1 #[.pointer (some ⟨g,0,none⟩)])]):=by
 refine av [] af ah KM E hE [SV.c v,SV.c (.string (S k)),SV.clo 151 [9502]] [(9502,Blk.row 163 1 #[.pointer (some ⟨g,0,none⟩)])] _ rfl rfl fun w X β hT=>?_
 have hl':=hl.of_old hT
 have hE':VOk (aR Tryz.prog tt Tryz.f150.ntmps w X (aA [(9502,Blk.row 163 1 #[.pointer (some ⟨g,0,none⟩)])] β)):=af
 have PL:=fun x=>BX (E:=(aR Tryz.prog tt Tryz.f150.ntmps w X (aA [(9502,Blk.row 163 1 #[.pointer (some ⟨g,0,none⟩)])] β)).toEnv) rfl hl' x k
 obtain ⟨a,cap,rfl,hc,h4⟩:=(hv.of_old hT).shape
 refine ⟨_,fun w' _=>am Tryz.underlying85 w',?_⟩
 refine ⟨fun q f m=>∃ (P Q R:List (Bs×Int)),q=Q.length/\H=P++(Q++R)/\(∀ x∈P,ltB x.1 k=true)/\(∀ x∈R,ltB x.1 k=false)/\f=[(0,SV.c (.slice a H.length cap)),(1,SV.c (.string (S k))),(2,SV.clo 151 [9502]),(8,SV.c (.int .i64 (H.length:Nat))),(9,SV.c (.int .i64 (P.length:Nat))),(10,SV.c (.int .i64 ((P.length+Q.length:Nat):Int)))]/\m=[(9502,Blk.row 163 1 #[.pointer (some ⟨g,0,none⟩)])],H.length,⟨_,_,⟨[],H,[],rfl,by simp,by simp,by simp,rfl,rfl⟩,⟨rfl,rfl,rfl,rfl,rfl,ag (by simp),trivial⟩,⟨rfl,trivial⟩,rfl⟩,?_⟩
 rintro q f m ⟨P,Q,R,rfl,hH,h1,h2,rfl,rfl⟩
 have hlH:=congrArg List.length hH
 simp only [List.length_append] at hlH
 refine ⟨fun c=>?_,fun c=>?_⟩
 ·have c:0 < Q.length:=by have:=ab c;omega
  have hk:Q.length / 2 < Q.length:=by omega
  obtain ⟨z,hz⟩:∃ z,Q[Q.length / 2]? = some z:=⟨_,List.getElem?_eq_getElem hk⟩
  have hQ:Q=Q.take (Q.length / 2)++z :: Q.drop (Q.length / 2+1):=by rw [<- cd hz,List.take_append_drop]
  have hlt:(Q.take (Q.length / 2)).length=Q.length / 2:=by rw [List.length_take];omega
  have hld:(Q.drop (Q.length / 2+1)).length=Q.length - (Q.length / 2+1):=List.length_drop
  generalize Q.take (Q.length / 2)=C1 at *
  generalize Q.drop (Q.length / 2+1)=C2 at *
  have ew:IntKind.i64.wrap ((IntKind.u64.wrap (IntKind.i64.wrap (((P.length:Nat):Int)+((P.length+Q.length:Nat):Int)))).fdiv (2 ^ min (1:Int).toNat IntKind.u64.bits))=((P.length+Q.length / 2:Nat):Int):=by
   rw [fh (by omega)];congr 1;omega
  have gz:H[P.length+Q.length / 2]? = some z:=by rw [hH,List.getElem?_append_right (by omega),Nat.add_sub_cancel_left,List.getElem?_append_left hk];exact hz
  obtain ⟨b,o,rfl,h5⟩:=h4 (by omega)
  have L1:=bF hE' h5 aM gz (ty:=136) (ti:=fy) rfl rfl rfl (p:=o+(((P.length+Q.length / 2:Nat):Int)).toNat*2) rfl
  have hs':=hs
  rw [hH,hQ] at hs'
  unfold SrtA at hs'
  simp only [List.pairwise_append,List.pairwise_cons] at hs'
  refine ⟨by decide,by rw [ew];omega,by rw [ew];omega,.inl ⟨_,(by rw [ew];exact L1),?_⟩⟩
  refine .inr (.inr (.inl ⟨[],[_,_,_],[_],_,[_],PL z,rfl,⟨rfl,trivial⟩,rfl,rfl,fun c1=>?_,fun c1=>?_⟩))
  ·have c1:decide (lc z.1 k < 0)=true:=c1
   have c1:=te.1 (ab c1)
   refine ⟨C2.length,_,_,by omega,⟨P++C1++[z],C2,R,rfl,by rw [hH,hQ];simp,?_,h2,rfl,rfl⟩,⟨rfl,rfl,rfl,rfl,ag (by rw [ew,i64_in (by omega)];simp only [List.length_append,List.length_cons,List.length_nil,hlt];omega),ag (by simp only [List.length_append,List.length_cons,List.length_nil,hlt];omega),trivial⟩,⟨rfl,trivial⟩,rfl⟩
   intro u hu
   simp only [List.mem_append,List.mem_singleton] at hu
   rcases hu with (hu | hu) | rfl
   ·exact h1 u hu
   ·exact kV _ _ _ (hs'.2.1.1.2.2 u hu z (by simp)) c1
   ·exact c1
  ·have c1:decide (lc z.1 k < 0)=false:=c1
   have c1:ltB z.1 k=false:=by
    have:=ae c1
    rw [te] at this
    simpa using this
   refine ⟨C1.length,_,_,by omega,⟨P,C1,z :: (C2++R),rfl,by rw [hH,hQ];simp,h1,?_,rfl,rfl⟩,⟨rfl,rfl,rfl,rfl,rfl,ag (by rw [ew,hlt]),trivial⟩,⟨rfl,trivial⟩,rfl⟩
   intro u hu
   simp only [List.mem_cons,List.mem_append] at hu
   rcases hu with rfl | hu | hu
   ·exact c1
   ·cases e:ltB u.1 k with
    | false=>rfl
    | true=>rw [kV _ _ _ (hs'.2.1.1.2.1.1 u hu) e] at c1;cases c1
   ·exact h2 u hu
 ·have c:Q=[]:=List.eq_nil_of_length_eq_zero (by have:=ae c;omega)
  subst c
  rw [List.nil_append] at hH
  simp only [List.length_nil] at hlH
  have e1:ie ltB H k=P.length:=by rw [hH];exact ou h1 h2
  have hs2:=hs
  rw [hH] at hs2
  have e2:dK H k=_:=(congrArg (fun l=>dK l k) hH).trans (sH (k:=k) cJ hs2 h1 h2)
  refine ⟨fun c1=>?_,fun c1=>?_⟩
  ·have c1:=ab c1
   cases R with
   | nil=>simp at hlH;omega
   | cons y R =>
    have gy:H[P.length]? = some y:=by rw [hH];exact cA _ _ _
    obtain ⟨b,o,rfl,h5⟩:=h4 (by omega)
    have L1:=bF hE' h5 aM gy (ty:=136) (ti:=fy) rfl rfl rfl (p:=o+(((P.length:Nat):Int)).toNat*2) rfl
    refine ⟨by omega,by omega,.inl ⟨_,L1,?_⟩⟩
    refine .inr (.inr (.inl ⟨[],[_,_,_],[_],_,[_],PL y,rfl,⟨rfl,trivial⟩,rfl,rfl,?_⟩))
    have e3:(lc y.1 k == 0)=decide (y.1=k):=by
     by_cases e:y.1=k
     ·rw [decide_eq_true e,fb.2 e];rfl
     ·rw [decide_eq_false e,beq_eq_false_iff_ne];exact fun h=>e (fb.1 h)
    exact ⟨_,[],⟨by rw [e1,e2,e3];rfl,rfl⟩,⟨rfl,trivial⟩,rfl⟩
  ·have c1:=ae c1
   have:R=[]:=List.eq_nil_of_length_eq_zero (by omega)
   subst this
   exact ⟨_,[],⟨by rw [e1,e2];rfl,rfl⟩,⟨rfl,trivial⟩,rfl⟩
theorem Er {E:Env} (hE:E.P=Tryz.prog) {g:Nat} {vh vc vp:Value} {day:Int} (hl:LedAt E g vh vc vp day) {H:List (Bs×Int)} (hv:Lst E vh 2 H.length (cat ao H)) (hn:H.length<=1000000000000) (hs:SrtA ltB H) (k:Bs):OwnC E 119 [SV.c (.pointer (some ⟨g,0,none⟩)),SV.c (.string (S k))] [] (fun r U=>r=.tuple #[.int .i64 (ie ltB H k:Nat),.bool (dK H k)]/\U=[]):=by
 refine av [] af ah DJ E hE [SV.c (.pointer (some ⟨g,0,none⟩)),SV.c (.string (S k))] [] _ rfl rfl fun w X β hT=>?_
 have hl':=hl.of_old hT
 have hE':VOk (aR Tryz.prog tt Tryz.f119.ntmps w X (aA [] β)):=af
 have BS:=Mu (E:=(aR Tryz.prog tt Tryz.f119.ntmps w X (aA [] β)).toEnv) rfl hl' (hv.of_old hT) hn hs k
 have R1:=gf hE' hl' (ty:=85) (i:=HW) (off:=1) (v:=vh) rfl rfl rfl
 refine ⟨rfl,_,rfl,.inl ⟨_,R1,.inr (.inr (.inl ⟨[(9502,2)],[_,_,_],[_],_,[_],BS,rfl,⟨rfl,trivial⟩,rfl,rfl,?_⟩))⟩⟩
 exact ⟨[],[],⟨rfl,rfl⟩,trivial,rfl⟩
theorem x4 {E:Env} (hE:E.P=Tryz.prog) {vh vc vp:Value} {day:Int} {H:List (Bs×Int)} {n:Nat} (hn:n=H.length) (hn2:H.length<=1000000000000) (hs:SrtA ltB H) (k:Bs):OwnC E 119 [SV.ptr 9500 0,SV.c (.string (S k))] [(9501,Blk.own vh 136 2 n (cat ao H)),(9500,Blk.row 93 7 (LdA vh vc vp day))] (fun r U=>r=.tuple #[.int .i64 (ie ltB H k:Nat),.bool (dK H k)]/\U=[(9501,Blk.own vh 136 2 n (cat ao H)),(9500,Blk.row 93 7 (LdA vh vc vp day))]):=by
 subst hn
 refine (OwnC.with_own2 (k:=9501) (v:=vh) (e:=136) (sz:=2) (n:=H.length) (A:=cat ao H) (pre:=[(9500,Blk.row 93 7 (LdA vh vc vp day))]) (Q:=fun x U=>x=.tuple #[.int .i64 (ie ltB H k:Nat),.bool (dK H k)]/\U=[(9500,Blk.row 93 7 (LdA vh vc vp day))]) rfl rfl (Go.SX.cat_all (fun x=>(bW x).one) H) (by rw [hE];exact DJ.enters) (fun E0 h0 ho hl=>?_) (fun x U h=>by rw [h.2];rfl)).mono ?_
 ·refine OwnC.with_row (Q:=fun x=>x=.tuple #[.int .i64 (ie ltB H k:Nat),.bool (dK H k)]) rfl (by rw [h0,hE];exact DJ.enters) fun E1 g h1 ho1 hrow=>?_
  exact Er (h1.trans (h0.trans hE)) (vh:=vh) (vc:=vc) (vp:=vp) (day:=day) hrow (hl.of_old ho1) hn2 hs k
 ·rintro r U ⟨U0,⟨h1,rfl⟩,rfl⟩
  exact ⟨h1,rfl⟩
end Go.Proofs.YtekfkdddadcalaaGreatDoor
namespace Go.Proofs.YtekfkdddadcalaaGreatDoor
open Go Go.RowKit Go.SX
theorem BY {E:Env} (hE:E.P=Tryz.prog) {g:Nat} {vh vc vp:Value} {day:Int} {off:Nat} (hcm:(LdA vh vc vp day)[off+0]? = some (fnW 44)) (hl:LedAt E g vh vc vp day) (x:Ky×Int) (k:Ky):OwnC E 166 [SV.c (.agg (ai x)),SV.c (.agg (KyA k)),SV.ptr 9502 0] [(9502,Blk.row 179 1 #[.pointer (some ⟨g,off,none⟩)])] (fun r U=>r=.int .i64 (td x.1 k)/\U=[(9502,Blk.row 179 1 #[.pointer (some ⟨g,off,none⟩)])]):=by
 refine av [] af ah Kv E hE [SV.c (.agg (ai x)),SV.c (.agg (KyA k)),SV.ptr 9502 0] [(9502,Blk.row 179 1 #[.pointer (some ⟨g,off,none⟩)])] _ rfl rfl fun w X β hT=>?_
 have hl':=hl.of_old hT
 have hE':VOk (aR Tryz.prog tt Tryz.f166.ntmps w X (aA [(9502,Blk.row 179 1 #[.pointer (some ⟨g,off,none⟩)])] β)):=af
 have R1:=gf hE' hl' (ty:=88) (i:=HV) (off:=off+0) (v:=fnW 44) rfl rfl hcm
 have EZ:=Aq (E:=(aR Tryz.prog tt Tryz.f166.ntmps w X (aA [(9502,Blk.row 179 1 #[.pointer (some ⟨g,off,none⟩)])] β)).toEnv) rfl x.1 k
 have X1:(ai x).extract (0+0) (0+0+2)=KyA x.1:=by simp [ai,KyA]
 refine ⟨rfl,rfl,_,rfl,.inl ⟨_,R1,by decide,_,X1,?_⟩⟩
 exact .inr (.inr (.inl ⟨[],[_,_],[],_,[],EZ,rfl,trivial,by kernel_rfl,by kernel_rfl,by kernel_rfl,_,[],⟨rfl,rfl⟩,⟨rfl,trivial⟩,rfl⟩))
theorem Mv {E:Env} (hE:E.P=Tryz.prog) {g:Nat} {vh vc vp:Value} {day:Int} {off:Nat} (hcm:(LdA vh vc vp day)[off+0]? = some (fnW 44)) (hl:LedAt E g vh vc vp day) {v:Value} {H:List (Ky×Int)} (hv:Lst E v 3 H.length (cat ai H)) (hn:H.length<=1000000000000) (hs:SrtA bx H) (k:Ky):OwnC E 165 [SV.c v,SV.c (.agg (KyA k)),SV.clo 166 [9502]] [(9502,Blk.row 179 1 #[.pointer (some ⟨g,off,none⟩)])] (fun r U=>r=.tuple #[.int .i64 (ie bx H k:Nat),.bool (dK H k)]/\U=[(9502,Blk.row 179 1 #[.pointer (some ⟨g,off,none⟩)])]):=by
 refine av [] af ah Kw E hE [SV.c v,SV.c (.agg (KyA k)),SV.clo 166 [9502]] [(9502,Blk.row 179 1 #[.pointer (some ⟨g,off,none⟩)])] _ rfl rfl fun w X β hT=>?_
 have hl':=hl.of_old hT
 have hE':VOk (aR Tryz.prog tt Tryz.f165.ntmps w X (aA [(9502,Blk.row 179 1 #[.pointer (some ⟨g,off,none⟩)])] β)):=af
 have PL:=fun x=>BY (E:=(aR Tryz.prog tt Tryz.f165.ntmps w X (aA [(9502,Blk.row 179 1 #[.pointer (some ⟨g,off,none⟩)])] β)).toEnv) rfl hcm hl' x k
 obtain ⟨a,cap,rfl,hc,h4⟩:=(hv.of_old hT).shape
 refine ⟨rfl,_,fun w' _=>am Tryz.underlying89 w',?_⟩
 refine ⟨fun q f m=>∃ (P Q R:List (Ky×Int)),q=Q.length/\H=P++(Q++R)/\(∀ x∈P,bx x.1 k=true)/\(∀ x∈R,bx x.1 k=false)/\f=[(0,SV.c (.slice a H.length cap)),(4,SV.ptr 4 0),(2,SV.clo 166 [9502]),(8,SV.c (.int .i64 (H.length:Nat))),(9,SV.c (.int .i64 (P.length:Nat))),(10,SV.c (.int .i64 ((P.length+Q.length:Nat):Int)))]/\m=[(4,Blk.row 108 2 (KyA k)),(9502,Blk.row 179 1 #[.pointer (some ⟨g,off,none⟩)])],H.length,⟨_,_,⟨[],H,[],rfl,by simp,by simp,by simp,rfl,rfl⟩,⟨rfl,rfl,rfl,rfl,rfl,ag (by simp),trivial⟩,⟨rfl,rfl,trivial⟩,rfl⟩,?_⟩
 rintro q f m ⟨P,Q,R,rfl,hH,h1,h2,rfl,rfl⟩
 have hlH:=congrArg List.length hH
 simp only [List.length_append] at hlH
 refine ⟨fun c=>?_,fun c=>?_⟩
 ·have c:0 < Q.length:=by have:=ab c;omega
  have hk:Q.length / 2 < Q.length:=by omega
  obtain ⟨z,hz⟩:∃ z,Q[Q.length / 2]? = some z:=⟨_,List.getElem?_eq_getElem hk⟩
  have hQ:Q=Q.take (Q.length / 2)++z :: Q.drop (Q.length / 2+1):=by rw [<- cd hz,List.take_append_drop]
  have hlt:(Q.take (Q.length / 2)).length=Q.length / 2:=by rw [List.length_take];omega
  have hld:(Q.drop (Q.length / 2+1)).length=Q.length - (Q.length / 2+1):=List.length_drop
  generalize Q.take (Q.length / 2)=C1 at *
  generalize Q.drop (Q.length / 2+1)=C2 at *
  have ew:IntKind.i64.wrap ((IntKind.u64.wrap (IntKind.i64.wrap (((P.length:Nat):Int)+((P.length+Q.length:Nat):Int)))).fdiv (2 ^ min (1:Int).toNat IntKind.u64.bits))=((P.length+Q.length / 2:Nat):Int):=by
   rw [fh (by omega)];congr 1;omega
  have gz:H[P.length+Q.length / 2]? = some z:=by rw [hH,List.getElem?_append_right (by omega),Nat.add_sub_cancel_left,List.getElem?_append_left hk];exact hz
  obtain ⟨b,o,rfl,h5⟩:=h4 (by omega)
  have L1:=bF hE' h5 aS gz (ty:=183) (ti:=dI) rfl rfl rfl (p:=o+(((P.length+Q.length / 2:Nat):Int)).toNat*3) rfl
  have hs':=hs
  rw [hH,hQ] at hs'
  unfold SrtA at hs'
  simp only [List.pairwise_append,List.pairwise_cons] at hs'
  refine ⟨by decide,by rw [ew];omega,by rw [ew];omega,.inl ⟨_,(by rw [ew];exact L1),?_⟩⟩
  refine .inr (.inr (.inl ⟨[],[_,_,_],[_],_,[_],PL z,rfl,⟨rfl,trivial⟩,by kernel_rfl,by kernel_rfl,by kernel_rfl,fun c1=>?_,fun c1=>?_⟩))
  ·have c1:decide (td z.1 k < 0)=true:=c1
   have c1:=yS.1 (ab c1)
   refine ⟨C2.length,_,_,by omega,⟨P++C1++[z],C2,R,rfl,by rw [hH,hQ];simp,?_,h2,rfl,rfl⟩,⟨rfl,rfl,rfl,rfl,ag (by rw [ew,i64_in (by omega)];simp only [List.length_append,List.length_cons,List.length_nil,hlt];omega),ag (by simp only [List.length_append,List.length_cons,List.length_nil,hlt];omega),trivial⟩,⟨rfl,rfl,trivial⟩,rfl⟩
   intro u hu
   simp only [List.mem_append,List.mem_singleton] at hu
   rcases hu with (hu | hu) | rfl
   ·exact h1 u hu
   ·exact bB.tr _ _ _ (hs'.2.1.1.2.2 u hu z (by simp)) c1
   ·exact c1
  ·have c1:decide (td z.1 k < 0)=false:=c1
   have c1:bx z.1 k=false:=by
    have:=ae c1
    rw [yS] at this
    simpa using this
   refine ⟨C1.length,_,_,by omega,⟨P,C1,z :: (C2++R),rfl,by rw [hH,hQ];simp,h1,?_,rfl,rfl⟩,⟨rfl,rfl,rfl,rfl,rfl,ag (by rw [ew,hlt]),trivial⟩,⟨rfl,rfl,trivial⟩,rfl⟩
   intro u hu
   simp only [List.mem_cons,List.mem_append] at hu
   rcases hu with rfl | hu | hu
   ·exact c1
   ·cases e:bx u.1 k with
    | false=>rfl
    | true=>rw [bB.tr _ _ _ (hs'.2.1.1.2.1.1 u hu) e] at c1;cases c1
   ·exact h2 u hu
 ·have c:Q=[]:=List.eq_nil_of_length_eq_zero (by have:=ae c;omega)
  subst c
  rw [List.nil_append] at hH
  simp only [List.length_nil] at hlH
  have e1:ie bx H k=P.length:=by rw [hH];exact ou h1 h2
  have hs2:=hs
  rw [hH] at hs2
  have e2:dK H k=_:=(congrArg (fun l=>dK l k) hH).trans (sH (k:=k) bB hs2 h1 h2)
  refine ⟨fun c1=>?_,fun c1=>?_⟩
  ·have c1:=ab c1
   cases R with
   | nil=>simp at hlH;omega
   | cons y R =>
    have gy:H[P.length]? = some y:=by rw [hH];exact cA _ _ _
    obtain ⟨b,o,rfl,h5⟩:=h4 (by omega)
    have L1:=bF hE' h5 aS gy (ty:=183) (ti:=dI) rfl rfl rfl (p:=o+(((P.length:Nat):Int)).toNat*3) rfl
    refine ⟨by omega,by omega,.inl ⟨_,L1,?_⟩⟩
    refine .inr (.inr (.inl ⟨[],[_,_,_],[_],_,[_],PL y,rfl,⟨rfl,trivial⟩,by kernel_rfl,by kernel_rfl,by kernel_rfl,?_⟩))
    have e3:(td y.1 k == 0)=decide (y.1=k):=by
     by_cases e:y.1=k
     ·rw [decide_eq_true e,rC.2 e];rfl
     ·rw [decide_eq_false e,beq_eq_false_iff_ne];exact fun h=>e (rC.1 h)
    exact ⟨_,[],⟨by rw [e1,e2,e3];rfl,rfl⟩,⟨rfl,trivial⟩,rfl⟩
  ·have c1:=ae c1
   have:R=[]:=List.eq_nil_of_length_eq_zero (by omega)
   subst this
   exact ⟨by kernel_rfl,_,[],⟨by rw [e1,e2];rfl,rfl⟩,⟨rfl,trivial⟩,rfl⟩
theorem BW {E:Env} (hE:E.P=Tryz.prog) {g:Nat} {vh vc vp:Value} {day:Int} {off:Nat} (hcm:(LdA vh vc vp day)[off+0]? = some (fnW 44)) {vl:Value} (hls:(LdA vh vc vp day)[off+1]? = some vl) (hl:LedAt E g vh vc vp day) {H:List (Ky×Int)} (hv:Lst E vl 3 H.length (cat ai H)) (hn:H.length<=1000000000000) (hs:SrtA bx H) (k:Ky):OwnC E 128 [SV.c (.pointer (some ⟨g,off,none⟩)),SV.c (.agg (KyA k))] [] (fun r U=>r=.tuple #[.int .i64 (ie bx H k:Nat),.bool (dK H k)]/\U=[]):=by
 refine av [] af ah DI E hE [SV.c (.pointer (some ⟨g,off,none⟩)),SV.c (.agg (KyA k))] [] _ rfl rfl fun w X β hT=>?_
 have hl':=hl.of_old hT
 have hE':VOk (aR Tryz.prog tt Tryz.f128.ntmps w X (aA [] β)):=af
 have BS:=Mv (E:=(aR Tryz.prog tt Tryz.f128.ntmps w X (aA [] β)).toEnv) rfl hcm hl' (hv.of_old hT) hn hs k
 have R1:=gf hE' hl' (ty:=89) (i:=HU) (off:=off+1) (v:=vl) rfl rfl hls
 refine ⟨rfl,rfl,_,rfl,.inl ⟨_,R1,.inr (.inr (.inl ⟨[(9502,2)],[_,_,_],[_],_,[_],BS,rfl,⟨rfl,trivial⟩,by kernel_rfl,by kernel_rfl,?_⟩))⟩⟩
 exact ⟨by kernel_rfl,[],[],⟨rfl,rfl⟩,trivial,rfl⟩
theorem un {E:Env} (hE:E.P=Tryz.prog) {vh vc vp:Value} {day:Int} {off:Nat} (hcm:(LdA vh vc vp day)[off+0]? = some (fnW 44)) {vl:Value} (hls:(LdA vh vc vp day)[off+1]? = some vl) {H:List (Ky×Int)} {n:Nat} (hn:n=H.length) (hn2:H.length<=1000000000000) (hs:SrtA bx H) (k:Ky):OwnC E 128 [SV.ptr 9500 off,SV.c (.agg (KyA k))] [(9501,Blk.own vl 183 3 n (cat ai H)),(9500,Blk.row 93 7 (LdA vh vc vp day))] (fun r U=>r=.tuple #[.int .i64 (ie bx H k:Nat),.bool (dK H k)]/\U=[(9501,Blk.own vl 183 3 n (cat ai H)),(9500,Blk.row 93 7 (LdA vh vc vp day))]):=by
 subst hn
 refine (OwnC.with_own2 (k:=9501) (v:=vl) (e:=183) (sz:=3) (n:=H.length) (A:=cat ai H) (pre:=[(9500,Blk.row 93 7 (LdA vh vc vp day))]) (Q:=fun x U=>x=.tuple #[.int .i64 (ie bx H k:Nat),.bool (dK H k)]/\U=[(9500,Blk.row 93 7 (LdA vh vc vp day))]) rfl rfl (Go.SX.cat_all (fun x=>(cv x).one) H) (by rw [hE];exact DI.enters) (fun E0 h0 ho hl=>?_) (fun x U h=>by rw [h.2];rfl)).mono ?_
 ·refine OwnC.with_row (Q:=fun x=>x=.tuple #[.int .i64 (ie bx H k:Nat),.bool (dK H k)]) rfl (by rw [h0,hE];exact DI.enters) fun E1 g h1 ho1 hrow=>?_
  exact BW (h1.trans (h0.trans hE)) (vh:=vh) (vc:=vc) (vp:=vp) (day:=day) hcm hls hrow (hl.of_old ho1) hn2 hs k
 ·rintro r U ⟨U0,⟨h1,rfl⟩,rfl⟩
  exact ⟨h1,rfl⟩
end Go.Proofs.YtekfkdddadcalaaGreatDoor
