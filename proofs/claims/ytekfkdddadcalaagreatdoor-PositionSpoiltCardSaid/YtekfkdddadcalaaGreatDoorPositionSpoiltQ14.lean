/- walks: texts of decimals. walks: prices, actions in memory. ; no condition. -/
import Derived.Laws.Slices
import Derived.Laws.Strings3
import Derived.Test.YtekfkdddadcalaaGreatDoorPositionSpoiltQ12
set_option maxRecDepth 100000
set_option maxHeartbeats 4000000
namespace Go.Proofs.YtekfkdddadcalaaGreatDoor
open Go Go.RowKit Go.SX
def S (l:List UInt8):ByteArray:=⟨l.toArray⟩
theorem bM (l:List UInt8):(S l).size=l.length:=by show l.toArray.size=_;simp
theorem NE (s:ByteArray):s=S s.data.toList:=by simp [S]
theorem dN (a b:List UInt8):((S a).toList == (S b).toList)=decide (a=b):=by
 rw [ByteArray.toList_eq,ByteArray.toList_eq]
 show (a == b)=_
 rw [Bool.eq_iff_iff];simp
theorem fq (a b:List UInt8):S a++S b=S (a++b):=by
 apply ByteArray.ext
 show (S a++S b).data=_
 rw [ByteArray.data_append]
 simp [S]
theorem DS (l:List UInt8) (a b:Nat):(S l).extract a b=S ((l.take b).drop a):=by
 apply ByteArray.ext
 rw [ByteArray.data_extract]
 apply Array.ext'
 simp [S,List.drop_take]
theorem aw {P:Program} {t ty:TypeId} (hu:P.underlying t=some .string) {cs:Array Bool} {l:List UInt8} (w:World):(builtin .len #[t] ty cs #[.string (S l)]).run P w=.ok (.value (.int .i64 (l.length:Nat))) w:=by
 simp [builtin,Builtin.len_,Sem.run_bind,run_underlying hu,goInt,bM]
theorem fC {E:Env} {t:TypeId} (hu:E.P.underlying t=some .string) {l:List UInt8} {k:IntKind} {x:Int} (n:Nat) (hx:x=n) (hn:n<=l.length):bD E (Instr.sliceAt t (.string (S l)) none (some (.int k x)) none) (.string (S (l.take n))):=fun w _=>by
 subst hx
 have h:=run_slice_string_h (P:=E.P) w t (S l) hu k n (by omega) (by rw [bM];omega)
 simp only [Instr.sliceAt,Sem.run_bind,run_underlying hu,Result.andThen_ok]
 rw [h,DS]
 simp
theorem iz {E:Env} {t:TypeId} (hu:E.P.underlying t=some .string) {l:List UInt8} {k:IntKind} {x:Int} (n:Nat) (hx:x=n) (hn:n<=l.length):bD E (Instr.sliceAt t (.string (S l)) (some (.int k x)) none none) (.string (S (l.drop n))):=fun w _=>by
 subst hx
 have h:=run_slice_string_l (P:=E.P) w t (S l) hu k n (by omega) (by rw [bM];omega)
 simp only [Instr.sliceAt,Sem.run_bind,run_underlying hu,Result.andThen_ok]
 rw [h,DS,bM]
 simp
theorem cx {E:Env} {t:TypeId} (hu:E.P.underlying t=some .string) {l:List UInt8} {k:IntKind} {x:Int} (n:Nat) (hx:x=n) (hn:n < l.length):bD E (Instr.index t (.string (S l)) (.int k x)) (.int .u8 ((l.getD n 0).toNat:Nat)):=by
 subst hx
 refine runs_index hu (by omega) (b:=l.getD n 0) ?_
 show l.toArray[(n:Int).toNat]? = _
 rw [Int.toNat_natCast,List.getElem?_toArray,List.getD_eq_getElem?_getD,List.getElem?_eq_getElem hn]
 rfl
theorem tZ {P:Program} {t ty:TypeId} (hu:P.underlying t=some .string) {cs:Array Bool} {s:ByteArray} {l:List UInt8} (hs:s=S l) (w:World):(builtin .len #[t] ty cs #[.string s]).run P w=.ok (.value (.int .i64 (l.length:Nat))) w:=by subst hs;exact aw hu w
theorem BH {E:Env} {t:TypeId} (hu:E.P.underlying t=some .string) {s:ByteArray} {l:List UInt8} (hs:s=S l) {k:IntKind} {x:Int} (n:Nat) (hx:x=n) (hn:n<=l.length):bD E (Instr.sliceAt t (.string s) none (some (.int k x)) none) (.string (S (l.take n))):=by subst hs;exact fC hu n hx hn
theorem BG {E:Env} {t:TypeId} (hu:E.P.underlying t=some .string) {s:ByteArray} {l:List UInt8} (hs:s=S l) {k:IntKind} {x:Int} (n:Nat) (hx:x=n) (hn:n<=l.length):bD E (Instr.sliceAt t (.string s) (some (.int k x)) none none) (.string (S (l.drop n))):=by subst hs;exact iz hu n hx hn
theorem sv {a b:ByteArray} (h:a=b):Value.string a=.string b:=by rw [h]
theorem qh {a b:ByteArray} (h:a=b):SV.c (.string a)=SV.c (.string b):=by rw [h]
theorem uW (l p:List UInt8):ax Tryz.prog 267 [SV.c (.string (S l)),SV.c (.string (S p))] (.bool (decide (p.length<=l.length/\l.take p.length=p))):=by
 refine aj af ah Jf _ _ rfl rfl fun w=>?_
 refine ⟨_,fun w _=>aw Tryz.underlying9 w,_,fun w _=>aw Tryz.underlying9 w,fun h=>?_,fun h=>?_⟩
 ·have h:p.length<=l.length:=by have:=ab h;omega
  refine ⟨_,fun w _=>aw Tryz.underlying9 w,_,fC Tryz.underlying9 p.length rfl h,bv ?_,trivial⟩
  rw [dN,Bool.eq_iff_iff]
  simp [h]
 ·have h:¬ (p.length<=l.length):=by have:=ae h;omega
  refine ⟨bv ?_,trivial⟩
  rw [Bool.eq_iff_iff]
  simp [h]
theorem jO (l p:List UInt8):ax Tryz.prog 269 [SV.c (.string (S l)),SV.c (.string (S p))] (.bool (decide (p.length<=l.length/\l.take p.length=p))):=by
 refine aj af ah Jd _ _ rfl rfl fun w=>?_
 exact .inl ⟨_,uW l p,rfl,trivial⟩
def vz (l p:List UInt8):List UInt8×Bool:=if p.length<=l.length/\l.take p.length=p then (l.drop p.length,true) else (l,false)
theorem Dq (l p:List UInt8):ax Tryz.prog 257 [SV.c (.string (S l)),SV.c (.string (S p))] (.tuple #[.string (S (vz l p).1),.bool (vz l p).2]):=by
 refine aj af ah Jm _ _ rfl rfl fun w=>?_
 refine .inl ⟨_,uW l p,fun h=>?_,fun h=>?_⟩
 ·have h:=ae (bnt h)
  refine ⟨?_,trivial⟩
  rw [vz,if_neg h];rfl
 ·have h:=ab (bnf h)
  refine ⟨_,fun w _=>aw Tryz.underlying9 w,_,iz Tryz.underlying9 p.length rfl h.1,?_,trivial⟩
  rw [vz,if_pos h];rfl
theorem Ay (l p:List UInt8):ax Tryz.prog 231 [SV.c (.string (S l)),SV.c (.string (S p))] (.tuple #[.string (S (vz l p).1),.bool (vz l p).2]):=by
 refine aj af ah JJ _ _ rfl rfl fun w=>?_
 exact .inl ⟨_,Dq l p,rfl,trivial⟩
def cL (c:UInt8) (l:List UInt8):List UInt8:=(l.reverse.dropWhile (· == c)).reverse
theorem iu (c x:UInt8) (l:List UInt8):cL c (l++[x])=if x=c then cL c l else l++[x]:=by
 unfold cL
 by_cases h:x=c
 ·simp [h]
 ·simp [h]
theorem zn (c:UInt8) (l:List UInt8):(cL c l).length<=l.length:=by
 unfold cL
 rw [List.length_reverse]
 have:=(List.dropWhile_sublist (· == c) (l:=l.reverse)).length_le
 simpa using this
theorem oh {l:List UInt8} (h:0 < l.length):l=l.take (l.length - 1)++[l.getD (l.length - 1) 0]:=by
 rw [List.getD_eq_getElem?_getD,List.getElem?_eq_getElem (by omega)]
 simp only [Option.getD_some]
 rw [List.take_append_getElem (by omega),Nat.sub_add_cancel h,List.take_length]
theorem D3 (l:List UInt8) (c:UInt8) (hl:l.length<=9223372036854775807):ax Tryz.prog 259 [SV.c (.string (S l)),SV.c (.int .u8 (c.toNat:Nat))] (.string (S (cL c l))):=by
 refine aj af ah Jk _ _ rfl rfl fun w=>?_
 refine ⟨fun q f m=>∃ k:List UInt8,q=k.length/\k.length<=9223372036854775807/\cL c k=cL c l/\f=[(0,SV.c (.string (S k))),(1,SV.c (.int .u8 (c.toNat:Nat)))]/\m=[],l.length,⟨_,_,⟨l,rfl,hl,rfl,rfl,rfl⟩,⟨rfl,rfl,trivial⟩,trivial,rfl⟩,?_⟩
 rintro q f m ⟨k,rfl,h63,hk,rfl,rfl⟩
 have hn:0 < k.length->IntKind.i64.wrap ((k.length:Int) - 1)=((k.length - 1:Nat):Int):=fun h=>by rw [i64_in (by omega)];omega
 refine ⟨_,fun w _=>aw Tryz.underlying9 w,fun h=>?_,fun h=>?_⟩
 ·have h:0 < k.length:=by have:=ab h;omega
  have hs:=oh h
  refine ⟨_,fun w _=>aw Tryz.underlying9 w,_,cx Tryz.underlying9 (k.length - 1) (hn h) (by omega),fun h2=>?_,fun h2=>?_⟩
  ·have h2:k.getD (k.length - 1) 0=c:=by
     have:(((k.getD (k.length - 1) 0).toNat:Nat):Int)=(c.toNat:Nat):=by simpa using h2
     exact UInt8.toNat_inj.1 (by omega)
   refine ⟨_,fun w _=>aw Tryz.underlying9 w,_,fC Tryz.underlying9 (k.length - 1) (hn h) (by omega),?_⟩
   refine ⟨k.length - 1,_,_,by omega,⟨k.take (k.length - 1),by simp,by simp;omega,?_,rfl,rfl⟩,⟨rfl,rfl,trivial⟩,trivial,rfl⟩
   rw [hs,iu,if_pos h2] at hk
   exact hk
  ·have h2:k.getD (k.length - 1) 0≠c:=by
     intro e
     rw [e] at h2;simp at h2
   refine ⟨?_,trivial⟩
   rw [hs,iu,if_neg h2,<- hs] at hk
   rw [<- hk];rfl
 ·have h:k.length=0:=by have:=ae h;omega
  have h:k=[]:=List.length_eq_zero_iff.1 h
  subst h
  refine ⟨nofun,fun _=>⟨?_,trivial⟩⟩
  rw [<- hk];rfl
theorem Gz (l:List UInt8) (c:UInt8) (hl:l.length<=9223372036854775807) (hc:c.toNat < 128):ax Tryz.prog 234 [SV.c (.string (S l)),SV.c (.string (S [c]))] (.string (S (cL c l))):=by
 refine aj af ah JG _ _ rfl rfl fun w=>?_
 have e1:((S l).toList == (S []).toList)=decide (l=[]):=dN l []
 have e2:((S [c]).toList == (S []).toList)=false:=by rw [dN];simp
 refine ⟨fun h=>⟨fun h2=>?_,fun h2=>?_⟩,fun h=>?_⟩
 ·exact absurd (e2.symm.trans h2) (by simp)
 ·refine ⟨_,fun w _=>aw Tryz.underlying9 w,fun _=>⟨_,cx Tryz.underlying9 0 rfl (by simp),fun h3=>⟨_,cx Tryz.underlying9 0 rfl (by simp),.inl ⟨_,D3 l c hl,rfl,trivial⟩⟩,fun h3=>?_⟩,nofun⟩
  exfalso
  have h3:=ae h3
  apply h3
  show ((c.toNat:Nat):Int) < 128
  omega
 ·have h:l=[]:=ab (e1.symm.trans h)
  subst h
  exact ⟨fun _=>⟨rfl,trivial⟩,nofun⟩
theorem EM (n:Nat) (h:n<=10):ax Tryz.prog 278 [SV.c (.int .u64 1),SV.c (.int .u64 (n:Nat))] (.tuple #[.int .u64 0,.int .u64 (n:Nat)]):=by
 obtain rfl | rfl | rfl | rfl | rfl | rfl | rfl | rfl | rfl | rfl | rfl:n=0\/n=1\/n=2\/n=3\/n=4\/n=5\/n=6\/n=7\/n=8\/n=9\/n=10:=by omega
 all_goals
  refine aj af ah Jc _ _ rfl rfl fun w=>?_
  exact ⟨by decide,by decide,by decide,by decide,by decide,by kernel_rfl,trivial⟩
theorem GX (n:Nat) (h:n<=10):ax Tryz.prog 268 [SV.c (.int .u64 1),SV.c (.int .u64 (n:Nat))] (.tuple #[.int .u64 0,.int .u64 (n:Nat)]):=by
 refine aj af ah Je _ _ rfl rfl fun w=>?_
 exact ⟨nofun,fun _=>.inl ⟨_,EM n h,rfl,trivial⟩⟩
def jz:List UInt8:=List.replicate 64 48
theorem BO (n:Nat) (h0:0 < n) (h:n<=10):ax Tryz.prog 258 [SV.c (.string (S [48])),SV.c (.int .i64 (n:Nat))] (.string (S (List.replicate n 48))):=by
 refine aj af ah Jl _ _ rfl rfl fun w=>?_
 have hp:ax Tryz.prog 269 [SV.c (.string (S jz)),SV.c (.string (S [48]))] (.bool true):=jO jz [48]
 have e1:IntKind.u64.wrap ((n:Nat):Int)=(n:Nat):=cm (by omega)
 have hm:=GX n h
 have ht:jz.take n=List.replicate n 48:=by rw [jz,List.take_replicate];congr 1;omega
 refine ⟨fun h1=>?_,fun h1=>⟨fun h2=>?_,fun h2=>⟨fun h3=>?_,fun h3=>⟨_,fun w _=>aw Tryz.underlying9 w,?_⟩⟩⟩⟩
 ·exfalso
  have:(n:Int)=0:=by simpa using h1
  omega
 ·have h2:n=1:=by have:(n:Int)=1:=by simpa using h2
                  omega
  subst h2
  exact ⟨rfl,trivial⟩
 ·exfalso
  have:=ab h3
  omega
 ·have hm':ax Tryz.prog 268 [SV.c (.int .u64 1),SV.c (.int .u64 (IntKind.u64.wrap ((n:Nat):Int)))] (.tuple #[.int .u64 0,.int .u64 (n:Nat)]):=by rw [e1];exact hm
  have e2:IntKind.i64.wrap ((n:Nat):Int)=(n:Nat):=i64_in (by omega)
  refine .inl ⟨_,hm',fun _=>⟨fun h4=>?_,fun h4=>?_⟩,nofun⟩
  ·exfalso
   have:=ab h4
   have:((n:Nat):Int) > 9223372036854775807:=this
   omega
  ·refine ⟨_,fun w _=>aw Tryz.underlying9 w,nofun,fun _=>⟨_,cx Tryz.underlying9 0 rfl (by decide),nofun,fun _=>⟨nofun,fun _=>⟨fun _=>?_,nofun⟩⟩⟩⟩
   refine ⟨fun _=>⟨fun h5=>.inl ⟨_,jO _ [48],fun h6=>absurd h6 (by decide),fun _=>⟨fun h7=>.inl ⟨_,jO _ [48],fun h6=>absurd h6 (by decide),fun _=>⟨fun h8=>?_,fun h8=>?_⟩⟩,fun h7=>?_⟩⟩,fun h5=>?_⟩,nofun⟩
   ·refine .inl ⟨_,jO jz [48],fun _=>⟨_,fC (l:=jz) Tryz.underlying9 n e2 (by show n<=64;omega),?_,trivial⟩,fun h6=>absurd h6 (by decide)⟩
    rw [ht];rfl
   ·exfalso
    have h8:=ae h8
    rw [e2] at h8;omega
   ·exfalso
    have h7:=ae h7
    rw [e2] at h7;omega
   ·exfalso
    have h5:=ae h5
    rw [e2] at h5;omega
def bV (k:Nat) (l:List UInt8):List UInt8:=if l.length<=k then List.replicate (k+1 - l.length) 48++l else l
theorem jp (k:Nat) (l:List UInt8):k < (bV k l).length:=by
 unfold bV;split
 ·simp;omega
 ·omega
theorem Ep (l:List UInt8) (k:Nat) (hk:k<=9) (h0:0 < l.length) (hl:l.length<=1000):ax Tryz.prog 233 [SV.c (.string (S l)),SV.c (.int .i64 (k:Nat))] (.tuple #[.string (S ((bV k l).take ((bV k l).length - k))),.string (S ((bV k l).drop ((bV k l).length - k)))]):=by
 refine aj af ah JH _ _ rfl rfl fun w=>?_
 refine ⟨_,fun w _=>aw Tryz.underlying9 w,fun h=>?_,fun h=>?_⟩
 ·have h:l.length<=k:=by have:=ab h;omega
  have ep:bV k l=List.replicate (k+1 - l.length) 48++l:=if_pos h
  have e1:IntKind.i64.wrap (IntKind.i64.wrap ((k:Int)+1) - (l.length:Nat))=((k+1 - l.length:Nat):Int):=by rw [i64_in (x:=(k:Int)+1) (by omega),i64_in (by omega)];omega
  have hr:=BO (k+1 - l.length) (by omega) (by omega)
  rw [<- e1] at hr
  have es:S (List.replicate (k+1 - l.length) 48)++S l=S (bV k l):=by rw [fq,ep]
  have el:=jp k l
  have el2:(bV k l).length<=1000:=by rw [ep];simp;omega
  have e2:IntKind.i64.wrap (((bV k l).length:Int) - (k:Nat))=(((bV k l).length - k:Nat):Int):=by rw [i64_in (by omega)];omega
  exact ⟨_,fun w _=>aw Tryz.underlying9 w,.inl ⟨_,hr,by rw [bM,bM];simp;omega,_,fun w _=>tZ Tryz.underlying9 es w,_,BH Tryz.underlying9 es _ e2 (by omega),_,fun w _=>tZ Tryz.underlying9 es w,_,BG Tryz.underlying9 es _ e2 (by omega),by kernel_rfl,rfl,trivial⟩⟩
 ·have h:¬ l.length<=k:=by have:=ae h;omega
  have ep:bV k l=l:=if_neg h
  rw [ep]
  have e1:IntKind.i64.wrap ((l.length:Int) - (k:Nat))=((l.length - k:Nat):Int):=by rw [i64_in (by omega)];omega
  exact ⟨_,fun w _=>aw Tryz.underlying9 w,_,fC Tryz.underlying9 (l.length - k) e1 (by omega),_,fun w _=>aw Tryz.underlying9 w,_,iz Tryz.underlying9 (l.length - k) e1 (by omega),by kernel_rfl,rfl,trivial⟩
def wi (z:Int) (k:Nat):List UInt8×Int :=
 let s:=bV k (br z.natAbs)
 let p:=cL 48 (s.drop (s.length - k))
 if 15 < s.length - k then ([],32) else ((if z < 0 then [45] else [])++s.take (s.length - k)++(if p=[] then [] else 46 :: p),0)
def jb (r:RQ) (n:Int):List UInt8×Int:=if !r.ok then ([],20) else if n < 0\/n > 9 then ([],30) else if r.p*(tp n.toNat:Nat) % r.q≠0 then ([],32) else wi (r.p*(tp n.toNat:Nat) / r.q) n.toNat
def IC (x:List UInt8×Int):Value:=.tuple #[.string (S x.1),.int .i64 x.2]
theorem pS {N:Nat}:∀ b∈br N,48<=b.toNat/\b.toNat<=57:=by
 intro b hb
 unfold br at hb
 split at hb
 ·simp at hb;subst hb;decide
 ·exact wC b (List.mem_reverse.1 hb)
theorem pR (N:Nat):0 < (br N).length:=by
 unfold br
 split
 ·simp
 ·rename_i h;rw [fj h];simp
theorem mn {k N:Nat} (hk:0 < k) (h:N < 10 ^ k):(br N).length<=k:=by
 unfold br
 split
 ·simp;omega
 ·rw [List.length_reverse];exact lF k N h
theorem Ax (z:Int):vz (ml z) [45]=(br z.natAbs,decide (z < 0)):=by
 unfold ml vz
 by_cases h:z < 0
 ·simp [h]
 ·rw [if_neg h]
  have h0:=pR z.natAbs
  cases hl:br z.natAbs with
  | nil=>rw [hl] at h0;simp at h0
  | cons a r =>
   have:=pS a (by rw [hl];simp)
   rw [if_neg]
   ·simp [h]
   ·rintro ⟨-,h2⟩
    simp at h2
    subst h2
    simp at this
theorem Dz {N:Nat} (h:N < 2 ^ j4):N < 10 ^ xb:=Nat.lt_trans h (by decide +kernel)
theorem GD {r:RQ} (hr:r.In) (n:Int):ax Tryz.prog 191 [SV.c (.agg r.A),SV.c (.int .i64 n)] (IC (jb r n)):=by
 refine aj af ah Kg _ _ rfl rfl fun w=>?_
 have hc:=yX hr n
 rcases Decidable.em (r.ok=true) with hk | hk
 case inr =>
  have hk:r.ok=false:=by simpa using hk
  rw [hk,Bool.not_false,if_pos rfl] at hc
  refine ⟨r.A_size,.inl ⟨_,hc,fun _=>⟨?_,trivial⟩,nofun⟩⟩
  rw [jb,hk,Bool.not_false,if_pos rfl];rfl
 rw [hk] at hc
 rcases Decidable.em (n < 0\/n > 9) with hn | hn
 ·rw [Bool.not_true,if_neg Bool.false_ne_true,if_pos hn] at hc
  refine ⟨r.A_size,.inl ⟨_,hc,fun _=>⟨?_,trivial⟩,nofun⟩⟩
  rw [jb,hk,Bool.not_true,if_neg Bool.false_ne_true,if_pos hn];rfl
 rw [Bool.not_true,if_neg Bool.false_ne_true,if_neg hn] at hc
 obtain ⟨k,rfl⟩:∃ k:Nat,n=k:=⟨n.toNat,by omega⟩
 have hk9:k<=9:=by omega
 obtain ⟨k1,k2,k3,k4,k5⟩:=RQ.ok_bits hk
 have hs:=tR hr hk hk9
 have hl:=gZ k1 hk9
 have hrl:(r.p*((tp k:Nat):Int) % r.q).natAbs < BB ^ 32:=by
  have h1:=Int.emod_lt_of_pos (r.p*((tp k:Nat):Int)) k3
  have h2:=Int.emod_nonneg (r.p*((tp k:Nat):Int)) (show r.q≠0 by omega)
  have h3:r.q.natAbs < 2 ^ iP:=Nat.lt_of_lt_of_le (cZ _).1 (Nat.pow_le_pow_right (by omega) k2)
  have:=uV
  omega
 have hlow:(r.p*((tp k:Nat):Int) / r.q).natAbs < 2 ^ j4:=Nat.lt_of_le_of_lt (Int.natAbs_ediv_le_natAbs _ _) hl
 rw [jb,hk,Bool.not_true,if_neg Bool.false_ne_true,if_neg hn,Int.toNat_natCast]
 generalize r.p*((tp k:Nat):Int) / r.q=low at *
 generalize r.p*((tp k:Nat):Int) % r.q=rest at *
 have hlb:low.natAbs < BB ^ 32:=Nat.lt_trans hlow uU
 have hlen:(br low.natAbs).length<=309:=mn (k:=xb) (by decide) (Dz hlow)
 have hfmt:ax Tryz.prog 232 [SV.c (.agg (eA low))] (.string (S (ml low))):=CU (aJ hlb)
 have hcut:=Ay (ml low) [45]
 rw [Ax] at hcut
 have hpt:=Ep (br low.natAbs) k hk9 (pR _) (by omega)
 unfold wi
 dsimp only
 have hpl:=jp k (br low.natAbs)
 have hpl2:(bV k (br low.natAbs)).length<=1000:=by
  unfold bV;split
  ·simp only [List.length_append,List.length_replicate];omega
  ·omega
 generalize bV k (br low.natAbs)=s at *
 have htr:=Gz (s.drop (s.length - k)) 48 (by simp;omega) (by decide)
 have hpz:(cL 48 (s.drop (s.length - k))).length<=1000:=Nat.le_trans (zn _ _) (by simp;omega)
 have ht:(s.take (s.length - k)).length<=1000:=by simp;omega
 have hemp:((S (cL 48 (s.drop (s.length - k)))).toList == (S []).toList)=decide (cL 48 (s.drop (s.length - k))=[]):=dN _ []
 generalize cL 48 (s.drop (s.length - k))=p at *
 have s1:(S [46]:ByteArray).size+(S p).size<=9223372036854775807:=by rw [bM,bM];simp;omega
 have s2:(S (s.take (s.length - k))).size+(S [46]++S p).size<=9223372036854775807:=by rw [fq,bM,bM];simp only [List.length_append,List.length_cons,List.length_nil];omega
 have s3:(S [45]:ByteArray).size+(S (s.take (s.length - k))++(S [46]++S p)).size<=9223372036854775807:=by rw [fq,fq,bM,bM];simp only [List.length_append,List.length_cons,List.length_nil];omega
 have s4:(S [45]:ByteArray).size+(S (s.take (s.length - k))).size<=9223372036854775807:=by rw [bM,bM];simp only [List.length_cons,List.length_nil];omega
 have htl:(s.take (s.length - k)).length=s.length - k:=by simp
 refine ⟨r.A_size,.inl ⟨_,hc,nofun,fun _=>.inl ⟨_,hs,ak _,ak _,.inl ⟨_,fS (aJ hrl),fun h1=>?_,fun h1=>.inl ⟨_,hfmt,.inl ⟨_,hcut,.inl ⟨_,hpt,_,fun w _=>aw Tryz.underlying9 w,fun h2=>?_,fun h2=>.inl ⟨_,htr,fun h3=>⟨s1,s2,fun h4=>⟨s3,?_,trivial⟩,fun h4=>⟨?_,trivial⟩⟩,fun h3=>⟨fun h4=>⟨s4,?_,trivial⟩,fun h4=>⟨?_,trivial⟩⟩⟩⟩⟩⟩⟩⟩⟩⟩
 ·have h1:rest≠0:=by
    intro e;subst e;simp [sgn] at h1
  refine ⟨?_,trivial⟩
  rw [if_pos h1];rfl
 all_goals
  have h1:¬ (rest≠0):=by
   intro e
   have e2:=cF (y:=rest)
   rw [decide_eq_false e] at e2
   have:(!(sgn rest == 0))=false:=h1
   rw [e2] at this
   cases this
  rw [if_neg h1]
 ·have h2:=ab h2
  refine ⟨?_,trivial⟩
  rw [if_pos (by omega)];rfl
 all_goals
  have h2:=ae h2
  have h4:decide (low < 0)=_:=h4
  rw [if_neg (by omega)]
 ·have h3:=bnt (hemp ▸ h3)
  rw [if_pos (ab h4),if_neg (ae h3)]
  refine jc (sv ?_) rfl
  show S [45]++(S (s.take (s.length - k))++(S [46]++S p))=_
  rw [fq,fq,fq,List.append_assoc];rfl
 ·have h3:=bnt (hemp ▸ h3)
  rw [if_neg (ae h4),if_neg (ae h3)]
  refine jc (sv ?_) rfl
  show (S (s.take (s.length - k))++(S [46]++S p))=_
  rw [fq,fq];rfl
 ·have h3:=bR (hemp ▸ h3)
  rw [if_pos (ab h4),if_pos (ab h3)]
  refine jc (sv ?_) rfl
  show S [45]++S (s.take (s.length - k))=_
  rw [fq,List.append_nil]
 ·have h3:=bR (hemp ▸ h3)
  rw [if_neg (ae h4),if_pos (ab h3)]
  refine jc (sv ?_) rfl
  rw [List.append_nil];rfl
def dz (dg:Bool) (l:List UInt8) (j:Nat):Bool:=(decide (65<=(l.getD j 0).toNat) && decide ((l.getD j 0).toNat<=90)) || (dg && !decide (j=0) && decide (48<=(l.getD j 0).toNat) && decide ((l.getD j 0).toNat<=57))
def fx (dg:Bool) (l:List UInt8):Bool:=(List.range l.length).all (dz dg l)
theorem dC {dg:Bool} {l:List UInt8} {j:Nat} (hj:j < l.length) (h:dz dg l j=false):fx dg l=false:=by
 unfold fx
 rw [List.all_eq_false]
 exact ⟨j,by simpa using hj,by simp [h]⟩
theorem gJ {dg:Bool} {l:List UInt8} (h:∀ j,j < l.length->dz dg l j=true):fx dg l=true:=by
 unfold fx
 rw [List.all_eq_true]
 intro j hj
 exact h j (by simpa using hj)
theorem qf (l:List UInt8) (lo hi:Int) (dg:Bool) (hl:l.length<=9223372036854775807):ax Tryz.prog 145 [SV.c (.string (S l)),SV.c (.int .i64 lo),SV.c (.int .i64 hi),SV.c (.bool dg)] (.bool (fx dg l && (decide (lo<=l.length) && decide ((l.length:Int)<=hi)))):=by
 refine aj af ah KS _ _ rfl rfl fun w=>?_
 refine ⟨_,fun w _=>aw Tryz.underlying9 w,?_⟩
 refine ⟨fun q f m=>∃ i:Nat,q=l.length - i/\i<=l.length/\(∀ j,j < i->dz dg l j=true)/\f=[(0,SV.c (.string (S l))),(1,SV.c (.int .i64 lo)),(2,SV.c (.int .i64 hi)),(3,SV.c (.bool dg)),(11,SV.c (.int .i64 (l.length:Nat))),(12,SV.c (.int .i64 i))]/\m=[],l.length,⟨_,_,⟨0,rfl,Nat.zero_le _,fun j hj=>absurd hj (by omega),rfl,rfl⟩,⟨rfl,rfl,rfl,rfl,rfl,rfl,trivial⟩,trivial,rfl⟩,?_⟩
 rintro q f m ⟨i,rfl,hi1,hall,rfl,rfl⟩
 refine ⟨fun h=>?_,fun h=>?_⟩
 ·have h:i < l.length:=by have:=ab h;omega
  have hx:=cx (E:=(gQ Tryz.prog tt Tryz.f145.ntmps w).toEnv) Tryz.underlying9 (k:=.i64) i rfl h
  have hc:dz dg l i=((decide (65<=(l.getD i 0).toNat) && decide ((l.getD i 0).toNat<=90)) || (dg && !decide (i=0) && decide (48<=(l.getD i 0).toNat) && decide ((l.getD i 0).toNat<=57))):=rfl
  generalize (l.getD i 0).toNat=x at *
  have stop:dz dg l i=false->dW [.bool false]=.bool (fx dg l && (decide (lo<=l.length) && decide ((l.length:Int)<=hi))):=fun e=>by rw [dC h e];rfl
  have hnext:dz dg l i=true->∀ j,j < i+1->dz dg l j=true:=fun e j hj=>by
   by_cases e2:j=i
   ·rw [e2];exact e
   ·exact hall j (by omega)
  refine ⟨_,hx,fun h1=>⟨_,hx,fun h2=>?_,fun h2=>?_⟩,fun h1=>⟨fun h2=>?_,nofun⟩⟩
  ·have h1:=ae h1
   have h2:=ab h2
   have hlow:(decide (65<=x) && decide (x<=90))=false:=by rw [decide_eq_false (by omega:¬ x<=90),Bool.and_false]
   rw [hlow,Bool.false_or] at hc
   refine ⟨fun h3=>⟨fun h4=>⟨_,hx,fun h5=>⟨_,hx,fun h6=>⟨stop ?_,trivial⟩,fun h6=>?_⟩,fun h5=>⟨fun _=>⟨stop ?_,trivial⟩,nofun⟩⟩,fun h4=>⟨nofun,fun _=>⟨fun _=>⟨stop ?_,trivial⟩,nofun⟩⟩⟩,fun h3=>⟨nofun,fun _=>⟨nofun,fun _=>⟨fun _=>⟨stop ?_,trivial⟩,nofun⟩⟩⟩⟩
   ·have h6:=ab h6
    rw [hc,decide_eq_false (by omega:¬ x<=57),Bool.and_false]
   ·have h3:dg=true:=bR h3
    have h4:¬ i=0:=by intro e;subst e;simp at h4
    have h5:=ae h5
    have h6:=ae h6
    exact ⟨l.length - (i+1),_,_,by omega,⟨i+1,rfl,by omega,hnext (by rw [hc,h3,decide_eq_false h4,decide_eq_true (by omega:48<=x),decide_eq_true (by omega:x<=57)];rfl),rfl,rfl⟩,⟨rfl,rfl,rfl,rfl,rfl,ag (by rw [i64_in (by omega)];rfl),trivial⟩,trivial,rfl⟩
   ·have h5:=ab h5
    rw [hc,decide_eq_false (by omega:¬ 48<=x),Bool.and_false,Bool.false_and]
   ·have h4:i=0:=by have:(i:Int)=0:=by simpa using h4
                    omega
    rw [hc,decide_eq_true h4,Bool.not_true,Bool.and_false,Bool.false_and,Bool.false_and]
   ·have h3:dg=false:=bnt h3
    rw [hc,h3];rfl
  ·have h1:=ae h1
   have h2:=ae h2
   refine ⟨nofun,fun _=>?_⟩
   exact ⟨l.length - (i+1),_,_,by omega,⟨i+1,rfl,by omega,hnext (by rw [hc,decide_eq_true (by omega:65<=x),decide_eq_true (by omega:x<=90)];rfl),rfl,rfl⟩,⟨rfl,rfl,rfl,rfl,rfl,ag (by rw [i64_in (by omega)];rfl),trivial⟩,trivial,rfl⟩
  ·have h1:=ab h1
   have hlow:(decide (65<=x) && decide (x<=90))=false:=by rw [decide_eq_false (by omega:¬ 65<=x),Bool.false_and]
   rw [hlow,Bool.false_or] at hc
   refine ⟨fun h3=>⟨fun h4=>⟨_,hx,fun h5=>⟨_,hx,fun h6=>⟨stop ?_,trivial⟩,fun h6=>?_⟩,fun h5=>⟨fun _=>⟨stop ?_,trivial⟩,nofun⟩⟩,fun h4=>⟨nofun,fun _=>⟨fun _=>⟨stop ?_,trivial⟩,nofun⟩⟩⟩,fun h3=>⟨nofun,fun _=>⟨nofun,fun _=>⟨fun _=>⟨stop ?_,trivial⟩,nofun⟩⟩⟩⟩
   ·have h6:=ab h6
    rw [hc,decide_eq_false (by omega:¬ x<=57),Bool.and_false]
   ·have h3:dg=true:=bR h3
    have h4:¬ i=0:=by intro e;subst e;simp at h4
    have h5:=ae h5
    have h6:=ae h6
    exact ⟨l.length - (i+1),_,_,by omega,⟨i+1,rfl,by omega,hnext (by rw [hc,h3,decide_eq_false h4,decide_eq_true (by omega:48<=x),decide_eq_true (by omega:x<=57)];rfl),rfl,rfl⟩,⟨rfl,rfl,rfl,rfl,rfl,ag (by rw [i64_in (by omega)];rfl),trivial⟩,trivial,rfl⟩
   ·have h5:=ab h5
    rw [hc,decide_eq_false (by omega:¬ 48<=x),Bool.and_false,Bool.false_and]
   ·have h4:i=0:=by have:(i:Int)=0:=by simpa using h4
                    omega
    rw [hc,decide_eq_true h4,Bool.not_true,Bool.and_false,Bool.false_and,Bool.false_and]
   ·have h3:dg=false:=bnt h3
    rw [hc,h3];rfl
 ·have h:i=l.length:=by have:=ae h;omega
  subst h
  rw [gJ hall,Bool.true_and]
  refine ⟨_,fun w _=>aw Tryz.underlying9 w,fun h2=>⟨_,fun w _=>aw Tryz.underlying9 w,bv ?_,trivial⟩,fun h2=>⟨bv ?_,trivial⟩⟩
  ·rw [decide_eq_true (ab h2:lo<=(l.length:Int)),Bool.true_and]
  ·rw [decide_eq_false (ae h2:¬ lo<=(l.length:Int)),Bool.false_and]
theorem l9 (l:List UInt8) (hl:l.length<=9223372036854775807):ax Tryz.prog 143 [SV.c (.string (S l))] (.bool (fx true l && (decide (1<=l.length) && decide (l.length<=12)))):=by
 refine aj af ah KU _ _ rfl rfl fun w=>?_
 refine .inl ⟨_,qf l 1 12 true hl,bv ?_,trivial⟩
 congr 2
 ·rw [Bool.eq_iff_iff];simp only [decide_eq_true_eq];omega
 ·rw [Bool.eq_iff_iff];simp only [decide_eq_true_eq];omega
def d8 (n:Int):Bool:=decide (1<=n) && decide (n<=1000000)
theorem mu (n:Int):ax Tryz.prog 146 [SV.c (.int .i64 n)] (.bool (d8 n)):=by
 refine aj af ah KR _ _ rfl rfl fun w=>?_
 refine ⟨fun h=>⟨bv ?_,trivial⟩,fun h=>⟨bv ?_,trivial⟩⟩
 ·rw [d8,decide_eq_true (ab h:n >= 1),Bool.true_and]
 ·rw [d8,decide_eq_false (ae h:¬ n >= 1),Bool.false_and]
def ii (r:RQ):Bool:=r.ok && (decide (r.p*1000000 % r.q=0) && (decide (0<=r.p) && decide (r.p<=1000000000*r.q)))
theorem Hu:(RQ.of 1000000000 1).ok=true:=by decide
theorem Hv:(RQ.of 1000000000 1).In:=⟨Nat.lt_of_lt_of_le (by decide:1000000000 < 18446744073709551616) j5,Nat.lt_of_lt_of_le (by decide:1 < 18446744073709551616) j5⟩
theorem GN (x:Int):decide (sgn x >= 0)=decide (0<=x):=by
 rw [Bool.eq_iff_iff];simp only [decide_eq_true_eq];unfold sgn;split
 ·omega
 ·split<;>omega
theorem yT (x y:Int):decide (ga x y<=0)=decide (x<=y):=by
 rw [Bool.eq_iff_iff];simp only [decide_eq_true_eq];unfold ga;split
 ·omega
 ·split<;>omega
theorem zm {z:Int} (h:z.natAbs<=1000000000000000):(wi z 6).2=0:=by
 have h1:=mn (k:=16) (N:=z.natAbs) (by omega) (by show z.natAbs < 10000000000000000;omega)
 unfold wi
 dsimp only
 have h2:(bV 6 (br z.natAbs)).length<=16:=by
  unfold bV;split
  ·simp only [List.length_append,List.length_replicate];omega
  ·omega
 rw [if_neg (by omega)]
theorem x5 {r:RQ} (hk:r.ok=true) (h0:0<=r.p) (h1:r.p<=1000000000*r.q):(jb r 6).2=if r.p*1000000 % r.q=0 then 0 else 32:=by
 unfold jb
 rw [hk,Bool.not_true,if_neg Bool.false_ne_true,if_neg (by omega)]
 rw [show ((tp (Int.toNat 6):Nat):Int)=1000000 from rfl,show Int.toNat 6=6 from rfl]
 by_cases h:r.p*1000000 % r.q=0
 ·rw [if_neg (by simpa using h),if_pos h]
  obtain ⟨k1,k2,k3,k4,k5⟩:=RQ.ok_bits hk
  apply zm
  have h3:0<=r.p*1000000 / r.q:=Int.ediv_nonneg (by omega) (by omega)
  have h4:r.p*1000000 / r.q<=1000000000000000:=by
   apply Int.ediv_le_of_le_mul k3
   omega
  omega
 ·rw [if_pos h,if_neg h]
theorem xG {r:RQ} (hk:r.ok=false):(jb r 6).2=20:=by
 unfold jb
 rw [hk,Bool.not_false,if_pos rfl]
theorem GV (r:RQ):((jb r 6).2 == 0 && (decide ((if r.ok then sgn r.p else 0) >= 0) && decide ((if r.ok && (RQ.of 1000000000 1).ok then ga (r.p*(RQ.of 1000000000 1).q) ((RQ.of 1000000000 1).p*r.q) else 0)<=0)))=ii r:=by
 unfold ii
 by_cases hk:r.ok=true
 ·rw [hk,Hu,RQ.of_p,RQ.of_q]
  simp only [Bool.and_true,if_true,Bool.true_and,GN,yT,Int.mul_one]
  by_cases h0:0<=r.p
  ·by_cases h1:r.p<=1000000000*r.q
   ·rw [x5 hk h0 h1]
    by_cases h:r.p*1000000 % r.q=0
    ·rw [if_pos h];simp [h]
    ·rw [if_neg h];simp [h]
   ·simp [h1]
  ·simp [h0]
 ·have hk:r.ok=false:=by simpa using hk
  rw [xG hk,hk];rfl
theorem zE {r:RQ} (hr:r.In):ax Tryz.prog 144 [SV.c (.agg r.A)] (.bool (ii r)):=by
 refine aj af ah KT _ _ rfl rfl fun w=>?_
 have hc:=Hp hr Hv
 have hw:ax Tryz.prog 153 [SV.c (.int .i64 1000000000)] (.agg (RQ.of 1000000000 1).A):=tq (by omega) (by omega)
 rw [<- GV]
 generalize (if r.ok && (RQ.of 1000000000 1).ok then ga (r.p*(RQ.of 1000000000 1).q) ((RQ.of 1000000000 1).p*r.q) else 0)=hi at *
 refine ⟨r.A_size,.inl ⟨_,GD hr 6,.inl ⟨_,Ee hr,.inl ⟨_,hw,.inl ⟨_,hc,by kernel_rfl,fun h=>⟨fun h2=>⟨bv ?_,trivial⟩,fun h2=>⟨bv ?_,trivial⟩⟩,fun h=>⟨nofun,fun _=>⟨bv ?_,trivial⟩⟩⟩⟩⟩⟩⟩
 ·have h:((jb r 6).2 == 0)=true:=h
  have h2:decide ((if r.ok then sgn r.p else 0) >= 0)=true:=h2
  rw [h,h2,Bool.true_and,Bool.true_and]
 ·have h2:decide ((if r.ok then sgn r.p else 0) >= 0)=false:=h2
  rw [h2,Bool.false_and,Bool.and_false]
 ·have h:((jb r 6).2 == 0)=false:=h
  rw [h,Bool.false_and]
structure AC where
 kind:Int
 key:List UInt8
 ins:List UInt8
 into:List UInt8
 day:Int
 num:Int
 den:Int
 cash:RQ
 cur:List UInt8
 known:Int
 void:Bool
def AC.pre (a:AC):Array Value:=#[.int .i64 a.kind,.string (S a.key),.string (S a.ins),.string (S a.into),.int .i64 a.day,.int .i64 a.num,.int .i64 a.den]
def AC.post (a:AC):Array Value:=#[.string (S a.cur),.int .i64 a.known,.bool a.void]
def AC.A (a:AC):Array Value:=a.pre++(a.cash.A++a.post)
structure AC.In (a:AC):Prop where
 cash:a.cash.In
 key:a.key.length<=9223372036854775807
 ins:a.ins.length<=9223372036854775807
 into:a.into.length<=9223372036854775807
 cur:a.cur.length<=9223372036854775807
 num : -9223372036854775808<=a.num/\a.num<=9223372036854775807
 den : -9223372036854775808<=a.den/\a.den<=9223372036854775807
theorem AC.size (a:AC):a.A.size=76:=by simp [AC.A,AC.pre,AC.post,RQ.A_size]
theorem AC.fits (a:AC):Fits a.A 76:=⟨a.size,by
 rw [AC.A,Array.all_append,Array.all_append,a.cash.A_fits.one]
 simp [AC.pre,AC.post,Value.oneCell']⟩
theorem AC.at_pre (a:AC) {i:Nat} (h:i < 7):a.A[i]? = a.pre[i]?:=by
 rw [AC.A,Array.getElem?_append_left (by simpa [AC.pre] using h)]
theorem AC.at_post (a:AC) {i:Nat} (h:73<=i):a.A[i]? = a.post[i - 73]?:=by
 rw [AC.A,Array.getElem?_append_right (by simp [AC.pre];omega),Array.getElem?_append_right (by simp [AC.pre,RQ.A_size];omega)]
 simp only [AC.pre,RQ.A_size]
 congr 1
theorem AC.g0 (a:AC):a.A[0]? = some (.int .i64 a.kind):=(a.at_pre (by omega)).trans rfl
theorem AC.g1 (a:AC):a.A[1]? = some (.string (S a.key)):=(a.at_pre (by omega)).trans rfl
theorem AC.g2 (a:AC):a.A[2]? = some (.string (S a.ins)):=(a.at_pre (by omega)).trans rfl
theorem AC.g3 (a:AC):a.A[3]? = some (.string (S a.into)):=(a.at_pre (by omega)).trans rfl
theorem AC.g4 (a:AC):a.A[4]? = some (.int .i64 a.day):=(a.at_pre (by omega)).trans rfl
theorem AC.g5 (a:AC):a.A[5]? = some (.int .i64 a.num):=(a.at_pre (by omega)).trans rfl
theorem AC.g6 (a:AC):a.A[6]? = some (.int .i64 a.den):=(a.at_pre (by omega)).trans rfl
theorem AC.g73 (a:AC):a.A[73]? = some (.string (S a.cur)):=(a.at_post (by omega)).trans rfl
theorem AC.g74 (a:AC):a.A[74]? = some (.int .i64 a.known):=(a.at_post (by omega)).trans rfl
theorem AC.g75 (a:AC):a.A[75]? = some (.bool a.void):=(a.at_post (by omega)).trans rfl
theorem yK {X Y Z:Array Value} {i n:Nat} (hX:X.size=i) (hY:Y.size=n):(X++(Y++Z)).extract i (i+n)=Y:=by
 apply Array.ext_getElem?
 intro j
 rw [Array.getElem?_extract]
 by_cases hj:j < n
 ·rw [if_pos (by simp;omega),Array.getElem?_append_right (by omega),Array.getElem?_append_left (by omega)]
  congr 1;omega
 ·rw [if_neg (by simp;omega),Array.getElem?_eq_none (by omega)]
theorem AC.gcash (a:AC):a.A.extract 7 (7+66)=a.cash.A:=yK rfl a.cash.A_size
theorem AC.gnum (a:AC):a.A.extract 7 (7+33)=iA a.cash.a a.cash.N:=by
 rw [AC.A,RQ.A,Array.append_assoc]
 exact yK rfl (bt _ _)
def RQ.beq (r s:RQ):Bool:=(r.a == s.a && (decide (r.N=s.N) && true)) && ((r.b == s.b && (decide (r.D=s.D) && true)) && true)
theorem RQ.beq_iff (r s:RQ):r.beq s=true↔r=s:=by
 obtain ⟨a,N,b,D⟩:=r
 obtain ⟨a',N',b',D'⟩:=s
 simp [RQ.beq]
 constructor
 ·rintro ⟨⟨h1,h2⟩,h3,h4⟩;exact ⟨h1,h2,h3,h4⟩
 ·rintro ⟨h1,h2,h3,h4⟩;exact ⟨⟨h1,h2⟩,h3,h4⟩
theorem mw {d:Nat} {r s:RQ} (hr:r.In) (hs:s.In) (w:World):(Op.equalIn (d+1+1+1+1) 59 (.agg r.A) (.agg s.A)).run Tryz.prog w=.ok (r.beq s) w:=by
 rw [run_equalIn_struct w (d+1+1+1) 59 _ _ (by simp only [Program.fieldsOf,Tryz.underlying59]) (by kernel_rfl)]
 rw [show (Tryz.prog.fieldsOf 59).toList=[⟨ "Num",57,0,false,"","",0⟩,⟨ "Den",57,33,false,"","",132⟩] from by simp only [Program.fieldsOf,Tryz.underlying59]]
 refine aU (a:=.agg (iA r.a r.N)) (b:=.agg (iA s.a s.N)) (by decide) ?_ ?_ (la hr.N hs.N w) fun _=>?_
 ·rw [eH tD rfl _ _ w];exact congrArg (fun x=>Result.ok (Value.agg x) w) r.cat_l
 ·rw [eH tD rfl _ _ w];exact congrArg (fun x=>Result.ok (Value.agg x) w) s.cat_l
 refine aU (a:=.agg (iA r.b r.D)) (b:=.agg (iA s.b s.D)) (by decide) ?_ ?_ (la hr.D hs.D w) fun _=>jQ
 ·rw [eH tD rfl _ _ w];exact congrArg (fun x=>Result.ok (Value.agg x) w) r.cat_r
 ·rw [eH tD rfl _ _ w];exact congrArg (fun x=>Result.ok (Value.agg x) w) s.cat_r
theorem uY:Tryz.prog.eqGuardType Tryz.prog.depth 59=false:=by kernel_rfl
theorem zL {E:Env} (hE:E.P=Tryz.prog) {r s:RQ} (hr:r.In) (hs:s.In) {u v:Operand}:bD E (do eqGuard .neq 59 u v (.agg r.A) (.agg s.A);binOp .neq 59 (.agg r.A) (.agg s.A)) (.bool (!(r.beq s))) :=
 jg (by rw [hE];exact uY) fun w=>by rw [hE];exact mw hr hs w
def AC.beq (a b:AC):Bool:=(a.kind == b.kind) && (decide (a.key=b.key) && (decide (a.ins=b.ins) && (decide (a.into=b.into) && ((a.day == b.day) && ((a.num == b.num) && ((a.den == b.den) && (a.cash.beq b.cash && (decide (a.cur=b.cur) && ((a.known == b.known) && ((a.void == b.void) && true))))))))))
theorem cH {d:Nat} (t:TypeId) (ht:Tryz.prog.underlying t=some (.int .i64)) (x y:Int) (w:World):(Op.equalIn (d+1) t (.int .i64 x) (.int .i64 y)).run Tryz.prog w=.ok (x == y) w:=run_equalIn_int w d t _ _ _ _ ht
theorem iN {d:Nat} (x y:List UInt8) (w:World):(Op.equalIn (d+1) 9 (.string (S x)) (.string (S y))).run Tryz.prog w=.ok (decide (x=y)) w:=by
 rw [<- dN];exact run_equalIn_string w d 9 _ _ Tryz.underlying9
theorem qB {d:Nat} {a b:AC} (ha:a.cash.In) (hb:b.cash.In) (w:World):(Op.equalIn (d+1+1+1+1+1) 61 (.agg a.A) (.agg b.A)).run Tryz.prog w=.ok (a.beq b) w:=by
 rw [run_equalIn_struct w (d+1+1+1+1) 61 _ _ (by simp only [Program.fieldsOf,Tryz.underlying61]) (by kernel_rfl)]
 rw [show (Tryz.prog.fieldsOf 61).toList=[⟨ "Kind",3,0,false,"","",0⟩,⟨ "Key",9,1,false,"","",8⟩,⟨ "Instrument",9,2,false,"","",24⟩,⟨ "Into",9,3,false,"","",40⟩,⟨ "Day",3,4,false,"","",56⟩,⟨ "Num",3,5,false,"","",64⟩,⟨ "Den",3,6,false,"","",72⟩,⟨ "Cash",59,7,false,"","",80⟩,⟨ "Currency",9,73,false,"","",344⟩,⟨ "Known",3,74,false,"","",360⟩,⟨ "Void",4,75,false,"","",368⟩] from by simp only [Program.fieldsOf,Tryz.underlying61]]
 refine aU (by decide) (ar ee rfl a.g0 w) (ar ee rfl b.g0 w) (cH _ Tryz.underlying3 _ _ w) fun _=>?_
 refine aU (by decide) (ar jd rfl a.g1 w) (ar jd rfl b.g1 w) (iN _ _ w) fun _=>?_
 refine aU (by decide) (ar jd rfl a.g2 w) (ar jd rfl b.g2 w) (iN _ _ w) fun _=>?_
 refine aU (by decide) (ar jd rfl a.g3 w) (ar jd rfl b.g3 w) (iN _ _ w) fun _=>?_
 refine aU (by decide) (ar ee rfl a.g4 w) (ar ee rfl b.g4 w) (cH _ Tryz.underlying3 _ _ w) fun _=>?_
 refine aU (by decide) (ar ee rfl a.g5 w) (ar ee rfl b.g5 w) (cH _ Tryz.underlying3 _ _ w) fun _=>?_
 refine aU (by decide) (ar ee rfl a.g6 w) (ar ee rfl b.g6 w) (cH _ Tryz.underlying3 _ _ w) fun _=>?_
 refine aU (a:=.agg a.cash.A) (b:=.agg b.cash.A) (by decide) ?_ ?_ (mw ha hb w) fun _=>?_
 ·rw [eH FN rfl _ _ w];exact congrArg (fun x=>Result.ok (Value.agg x) w) a.gcash
 ·rw [eH FN rfl _ _ w];exact congrArg (fun x=>Result.ok (Value.agg x) w) b.gcash
 refine aU (by decide) (ar jd rfl a.g73 w) (ar jd rfl b.g73 w) (iN _ _ w) fun _=>?_
 refine aU (by decide) (ar ee rfl a.g74 w) (ar ee rfl b.g74 w) (cH _ Tryz.underlying3 _ _ w) fun _=>?_
 refine aU (by decide) (ar zo rfl a.g75 w) (ar zo rfl b.g75 w) (run_equalIn_bool' w _ 4 _ _ Tryz.underlying4) fun _=>jQ
theorem sI:Tryz.prog.eqGuardType Tryz.prog.depth 61=false:=by kernel_rfl
theorem pX {E:Env} (hE:E.P=Tryz.prog) {a b:AC} (ha:a.cash.In) (hb:b.cash.In) {u v:Operand}:bD E (do eqGuard .eql 61 u v (.agg a.A) (.agg b.A);binOp .eql 61 (.agg a.A) (.agg b.A)) (.bool (a.beq b)) :=
 jh (by rw [hE];exact sI) fun w=>by rw [hE];exact qB ha hb w
def AC.nil (key:List UInt8) (known:Int):AC:=⟨0,key,[],[],0,0,0,⟨false,0,false,0⟩,[],known,true⟩
theorem rl (key:List UInt8) (known:Int) {pl:List (Nat×Nat)} (hpl:pl=[(0,1),(1,1),(2,1),(3,1),(4,1),(5,1),(6,1),(7,66),(73,1),(74,1),(75,1)]):Instr.fill (fun k=>pl[k]?) eQ.zero [(1,.string (S key)),(9,.int .i64 known),(10,.bool true)]=some (AC.nil key known).A:=by
 subst hpl
 kernel_rfl
theorem rm {A Z:Array Value} {n:Nat} (hA:A.size=n) (hZ:Z.size=n) {pl:List (Nat×Nat)} (hpl:pl=[(0,n)]):Instr.fill (fun k=>pl[k]?) Z [(0,.agg A)]=some A:=by
 subst hpl
 have:=mt (pl:=fun k=>[(0,n)][k]?) (vs:=[.agg A]) (Z:=Z) ⟨by simp [Value.cells,hA],trivial⟩ (by simp [iR,Value.cells,hA,hZ])
 rw [show iR [.agg A]=A by simp [iR,Value.cells]] at this
 exact this
def cC (l:List UInt8):Bool:=fx true l && (decide (1<=l.length) && decide (l.length<=12))
def dL (l:List UInt8):Bool:=fx false l && (decide ((3:Int)<=l.length) && decide ((l.length:Int)<=3))
def dJ (a:AC):Bool:=!(((a.key.length:Nat):Int) == 0) && (!decide (((a.key.length:Nat):Int) > 64) && (!decide (a.known < 1) && !decide (a.known > 2147483647)))
def cz (a:AC):Bool:=cC a.ins && (!decide (a.day < 0) && (!decide (a.day > 73048) && (ii a.cash && dL a.cur)))
def bC (a:AC):Bool :=
 if a.kind=1 then decide (a.into=[]) && (d8 a.num && d8 a.den)
 else if a.kind=2 then decide (a.into=[]) && ((a.num == 0) && ((a.den == 0) && decide (sgn a.cash.p > 0)))
 else if a.kind=3 then cC a.into && (!decide (a.into=a.ins) && (d8 a.num && d8 a.den))
 else false
def bh (a:AC):Bool:=dJ a && (if a.void then a.beq (.nil a.key a.known) else cz a && bC a)
theorem Ch:(⟨false,0,false,0⟩:RQ).In:=⟨cB,cB⟩
theorem xA {a:AC} (ha:a.In):ax Tryz.prog 112 [SV.c (.agg a.A)] (.bool (bh a)):=by
 refine aj af ah Ln _ _ rfl rfl fun w=>?_
 have no:dJ a=false->dW [.bool false]=.bool (bh a):=fun h=>by rw [bh,h];rfl
 have len:∀ (E:Env),E.P=Tryz.prog->∀ (ty:TypeId) (l:List UInt8) (cs:Array Bool) (w:World),OldW E w->(builtin .len #[9] ty cs #[.string (S l)]).run E.P w=.ok (.value (.int .i64 (l.length:Nat))) w:=fun E hE ty l cs w _=>by rw [hE];exact aw Tryz.underlying9 w
 refine ⟨a.size,a.fits,_,a.g1,_,len _ rfl _ _ _,fun h1=>⟨_,a.g1,_,len _ rfl _ _ _,fun h2=>⟨_,a.g74,fun h3=>⟨_,a.g74,fun h4=>?_,fun h4=>?_⟩,fun h3=>?_⟩,fun h2=>?_⟩,fun h1=>?_⟩
 ·have h4:decide (a.known > 2147483647)=true:=h4
  refine ⟨no ?_,trivial⟩
  rw [dJ,h4];simp
 ·have h1:(((a.key.length:Nat):Int) == 0)=false:=h1
  have h2:decide (((a.key.length:Nat):Int) > 64)=false:=h2
  have h3:decide (a.known < 1)=false:=h3
  have h4:decide (a.known > 2147483647)=false:=h4
  have hh:dJ a=true:=by rw [dJ,h1,h2,h3,h4];rfl
  have va:bh a=(if a.void then a.beq (.nil a.key a.known) else cz a && bC a):=by rw [bh,hh,Bool.true_and]
  rw [va]
  refine ⟨_,a.g75,fun h5=>?_,fun h5=>?_⟩
  ·have h5:a.void=true:=h5
   rw [if_pos h5]
   exact ⟨_,a.g1,_,a.g74,_,rl a.key a.known rfl,_,pX rfl ha.cash Ch,rfl,trivial⟩
  ·have h5:¬ (a.void=true):=by intro e;rw [e] at h5;cases h5
   rw [if_neg h5]
   have nob:cz a=false->dW [.bool false]=.bool (cz a && bC a):=fun h=>by rw [h];rfl
   have hp:=zE ha.cash
   have hc:=qf a.cur 3 3 false ha.cur
   have hi:ax Tryz.prog 143 [SV.c (.string (S a.ins))] (.bool (cC a.ins)):=l9 a.ins ha.ins
   have hi2:ax Tryz.prog 143 [SV.c (.string (S a.into))] (.bool (cC a.into)):=l9 a.into ha.into
   have hc:ax Tryz.prog 145 [SV.c (.string (S a.cur)),SV.c (.int .i64 3),SV.c (.int .i64 3),SV.c (.bool false)] (.bool (dL a.cur)):=hc
   have hs:=fS ha.cash.num
   refine ⟨_,a.g2,.inl ⟨_,hi,fun q1=>⟨_,a.g4,fun q2=>⟨_,a.g4,fun q3=>⟨by decide,_,a.gcash,.inl ⟨_,hp,fun q4=>⟨_,a.g73,.inl ⟨_,hc,fun q5=>?_,fun q5=>?_⟩⟩,fun q4=>?_⟩⟩,fun q3=>?_⟩,fun q2=>?_⟩,fun q1=>?_⟩⟩
   ·have q5:dL a.cur=false:=bnt q5
    refine ⟨nob ?_,trivial⟩
    rw [cz,q5];simp
   ·have q1:cC a.ins=true:=bR q1
    have q2:decide (a.day < 0)=false:=q2
    have q3:decide (a.day > 73048)=false:=q3
    have q4:ii a.cash=true:=bR q4
    have q5:dL a.cur=true:=bR q5
    have hb:cz a=true:=by rw [cz,q1,q2,q3,q4,q5];rfl
    rw [hb,Bool.true_and]
    have ein:((S a.into).toList == (S []).toList)=decide (a.into=[]):=dN _ []
    have ens:((S a.into).toList == (S a.ins).toList)=decide (a.into=a.ins):=dN _ _
    refine ⟨_,a.g0,fun k1=>⟨_,a.g3,fun k2=>⟨_,a.g5,.inl ⟨_,mu _,fun k3=>⟨_,a.g6,.inl ⟨_,mu _,bv ?_,trivial⟩⟩,fun k3=>⟨bv ?_,trivial⟩⟩⟩,fun k2=>⟨nofun,fun _=>⟨bv ?_,trivial⟩⟩⟩,fun k1=>⟨fun m1=>⟨_,a.g3,fun k2=>⟨_,a.g5,fun k3=>⟨_,a.g6,fun k4=>⟨by decide,_,a.gnum,.inl ⟨_,hs,bv ?_,trivial⟩⟩,fun k4=>⟨bv ?_,trivial⟩⟩,fun k3=>⟨nofun,fun _=>⟨bv ?_,trivial⟩⟩⟩,fun k2=>⟨nofun,fun _=>⟨nofun,fun _=>⟨bv ?_,trivial⟩⟩⟩⟩,fun m1=>⟨fun n1=>⟨_,a.g3,.inl ⟨_,hi2,fun k2=>⟨_,a.g3,_,a.g2,fun k3=>⟨_,a.g5,.inl ⟨_,mu _,fun k4=>⟨_,a.g6,.inl ⟨_,mu _,bv ?_,trivial⟩⟩,fun k4=>⟨bv ?_,trivial⟩⟩⟩,fun k3=>⟨nofun,fun _=>⟨bv ?_,trivial⟩⟩⟩,fun k2=>⟨nofun,fun _=>⟨nofun,fun _=>⟨bv ?_,trivial⟩⟩⟩⟩⟩,fun n1=>⟨bv ?_,trivial⟩⟩⟩⟩
    ·have k2:=ein.symm.trans k2
     have k1:a.kind=1:=by simpa using k1
     have k3:d8 a.num=true:=k3
     rw [bC,if_pos k1,k2,k3,Bool.true_and,Bool.true_and]
    ·have k2:=ein.symm.trans k2
     have k1:a.kind=1:=by simpa using k1
     have k3:d8 a.num=false:=k3
     rw [bC,if_pos k1,k3,Bool.false_and,Bool.and_false]
    ·have k2:=ein.symm.trans k2
     have k1:a.kind=1:=by simpa using k1
     rw [bC,if_pos k1,k2];rfl
    ·have k2:=ein.symm.trans k2
     have k1:¬ a.kind=1:=by intro e;rw [e] at k1;simp at k1
     have m1:a.kind=2:=by simpa using m1
     have k3:(a.num == 0)=true:=k3
     have k4:(a.den == 0)=true:=k4
     rw [bC,if_neg k1,if_pos m1,k2,k3,k4,Bool.true_and,Bool.true_and,Bool.true_and]
    ·have k1:¬ a.kind=1:=by intro e;rw [e] at k1;simp at k1
     have m1:a.kind=2:=by simpa using m1
     have k4:(a.den == 0)=false:=k4
     rw [bC,if_neg k1,if_pos m1,k4,Bool.false_and,Bool.and_false,Bool.and_false]
    ·have k1:¬ a.kind=1:=by intro e;rw [e] at k1;simp at k1
     have m1:a.kind=2:=by simpa using m1
     have k3:(a.num == 0)=false:=k3
     rw [bC,if_neg k1,if_pos m1,k3,Bool.false_and,Bool.and_false]
    ·have k2:=ein.symm.trans k2
     have k1:¬ a.kind=1:=by intro e;rw [e] at k1;simp at k1
     have m1:a.kind=2:=by simpa using m1
     rw [bC,if_neg k1,if_pos m1,k2];rfl
    ·have k1:¬ a.kind=1:=by intro e;rw [e] at k1;simp at k1
     have m1:¬ a.kind=2:=by intro e;rw [e] at m1;simp at m1
     have n1:a.kind=3:=by simpa using n1
     have k2:cC a.into=true:=k2
     have k3:=bnt (ens ▸ k3)
     have k4:d8 a.num=true:=k4
     rw [bC,if_neg k1,if_neg m1,if_pos n1,k2,k3,k4];rfl
    ·have k1:¬ a.kind=1:=by intro e;rw [e] at k1;simp at k1
     have m1:¬ a.kind=2:=by intro e;rw [e] at m1;simp at m1
     have n1:a.kind=3:=by simpa using n1
     have k4:d8 a.num=false:=k4
     rw [bC,if_neg k1,if_neg m1,if_pos n1,k4,Bool.false_and,Bool.and_false,Bool.and_false]
    ·have k1:¬ a.kind=1:=by intro e;rw [e] at k1;simp at k1
     have m1:¬ a.kind=2:=by intro e;rw [e] at m1;simp at m1
     have n1:a.kind=3:=by simpa using n1
     have k3:=bR (ens ▸ k3)
     rw [bC,if_neg k1,if_neg m1,if_pos n1,k3,Bool.not_true,Bool.false_and,Bool.and_false]
    ·have k1:¬ a.kind=1:=by intro e;rw [e] at k1;simp at k1
     have m1:¬ a.kind=2:=by intro e;rw [e] at m1;simp at m1
     have n1:a.kind=3:=by simpa using n1
     have k2:cC a.into=false:=k2
     rw [bC,if_neg k1,if_neg m1,if_pos n1,k2];rfl
    ·have k1:¬ a.kind=1:=by intro e;rw [e] at k1;simp at k1
     have m1:¬ a.kind=2:=by intro e;rw [e] at m1;simp at m1
     have n1:¬ a.kind=3:=by intro e;rw [e] at n1;simp at n1
     rw [bC,if_neg k1,if_neg m1,if_neg n1]
   ·have q4:ii a.cash=false:=bnt q4
    refine ⟨fun _=>⟨nob ?_,trivial⟩,nofun⟩
    rw [cz,q4];simp
   ·have q3:decide (a.day > 73048)=true:=q3
    refine ⟨nofun,fun _=>⟨fun _=>⟨nob ?_,trivial⟩,nofun⟩⟩
    rw [cz,q3];simp
   ·have q2:decide (a.day < 0)=true:=q2
    refine ⟨nofun,fun _=>⟨nofun,fun _=>⟨fun _=>⟨nob ?_,trivial⟩,nofun⟩⟩⟩
    rw [cz,q2];simp
   ·have q1:cC a.ins=false:=bnt q1
    refine ⟨nofun,fun _=>⟨nofun,fun _=>⟨nofun,fun _=>⟨fun _=>⟨nob ?_,trivial⟩,nofun⟩⟩⟩⟩
    rw [cz,q1];rfl
 ·have h3:decide (a.known < 1)=true:=h3
  refine ⟨fun _=>⟨no ?_,trivial⟩,nofun⟩
  rw [dJ,h3];simp
 ·have h2:decide (((a.key.length:Nat):Int) > 64)=true:=h2
  refine ⟨nofun,fun _=>⟨fun _=>⟨no ?_,trivial⟩,nofun⟩⟩
  rw [dJ,h2];simp
 ·have h1:(((a.key.length:Nat):Int) == 0)=true:=h1
  refine ⟨nofun,fun _=>⟨nofun,fun _=>⟨fun _=>⟨no ?_,trivial⟩,nofun⟩⟩⟩
  rw [dJ,h1];simp
def AC.zero:AC:=⟨0,[],[],[],0,0,0,⟨false,0,false,0⟩,[],0,false⟩
def ofA (a:AC):AC×Int:=if a.void || !bh a then (.zero,170) else (a,0)
theorem oH:qF.zero=AC.zero.A:=by kernel_rfl
theorem y8:qF.zero.size=76:=by kernel_rfl
theorem vU:Bk.zero.size=76:=by kernel_rfl
theorem Mn {a:AC} (ha:a.In):ax Tryz.prog 120 [SV.c (.agg a.A)] (.tuple #[.agg (ofA a).1.A,.int .i64 (ofA a).2]):=by
 refine aj af ah Lg _ _ rfl rfl fun w=>?_
 have bad:a.void=true\/bh a=false->dW [.agg qF.zero,.int .i64 170]=.tuple #[.agg (ofA a).1.A,.int .i64 (ofA a).2]:=fun h=>by
  have:ofA a=(.zero,170):=by
   unfold ofA
   rcases h with h | h<;>rw [h]<;>simp
  rw [this,oH];rfl
 refine ⟨a.size,_,rm a.size vU rfl,a.fits,_,a.g75,fun h1=>.inl ⟨_,xA ha,fun h2=>⟨qF.zero,rfl,by rw [oH];exact AC.zero.fits,bad (.inr (bnt h2)),trivial⟩,fun h2=>⟨_,rm a.size y8 rfl,a.fits,?_,trivial⟩⟩,fun h1=>⟨fun _=>⟨qF.zero,rfl,by rw [oH];exact AC.zero.fits,bad (.inl h1),trivial⟩,nofun⟩⟩
 have h1:a.void=false:=h1
 have h2:=bnf h2
 have:ofA a=(a,0):=by unfold ofA;rw [h1,h2];simp
 rw [this];rfl
def gB (a:AC):List UInt8:=if a.kind=3 then a.into else a.ins
theorem G6 (a:AC):ax Tryz.prog 125 [SV.c (.agg a.A)] (.string (S (gB a))):=by
 refine aj af ah Lb _ _ rfl rfl fun w=>?_
 refine ⟨a.size,_,a.g0,fun h=>⟨_,a.g3,?_,trivial⟩,fun h=>⟨_,a.g2,?_,trivial⟩⟩
 ·have h:a.kind=3:=by simpa using h
  rw [gB,if_pos h];rfl
 ·have h:¬ a.kind=3:=by intro e;rw [e] at h;simp at h
  rw [gB,if_neg h];rfl
def ig (a:AC) (q:Int):Int:=if a.kind=2 then q else q*a.num / a.den
def dV (a:AC) (q:Int):RQ:=if a.kind=2 then .of q 1 else (mkQ (q*a.num % a.den) a.den).1
theorem uq (a:AC) {q:Int} (h0:0<=q) (h1:q<=1000000000000000):(dV a q).In:=by
 unfold dV;split
 ·exact ⟨cW (by omega) (by omega),cW (n:=1) (by omega) (by omega)⟩
 ·exact sw _ _
theorem B5 {a:AC} {q:Int} (h0:0<=q) (h1:q<=1000000000000000) (hk:a.kind=2\/(1<=a.num/\a.num<=1000000/\1<=a.den/\a.den<=1000000)):ax Tryz.prog 121 [SV.c (.agg a.A),SV.c (.int .i64 q)] (.tuple #[.agg (eA (ig a q)),.agg (dV a q).A]):=by
 refine aj af ah Lf _ _ rfl rfl fun w=>?_
 have hq:=d6 q (by omega) (by omega)
 refine ⟨a.size,.inl ⟨_,hq,ak _,_,a.g0,fun h=>?_,fun h=>?_⟩⟩
 ·have h:a.kind=2:=by simpa using h
  rw [ig,dV,if_pos h,if_pos h]
  exact .inl ⟨_,tq (by omega) (by omega),ak _,RQ.A_fits _,by kernel_rfl,rfl,trivial⟩
 ·have h:¬ a.kind=2:=by intro e;rw [e] at h;simp at h
  rw [ig,dV,if_neg h,if_neg h]
  obtain ⟨n1,n2,d1,d2⟩:=hk.resolve_left h
  have hn:=d6 a.num (by omega) (by omega)
  have hd:=d6 a.den (by omega) (by omega)
  have hb:0<=q*a.num/\q*a.num<=1000000000000000*1000000:=⟨Int.mul_nonneg h0 (by omega),Int.mul_le_mul h1 n2 (by omega) (by omega)⟩
  have big:1000000000000000000000 < BB ^ 32:=Nat.lt_of_lt_of_le (by decide:1000000000000000000000 < BB ^ 3) (Nat.pow_le_pow_right bz (by omega))
  have hm:=Cm (aJ (cW (n:=q) (by omega) (by omega))) (aJ (cW (n:=a.num) (by omega) (by omega)))
  rw [eY,if_pos (by omega)] at hm
  have hdd:=aJ (cW (n:=a.den) (by omega) (by omega))
  have hdm:=p5 (aJ (z:=q*a.num) (by omega)) hdd (by omega)
  have hr:(q*a.num % a.den).natAbs < BB ^ 32:=by
   have:=Int.emod_nonneg (q*a.num) (show a.den≠0 by omega)
   have:=Int.emod_lt_of_pos (q*a.num) (show 0 < a.den by omega)
   omega
  have hmk:=Ct (aJ hr) hdd
  exact ⟨_,a.g5,.inl ⟨_,hn,.inl ⟨_,hm,ak _,by kernel_rfl,_,a.g6,.inl ⟨_,hd,.inl ⟨_,hdm,ak _,ak _,by kernel_rfl,_,a.g6,.inl ⟨_,hd,.inl ⟨_,hmk,RQ.A_fits _,by kernel_rfl,ak _,RQ.A_fits _,by kernel_rfl,rfl,trivial⟩⟩⟩⟩⟩⟩⟩
structure EF where
 ins:List UInt8
 qty:Int
 cash:Int
def EF.A (x:EF):Array Value:=#[.string (S x.ins),.int .i64 x.qty,.int .i64 x.cash]
theorem EF.fits (x:EF):Fits x.A 3:=⟨rfl,by simp [EF.A,Value.oneCell']⟩
def EF.zero:EF:=⟨[],0,0⟩
theorem E7 (x:EF) {pl:List (Nat×Nat)} (hpl:pl=[(0,1),(1,1),(2,1)]):Instr.fill (fun k=>pl[k]?) eB.zero [(0,.string (S x.ins)),(1,.int .i64 x.qty),(2,.int .i64 x.cash)]=some x.A:=by
 subst hpl;rfl
def fA (a:AC):Bool:=!a.void && bh a
theorem EH {a:AC} (h:fA a=false):ofA a=(.zero,170):=by
 unfold ofA;unfold fA at h
 cases hv:a.void<;>cases hb:bh a<;>simp_all
theorem Cg {a:AC} (h:fA a=true):ofA a=(a,0):=by
 unfold ofA;unfold fA at h
 cases hv:a.void<;>cases hb:bh a<;>simp_all
theorem d7 {n:Int} (h:d8 n=true):1<=n/\n<=1000000:=by
 unfold d8 at h
 simpa using h
theorem qo {a:AC} (h:fA a=true):(a.kind=2/\0 < a.cash.p)\/((a.kind=1\/a.kind=3)/\1<=a.num/\a.num<=1000000/\1<=a.den/\a.den<=1000000):=by
 unfold fA bh at h
 simp only [Bool.and_eq_true,Bool.not_eq_true'] at h
 obtain ⟨hv,-,h⟩:=h
 rw [hv,if_neg Bool.false_ne_true] at h
 simp only [Bool.and_eq_true] at h
 obtain ⟨-,h⟩:=h
 unfold bC at h
 by_cases h1:a.kind=1
 ·rw [if_pos h1] at h
  simp only [Bool.and_eq_true] at h
  exact .inr ⟨.inl h1,(d7 h.2.1).1,(d7 h.2.1).2,(d7 h.2.2).1,(d7 h.2.2).2⟩
 ·rw [if_neg h1] at h
  by_cases h2:a.kind=2
  ·rw [if_pos h2] at h
   simp only [Bool.and_eq_true,decide_eq_true_eq] at h
   refine .inl ⟨h2,?_⟩
   have:=h.2.2.2
   unfold sgn at this
   split at this
   ·omega
   ·split at this<;>omega
  ·rw [if_neg h2] at h
   by_cases h3:a.kind=3
   ·rw [if_pos h3] at h
    simp only [Bool.and_eq_true] at h
    exact .inr ⟨.inr h3,(d7 h.2.2.1).1,(d7 h.2.2.1).2,(d7 h.2.2.2).1,(d7 h.2.2.2).2⟩
   ·rw [if_neg h3] at h;cases h
def aF (a:AC) (q:Int):EF×Int :=
 if fA a=false then (.zero,170)
 else if q < 0\/q > 1000000000000000 then (.zero,171)
 else if ig a q > 1000000000000000 then (.zero,171)
 else if (lC (fD (jZ (dV a q) a.cash).1 2 6)).2≠0 then (.zero,(lC (fD (jZ (dV a q) a.cash).1 2 6)).2)
 else (⟨gB a,ig a q,(lC (fD (jZ (dV a q) a.cash).1 2 6)).1⟩,0)
def GR (x:EF×Int):Value:=.tuple #[.agg x.1.A,.int .i64 x.2]
theorem sk {a:AC} {q:Int} (h0:0<=q) (h1:q<=1000000000000000) (hk:a.kind=2\/(1<=a.num/\a.num<=1000000/\1<=a.den/\a.den<=1000000)):0<=ig a q/\ig a q<=1000000000000000000000:=by
 unfold ig;split
 ·omega
 ·rename_i h
  obtain ⟨n1,n2,d1,d2⟩:=hk.resolve_left h
  have hb:0<=q*a.num/\q*a.num<=1000000000000000*1000000:=⟨Int.mul_nonneg h0 (by omega),Int.mul_le_mul h1 n2 (by omega) (by omega)⟩
  refine ⟨Int.ediv_nonneg hb.1 (by omega),?_⟩
  have:=Int.ediv_le_self a.den hb.1
  omega
theorem Fz {a:AC} (ha:a.In) (q:Int):ax Tryz.prog 87 [SV.c (.agg a.A),SV.c (.int .i64 q)] (GR (aF a q)):=by
 refine aj af ah MH _ _ rfl rfl fun w=>?_
 have hof:=Mn ha
 cases hk:fA a with
 | false =>
  rw [EH hk] at hof
  refine ⟨a.size,.inl ⟨_,hof,AC.zero.fits,fun _=>⟨eB.zero,rfl,EF.zero.fits,?_,trivial⟩,nofun⟩⟩
  rw [aF,if_pos hk];rfl
 | true =>
  rw [Cg hk] at hof
  have hk2:¬ (fA a=false):=by rw [hk];simp
  rw [aF,if_neg hk2]
  refine ⟨a.size,.inl ⟨_,hof,a.fits,nofun,fun _=>⟨fun h1=>⟨fun h2=>⟨eB.zero,rfl,EF.zero.fits,?_,trivial⟩,fun h2=>?_⟩,fun h1=>⟨fun _=>⟨eB.zero,rfl,EF.zero.fits,?_,trivial⟩,nofun⟩⟩⟩⟩
  ·have h2:=ab h2
   rw [if_pos (.inr h2)];rfl
  ·have h1:=ae h1
   have h2:=ae h2
   rw [if_neg (by omega)]
   have hkk:a.kind=2\/(1<=a.num/\a.num<=1000000/\1<=a.den/\a.den<=1000000):=by
    rcases qo hk with h | h
    ·exact .inl h.1
    ·exact .inr h.2
   have hpc:=B5 (a:=a) (q:=q) (by omega) (by omega) hkk
   obtain ⟨b1,b2⟩:=sk (a:=a) (q:=q) (by omega) (by omega) hkk
   have hpi:=uq a (q:=q) (by omega) (by omega)
   have big:1000000000000000000000 < BB ^ 32:=Nat.lt_of_lt_of_le (by decide:1000000000000000000000 < BB ^ 3) (Nat.pow_le_pow_right bz (by omega))
   have ht:=xH (aJ (z:=ig a q) (by omega))
   have hm:=GY hpi ha.cash
   have hr:=wx (ym (dV a q) a.cash) 2 6
   have hin:=G6 a
   generalize lC (fD (jZ (dV a q) a.cash).1 2 6)=x at *
   obtain ⟨c,e⟩:=x
   have hr:ax Tryz.prog 124 [SV.c (.agg (jZ (dV a q) a.cash).1.A),SV.c (.int .i64 2),SV.c (.int .i64 6)] (.tuple #[.int .i64 c,.int .i64 e]):=hr
   by_cases hn:ig a q > 1000000000000000
   ·rw [if_pos hn]
    by_cases hz : -9223372036854775808<=ig a q/\ig a q<=9223372036854775807
    ·rw [cn,if_pos hz] at ht
     refine .inl ⟨_,hpc,ak _,RQ.A_fits _,.inl ⟨_,ht,fun _=>⟨fun _=>⟨eB.zero,rfl,EF.zero.fits,rfl,trivial⟩,fun h=>?_⟩,nofun⟩⟩
     exact absurd hn (ae h)
    ·rw [cn,if_neg hz] at ht
     exact .inl ⟨_,hpc,ak _,RQ.A_fits _,.inl ⟨_,ht,nofun,fun _=>⟨fun _=>⟨eB.zero,rfl,EF.zero.fits,rfl,trivial⟩,nofun⟩⟩⟩
   ·rw [if_neg hn]
    rw [cn,if_pos (by omega)] at ht
    refine .inl ⟨_,hpc,ak _,RQ.A_fits _,.inl ⟨_,ht,fun _=>⟨fun h=>absurd (ab h) hn,fun _=>⟨by decide,_,a.gcash,.inl ⟨_,hm,RQ.A_fits _,.inl ⟨_,hr,fun h3=>⟨eB.zero,rfl,EF.zero.fits,?_,trivial⟩,fun h3=>.inl ⟨_,hin,_,E7 ⟨gB a,ig a q,c⟩ rfl,EF.fits _,?_,trivial⟩⟩⟩⟩⟩,nofun⟩⟩
    ·have h3:e≠0:=by simpa using h3
     rw [if_pos (show (c,e).2≠0 from h3)];rfl
    ·have h3:¬ (e≠0):=by simpa using h3
     rw [if_neg (show ¬ (c,e).2≠0 from h3)];rfl
  ·have h1:=ab h1
   rw [if_pos (.inl h1)];rfl
theorem iK {N n:Nat} (hu:IsUsed N n) (hN:N < BB ^ 32):ax Tryz.prog 182 [SV.c (.agg (mA N))] (.int .i64 n):=by
 refine aj af ah Kq _ _ rfl rfl fun w=>?_
 refine ⟨bY _,fun k f m=>k<=32/\N < BB ^ k/\f=[(1,SV.ptr 1 0),(3,SV.c (.int .i64 k))]/\m=[(1,Blk.row 55 32 (mA N))],32,⟨_,_,⟨by omega,hN,rfl,rfl⟩,⟨rfl,rfl,trivial⟩,⟨rfl,trivial⟩,rfl⟩,?_⟩
 rintro k f m ⟨hk,hlt,rfl,rfl⟩
 refine ⟨fun h=>?_,fun h=>?_⟩
 ·have h1:(0:Int) < k:=ab h
  have e:IntKind.i64.wrap ((k:Int) - 1)=((k - 1:Nat):Int):=by rw [i64_in (by omega)];omega
  have hg:(mA N)[(IntKind.i64.wrap ((k:Int) - 1)).toNat]? = some (.int .u32 ((dg N (k - 1):Nat):Int)):=by rw [e];exact bo (by omega)
  refine ⟨by rw [e];omega,by rw [e];show ((k - 1:Nat):Int) < 32;omega,_,hg,fun h2=>?_,fun h2=>?_⟩
  ·have h3:dg N (k - 1)=0:=by have:((dg N (k - 1):Nat):Int)=0:=by simpa using h2
                              omega
   exact ⟨k - 1,_,_,by omega,⟨by omega,nl (by rw [show k - 1+1=k by omega];exact hlt) h3,rfl,rfl⟩,⟨rfl,ag e,trivial⟩,⟨rfl,trivial⟩,rfl⟩
  ·have h3:dg N (k - 1)≠0:=by intro h;rw [h] at h2;simp at h2
   have:k=n:=IsUsed.unique (xD hlt (.inr h3)) hu
   exact ⟨by rw [this];rfl,trivial⟩
 ·refine ⟨nofun,fun _=>?_⟩
  have h1:¬ ((k:Int) > 0):=ae h
  have:k=n:=IsUsed.unique ⟨hlt,fun hk=>absurd hk (by omega)⟩ hu
  exact ⟨by rw [this];rfl,trivial⟩
theorem zk {N n:Nat} (hu:IsUsed N n):decide (N=0)=(((n:Nat):Int) == 0):=by
 rw [Bool.eq_iff_iff]
 simp only [decide_eq_true_eq,beq_iff_eq]
 constructor
 ·intro h;subst h
  rcases Nat.eq_zero_or_pos n with e | e
  ·rw [e];rfl
  ·have h2:=hu.2 e
   have:=bq (n - 1)
   omega
 ·intro h
  have:n=0:=by omega
  subst this
  have:=hu.1;simp at this;omega
theorem ke {N:Nat} (hN:N < BB ^ 32):ax Tryz.prog 184 [SV.c (.agg (mA N))] (.bool (decide (N=0))):=by
 obtain ⟨n,hn,hu⟩:=dm hN
 refine aj af ah Ko _ _ rfl rfl fun w=>?_
 rw [zk hu]
 exact ⟨bY _,.inl ⟨_,iK hu hN,rfl,trivial⟩⟩
theorem eL (neg:Bool) {N:Nat} (hN:N < BB ^ 32):ax Tryz.prog 183 [SV.c (.bool neg),SV.c (.agg (mA N))] (.agg (eA (zN neg N))):=by
 have e:eA (zN neg N)=iA (neg && !decide (N=0)) N:=by unfold eA;rw [bK,vV]
 rw [e]
 refine aj af ah Kp _ _ rfl rfl fun w=>?_
 refine ⟨bY _,fun h=>.inl ⟨_,ke hN,_,mr rfl rfl,fI _ _,by kernel_rfl,?_,trivial⟩,fun h=>⟨_,mr rfl rfl,fI _ _,by kernel_rfl,?_,trivial⟩⟩
 ·have h:neg=true:=h
  rw [h];rfl
 ·have h:neg=false:=h
  rw [h];rfl
theorem nw {N M:Nat} (hN:N < BB ^ 32) (hM:M < BB ^ 32):ax Tryz.prog 225 [SV.c (.agg (mA N)),SV.c (.agg (mA M))] (.int .i64 (iQ N M)):=by
 refine aj af ah JP _ _ rfl rfl fun w=>?_
 refine ⟨bY _,bY _,fun k f m=>k<=32/\N / BB ^ k=M / BB ^ k/\f=[(2,SV.ptr 2 0),(3,SV.ptr 3 0),(5,SV.c (.int .i64 ((k:Int) - 1)))]/\m=[(2,Blk.row 55 32 (mA N)),(3,Blk.row 55 32 (mA M))],32,⟨_,_,⟨by omega,by rw [Nat.div_eq_of_lt hN,Nat.div_eq_of_lt hM],rfl,rfl⟩,⟨rfl,rfl,rfl,trivial⟩,⟨rfl,rfl,trivial⟩,rfl⟩,?_⟩
 rintro k f m ⟨hk,heq,rfl,rfl⟩
 refine ⟨fun h=>?_,fun h=>?_⟩
 ·have h1:(k:Int) - 1 >= 0:=ab h
  have e:((k:Int) - 1).toNat=k - 1:=by omega
  have hn:(mA N)[((k:Int) - 1).toNat]? = some (.int .u32 ((dg N (k - 1):Nat):Int)):=by rw [e];exact bo (by omega)
  have hm:(mA M)[((k:Int) - 1).toNat]? = some (.int .u32 ((dg M (k - 1):Nat):Int)):=by rw [e];exact bo (by omega)
  have hb:(k:Int) - 1 < 32:=by omega
  have hs:N / BB ^ (k - 1+1)=M / BB ^ (k - 1+1):=by rw [show k - 1+1=k by omega];exact heq
  refine ⟨h1,hb,_,hn,h1,hb,_,hm,by kernel_rfl,fun h2=>?_,fun h2=>⟨h1,hb,_,hn,h1,hb,_,hm,by kernel_rfl,fun h3=>?_,fun h3=>?_⟩⟩
  ·have h3:dg N (k - 1) < dg M (k - 1):=by have:=ab h2;omega
   have:=tc hs h3
   exact ⟨by simp only [iQ,if_pos this];rfl,trivial⟩
  ·have h4:dg M (k - 1) < dg N (k - 1):=by have:=ab h3;omega
   have:=tc hs.symm h4
   exact ⟨by simp only [iQ,if_neg (show ¬ N < M by omega),if_pos this];rfl,trivial⟩
  ·have h4:dg N (k - 1)=dg M (k - 1):=by
     have:=ae h2
     have:=ae h3
     omega
   exact ⟨k - 1,_,_,by omega,⟨by omega,vE hs h4,rfl,rfl⟩,⟨rfl,rfl,ag (by rw [i64_in (by omega)];omega),trivial⟩,⟨rfl,rfl,trivial⟩,rfl⟩
 ·have h1:¬ ((k:Int) - 1 >= 0):=ae h
  obtain rfl:k=0:=by omega
  simp only [Nat.pow_zero,Nat.div_one] at heq
  exact ⟨by simp only [iQ,heq,Nat.lt_irrefl,if_false];rfl,trivial⟩
theorem FR {N M:Nat} (hN:N < BB ^ 32) (hM:M < BB ^ 32):ax Tryz.prog 187 [SV.c (.agg (mA N)),SV.c (.agg (mA M))] (.tuple #[.agg (mA ((N+M) % BB ^ 32)),.bool (decide (N+M < BB ^ 32))]):=by
 refine aj af ah Kl _ _ rfl rfl fun w=>?_
 refine ⟨bY _,bY _,fun q f m=>∃ (k c:Nat) (g:Nat->Nat),q=32 - k/\k<=32/\c<=1/\(∀ j,j < k->g j < BB)/\nv g k+c*BB ^ k=nv (dg N) k+nv (dg M) k/\f=[(2,SV.ptr 2 0),(3,SV.ptr 3 0),(4,SV.ptr 4 0),(6,SV.ptr 6 0),(7,SV.c (.int .u64 c)),(8,SV.c (.int .i64 k))]/\m=[(2,Blk.row 55 32 (mA N)),(3,Blk.row 55 32 (mA M)),(4,Blk.row 55 32 (lA (fun _=>0) 32)),(6,Blk.row 55 32 (lA g 32))],32,⟨_,_,⟨0,0,fun _=>0,rfl,by omega,by omega,fun j hj=>absurd hj (by omega),uA _ _ _,rfl,rfl⟩,⟨rfl,rfl,rfl,rfl,rfl,rfl,trivial⟩,⟨rfl,rfl,rfl,rfl,trivial⟩,rfl⟩,?_⟩
 rintro q f m ⟨k,c,g,rfl,hk,hc,hg,hn,rfl,rfl⟩
 refine ⟨fun h=>?_,fun h=>?_⟩
 ·have h1:(k:Int) < 32:=ab h
  have h0:(0:Int)<=k:=by omega
  have gN:=bo (N:=N) (show k < 32 by omega)
  have gM:=bo (N:=M) (show k < 32 by omega)
  have hx:=aQ N k
  have hy:=aQ M k
  rw [aW] at hx hy
  have ev:IntKind.u64.wrap (IntKind.u64.wrap (IntKind.u64.wrap (dg N k:Nat)+IntKind.u64.wrap (dg M k:Nat))+(c:Nat))=((dg N k+dg M k+c:Nat):Int):=by simp only [dG];omega
  refine ⟨h0,h1,_,gN,h0,h1,_,gM,by kernel_rfl,h0,h1,by show k < 32;omega,rfl,_,cy (i:=k) (x:=(k:Int)) (v:=(dg N k+dg M k+c) % BB) rfl (by rw [ev,bO,aW];rfl),by decide,?_⟩
  refine ⟨32 - (k+1),_,_,by omega,⟨k+1,(dg N k+dg M k+c) / BB,_,rfl,by omega,by rw [aW];omega,fun j hj=>?_,ql (k:=c) ?_ ?_,rfl,rfl⟩,⟨rfl,rfl,rfl,rfl,ag (by rw [ev];exact xM _),ag (by rw [i64_in (by omega)];rfl),trivial⟩,⟨rfl,rfl,rfl,rfl,trivial⟩,rfl⟩
  ·by_cases e:j=k
   ·subst e;simp only [if_true];exact Nat.mod_lt _ bz
   ·simp only [if_neg e];exact hg j (by omega)
  ·rw [jF];exact hn
  ·simp only [if_true];rw [Nat.mul_comm];exact Nat.mod_add_div _ _
 ·have h1:¬ ((k:Int) < 32):=ae h
  obtain rfl:k=32:=by omega
  obtain ⟨hs1,hs2⟩:=uk hN hM hg hn
  have hA:=yw hg hs1
  refine ⟨dQ _ _,jc (by rw [hA]) (bv ?_),trivial⟩
  rw [hs2,Bool.eq_iff_iff];simp
theorem Dk {N M c:Nat} {f:Nat->Nat} (hN:N < BB ^ 32) (hM:M < BB ^ 32) (hf:∀ j,j < 32->f j < BB) (h:nv f 32+nv (dg M) 32=nv (dg N) 32+c*BB ^ 32) (hc:c<=1):nv f 32=(N+BB ^ 32 - M) % BB ^ 32:=by
 rw [bI hN,bI hM] at h
 have hl:=nO hf
 generalize BB ^ 32=P at *
 have:c=0\/c=1:=by omega
 rcases this with rfl | rfl
 ·rw [show N+P - M=(N - M)+P by omega,Nat.add_mod_right,Nat.mod_eq_of_lt (by omega)];omega
 ·rw [show N+P - M=nv f 32 by omega,Nat.mod_eq_of_lt hl]
theorem vv {N M:Nat} (hN:N < BB ^ 32) (h:M<=N):(N+BB ^ 32 - M) % BB ^ 32=N - M:=by
 rw [show N+BB ^ 32 - M=(N - M)+BB ^ 32 by omega,Nat.add_mod_right,Nat.mod_eq_of_lt (by omega)]
theorem fJ {N M:Nat} (hN:N < BB ^ 32) (hM:M < BB ^ 32):ax Tryz.prog 186 [SV.c (.agg (mA N)),SV.c (.agg (mA M))] (.agg (mA ((N+BB ^ 32 - M) % BB ^ 32))):=by
 refine aj af ah Km _ _ rfl rfl fun w=>?_
 refine ⟨bY _,bY _,fun q f m=>∃ (k c:Nat) (g:Nat->Nat),q=32 - k/\k<=32/\c<=1/\(∀ j,j < k->g j < BB)/\nv g k+nv (dg M) k=nv (dg N) k+c*BB ^ k/\f=[(2,SV.ptr 2 0),(3,SV.ptr 3 0),(4,SV.ptr 4 0),(5,SV.ptr 5 0),(6,SV.c (.int .u64 c)),(7,SV.c (.int .i64 k))]/\m=[(2,Blk.row 55 32 (mA N)),(3,Blk.row 55 32 (mA M)),(4,Blk.row 55 32 (lA (fun _=>0) 32)),(5,Blk.row 55 32 (lA g 32))],32,⟨_,_,⟨0,0,fun _=>0,rfl,by omega,by omega,fun j hj=>absurd hj (by omega),qW _ _ _,rfl,rfl⟩,⟨rfl,rfl,rfl,rfl,rfl,rfl,trivial⟩,⟨rfl,rfl,rfl,rfl,trivial⟩,rfl⟩,?_⟩
 rintro q f m ⟨k,c,g,rfl,hk,hc,hg,hn,rfl,rfl⟩
 refine ⟨fun h=>?_,fun h=>?_⟩
 ·have h1:(k:Int) < 32:=ab h
  have h0:(0:Int)<=k:=by omega
  have gN:=bo (N:=N) (show k < 32 by omega)
  have gM:=bo (N:=M) (show k < 32 by omega)
  have hx:=aQ N k
  have hy:=aQ M k
  rw [aW] at hx hy
  have ev:IntKind.u64.wrap (IntKind.u64.wrap (IntKind.u64.wrap (dg N k:Nat) - IntKind.u64.wrap (dg M k:Nat)) - (c:Nat))=((dg N k:Int) - dg M k - c) % 18446744073709551616:=by simp only [dG];omega
  refine ⟨h0,h1,_,gN,h0,h1,_,gM,by kernel_rfl,h0,h1,by show k < 32;omega,rfl,_,cy (i:=k) (x:=(k:Int)) (v:=(dg N k+BB - (dg M k+c)) % BB) rfl (by rw [ev,bO,aW];omega),by decide,?_⟩
  refine ⟨32 - (k+1),_,_,by omega,⟨k+1,(if dg N k < dg M k+c then 1 else 0:Nat),_,rfl,by omega,by split<;>omega,fun j hj=>?_,tK (k:=c) ?_ ?_,rfl,rfl⟩,⟨rfl,rfl,rfl,rfl,ag ?_,ag (by rw [i64_in (by omega)];rfl),trivial⟩,⟨rfl,rfl,rfl,rfl,trivial⟩,rfl⟩
  ·by_cases e:j=k
   ·subst e;simp only [if_true];exact Nat.mod_lt _ bz
   ·simp only [if_neg e];exact hg j (by omega)
  ·rw [jF];exact hn
  ·simp only [if_true];rw [aW] at *;split<;>omega
  ·rw [ev,ol]
   show ((dg N k:Int) - dg M k - c) % 18446744073709551616 / 9223372036854775808=_
   split<;>omega
 ·have h1:¬ ((k:Int) < 32):=ae h
  obtain rfl:k=32:=by omega
  have hA:=yw hg (Dk hN hM hg hn hc)
  exact ⟨dQ _ _,by rw [<- hA];rfl,trivial⟩
end Go.Proofs.YtekfkdddadcalaaGreatDoor
