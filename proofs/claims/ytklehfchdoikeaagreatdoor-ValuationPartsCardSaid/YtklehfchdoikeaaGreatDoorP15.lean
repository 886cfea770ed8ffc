/- walks: texts of decimals. walks: prices, actions in memory. ; no condition. -/
import Derived.Laws.Slices
import Derived.Laws.Strings3
import Derived.Test.YtklehfchdoikeaaGreatDoorP13
set_option maxRecDepth 100000
set_option maxHeartbeats 4000000
namespace Go.Proofs.YtklehfchdoikeaaGreatDoor
open Go Go.RowKit Go.SX
def S (l:List UInt8):ByteArray:=⟨l.toArray⟩
theorem bm (l:List UInt8):(S l).size=l.length:=by show l.toArray.size=_;simp
theorem U8 (s:ByteArray):s=S s.data.toList:=by simp [S]
theorem eG (a b:List UInt8):((S a).toList == (S b).toList)=decide (a=b):=by
 rw [ByteArray.toList_eq,ByteArray.toList_eq]
 show (a == b)=_
 rw [Bool.eq_iff_iff];simp
theorem dH (a b:List UInt8):S a++S b=S (a++b):=by
 apply ByteArray.ext
 show (S a++S b).data=_
 rw [ByteArray.data_append]
 simp [S]
theorem Ml (l:List UInt8) (a b:Nat):(S l).extract a b=S ((l.take b).drop a):=by
 apply ByteArray.ext
 rw [ByteArray.data_extract]
 apply Array.ext'
 simp [S,List.drop_take]
theorem aH {P:Program} {t ty:TypeId} (hu:P.underlying t=some .string) {cs:Array Bool} {l:List UInt8} (w:World):(builtin .len #[t] ty cs #[.string (S l)]).run P w=.ok (.value (.int .i64 (l.length:Nat))) w:=by
 simp [builtin,Builtin.len_,Sem.run_bind,run_underlying hu,goInt,bm]
theorem pq {E:Env} {t:TypeId} (hu:E.P.underlying t=some .string) {l:List UInt8} {k:IntKind} {x:Int} (n:Nat) (hx:x=n) (hn:n<=l.length):bH E (Instr.sliceAt t (.string (S l)) none (some (.int k x)) none) (.string (S (l.take n))):=fun w _=>by
 subst hx
 have h:=run_slice_string_h (P:=E.P) w t (S l) hu k n (by omega) (by rw [bm];omega)
 simp only [Instr.sliceAt,Sem.run_bind,run_underlying hu,Result.andThen_ok]
 rw [h,Ml]
 simp
theorem vT {E:Env} {t:TypeId} (hu:E.P.underlying t=some .string) {l:List UInt8} {k:IntKind} {x:Int} (n:Nat) (hx:x=n) (hn:n<=l.length):bH E (Instr.sliceAt t (.string (S l)) (some (.int k x)) none none) (.string (S (l.drop n))):=fun w _=>by
 subst hx
 have h:=run_slice_string_l (P:=E.P) w t (S l) hu k n (by omega) (by rw [bm];omega)
 simp only [Instr.sliceAt,Sem.run_bind,run_underlying hu,Result.andThen_ok]
 rw [h,Ml,bm]
 simp
theorem dO {E:Env} {t:TypeId} (hu:E.P.underlying t=some .string) {l:List UInt8} {k:IntKind} {x:Int} (n:Nat) (hx:x=n) (hn:n < l.length):bH E (Instr.index t (.string (S l)) (.int k x)) (.int .u8 ((l.getD n 0).toNat:Nat)):=by
 subst hx
 refine runs_index hu (by omega) (b:=l.getD n 0) ?_
 show l.toArray[(n:Int).toNat]? = _
 rw [Int.toNat_natCast,List.getElem?_toArray,List.getD_eq_getElem?_getD,List.getElem?_eq_getElem hn]
 rfl
theorem xz {P:Program} {t ty:TypeId} (hu:P.underlying t=some .string) {cs:Array Bool} {s:ByteArray} {l:List UInt8} (hs:s=S l) (w:World):(builtin .len #[t] ty cs #[.string s]).run P w=.ok (.value (.int .i64 (l.length:Nat))) w:=by subst hs;exact aH hu w
theorem Gd {E:Env} {t:TypeId} (hu:E.P.underlying t=some .string) {s:ByteArray} {l:List UInt8} (hs:s=S l) {k:IntKind} {x:Int} (n:Nat) (hx:x=n) (hn:n<=l.length):bH E (Instr.sliceAt t (.string s) none (some (.int k x)) none) (.string (S (l.take n))):=by subst hs;exact pq hu n hx hn
theorem Gc {E:Env} {t:TypeId} (hu:E.P.underlying t=some .string) {s:ByteArray} {l:List UInt8} (hs:s=S l) {k:IntKind} {x:Int} (n:Nat) (hx:x=n) (hn:n<=l.length):bH E (Instr.sliceAt t (.string s) (some (.int k x)) none none) (.string (S (l.drop n))):=by subst hs;exact vT hu n hx hn
theorem sv {a b:ByteArray} (h:a=b):Value.string a=.string b:=by rw [h]
theorem ym (l p:List UInt8):ay Tryz.prog 295 [SV.c (.string (S l)),SV.c (.string (S p))] (.bool (decide (p.length<=l.length/\l.take p.length=p))):=by
 refine al ai ak Qc _ _ rfl rfl fun w=>?_
 refine ⟨_,fun w _=>aH Tryz.underlying9 w,_,fun w _=>aH Tryz.underlying9 w,fun h=>?_,fun h=>?_⟩
 ·have h:p.length<=l.length:=by have:=af h;omega
  refine ⟨_,fun w _=>aH Tryz.underlying9 w,_,pq Tryz.underlying9 p.length rfl h,bv ?_,trivial⟩
  rw [eG,Bool.eq_iff_iff]
  simp [h]
 ·have h:¬ (p.length<=l.length):=by have:=ag h;omega
  refine ⟨bv ?_,trivial⟩
  rw [Bool.eq_iff_iff]
  simp [h]
theorem lJ (l p:List UInt8):ay Tryz.prog 297 [SV.c (.string (S l)),SV.c (.string (S p))] (.bool (decide (p.length<=l.length/\l.take p.length=p))):=by
 refine al ai ak Qa _ _ rfl rfl fun w=>?_
 exact .inl ⟨_,ym l p,rfl,trivial⟩
def yT (l p:List UInt8):List UInt8×Bool:=if p.length<=l.length/\l.take p.length=p then (l.drop p.length,true) else (l,false)
theorem Ik (l p:List UInt8):ay Tryz.prog 275 [SV.c (.string (S l)),SV.c (.string (S p))] (.tuple #[.string (S (yT l p).1),.bool (yT l p).2]):=by
 refine al ai ak Qj _ _ rfl rfl fun w=>?_
 refine .inl ⟨_,ym l p,fun h=>?_,fun h=>?_⟩
 ·have h:=ag (bnt h)
  refine ⟨?_,trivial⟩
  rw [yT,if_neg h];rfl
 ·have h:=af (bnf h)
  refine ⟨_,fun w _=>aH Tryz.underlying9 w,_,vT Tryz.underlying9 p.length rfl h.1,?_,trivial⟩
  rw [yT,if_pos h];rfl
theorem Ex (l p:List UInt8):ay Tryz.prog 231 [SV.c (.string (S l)),SV.c (.string (S p))] (.tuple #[.string (S (yT l p).1),.bool (yT l p).2]):=by
 refine al ai ak QW _ _ rfl rfl fun w=>?_
 exact .inl ⟨_,Ik l p,rfl,trivial⟩
def gG (c:UInt8) (l:List UInt8):List UInt8:=(l.reverse.dropWhile (· == c)).reverse
theorem sf (c x:UInt8) (l:List UInt8):gG c (l++[x])=if x=c then gG c l else l++[x]:=by
 unfold gG
 by_cases h:x=c
 ·simp [h]
 ·simp [h]
theorem ui (c:UInt8) (l:List UInt8):(gG c l).length<=l.length:=by
 unfold gG
 rw [List.length_reverse]
 have:=(List.dropWhile_sublist (· == c) (l:=l.reverse)).length_le
 simpa using this
theorem Jx {l:List UInt8} (h:0 < l.length):l=l.take (l.length - 1)++[l.getD (l.length - 1) 0]:=by
 rw [List.getD_eq_getElem?_getD,List.getElem?_eq_getElem (by omega)]
 simp only [Option.getD_some]
 rw [List.take_append_getElem (by omega),Nat.sub_add_cancel h,List.take_length]
theorem Jj (l:List UInt8) (c:UInt8) (hl:l.length<=9223372036854775807):ay Tryz.prog 277 [SV.c (.string (S l)),SV.c (.int .u8 (c.toNat:Nat))] (.string (S (gG c l))):=by
 refine al ai ak Qh _ _ rfl rfl fun w=>?_
 refine ⟨fun q f m=>∃ k:List UInt8,q=k.length/\k.length<=9223372036854775807/\gG c k=gG c l/\f=[(0,SV.c (.string (S k))),(1,SV.c (.int .u8 (c.toNat:Nat)))]/\m=[],l.length,⟨_,_,⟨l,rfl,hl,rfl,rfl,rfl⟩,⟨rfl,rfl,trivial⟩,trivial,rfl⟩,?_⟩
 rintro q f m ⟨k,rfl,h63,hk,rfl,rfl⟩
 have hn:0 < k.length->IntKind.i64.wrap ((k.length:Int) - 1)=((k.length - 1:Nat):Int):=fun h=>by rw [i64_in (by omega)];omega
 refine ⟨_,fun w _=>aH Tryz.underlying9 w,fun h=>?_,fun h=>?_⟩
 ·have h:0 < k.length:=by have:=af h;omega
  have hs:=Jx h
  refine ⟨_,fun w _=>aH Tryz.underlying9 w,_,dO Tryz.underlying9 (k.length - 1) (hn h) (by omega),fun h2=>?_,fun h2=>?_⟩
  ·have h2:k.getD (k.length - 1) 0=c:=by
     have:(((k.getD (k.length - 1) 0).toNat:Nat):Int)=(c.toNat:Nat):=by simpa using h2
     exact UInt8.toNat_inj.1 (by omega)
   refine ⟨_,fun w _=>aH Tryz.underlying9 w,_,pq Tryz.underlying9 (k.length - 1) (hn h) (by omega),?_⟩
   refine ⟨k.length - 1,_,_,by omega,⟨k.take (k.length - 1),by simp,by simp;omega,?_,rfl,rfl⟩,⟨rfl,rfl,trivial⟩,trivial,rfl⟩
   rw [hs,sf,if_pos h2] at hk
   exact hk
  ·have h2:k.getD (k.length - 1) 0≠c:=by
     intro e
     rw [e] at h2;simp at h2
   refine ⟨?_,trivial⟩
   rw [hs,sf,if_neg h2,<- hs] at hk
   rw [<- hk];rfl
 ·have h:k.length=0:=by have:=ag h;omega
  have h:k=[]:=List.length_eq_zero_iff.1 h
  subst h
  refine ⟨nofun,fun _=>⟨?_,trivial⟩⟩
  rw [<- hk];rfl
theorem Mw (l:List UInt8) (c:UInt8) (hl:l.length<=9223372036854775807) (hc:c.toNat < 128):ay Tryz.prog 234 [SV.c (.string (S l)),SV.c (.string (S [c]))] (.string (S (gG c l))):=by
 refine al ai ak QT _ _ rfl rfl fun w=>?_
 have e1:((S l).toList == (S []).toList)=decide (l=[]):=eG l []
 have e2:((S [c]).toList == (S []).toList)=false:=by rw [eG];simp
 refine ⟨fun h=>⟨fun h2=>?_,fun h2=>?_⟩,fun h=>?_⟩
 ·exact absurd (e2.symm.trans h2) (by simp)
 ·refine ⟨_,fun w _=>aH Tryz.underlying9 w,fun _=>⟨_,dO Tryz.underlying9 0 rfl (by simp),fun h3=>⟨_,dO Tryz.underlying9 0 rfl (by simp),.inl ⟨_,Jj l c hl,rfl,trivial⟩⟩,fun h3=>?_⟩,nofun⟩
  exfalso
  have h3:=ag h3
  apply h3
  show ((c.toNat:Nat):Int) < 128
  omega
 ·have h:l=[]:=af (e1.symm.trans h)
  subst h
  exact ⟨fun _=>⟨rfl,trivial⟩,nofun⟩
theorem J5 (n:Nat) (h:n<=10):ay Tryz.prog 322 [SV.c (.int .u64 1),SV.c (.int .u64 (n:Nat))] (.tuple #[.int .u64 0,.int .u64 (n:Nat)]):=by
 obtain rfl | rfl | rfl | rfl | rfl | rfl | rfl | rfl | rfl | rfl | rfl:n=0\/n=1\/n=2\/n=3\/n=4\/n=5\/n=6\/n=7\/n=8\/n=9\/n=10:=by omega
 all_goals
  refine al ai ak PY _ _ rfl rfl fun w=>?_
  exact ⟨by decide,by decide,by decide,by decide,by decide,by kernel_rfl,trivial⟩
theorem M4 (n:Nat) (h:n<=10):ay Tryz.prog 296 [SV.c (.int .u64 1),SV.c (.int .u64 (n:Nat))] (.tuple #[.int .u64 0,.int .u64 (n:Nat)]):=by
 refine al ai ak Qb _ _ rfl rfl fun w=>?_
 exact ⟨nofun,fun _=>.inl ⟨_,J5 n h,rfl,trivial⟩⟩
def lq:List UInt8:=List.replicate 64 48
theorem Gi (n:Nat) (h0:0 < n) (h:n<=10):ay Tryz.prog 276 [SV.c (.string (S [48])),SV.c (.int .i64 (n:Nat))] (.string (S (List.replicate n 48))):=by
 refine al ai ak Qi _ _ rfl rfl fun w=>?_
 have hp:ay Tryz.prog 297 [SV.c (.string (S lq)),SV.c (.string (S [48]))] (.bool true):=lJ lq [48]
 have e1:IntKind.u64.wrap ((n:Nat):Int)=(n:Nat):=ci (by omega)
 have hm:=M4 n h
 have ht:lq.take n=List.replicate n 48:=by rw [lq,List.take_replicate];congr 1;omega
 refine ⟨fun h1=>?_,fun h1=>⟨fun h2=>?_,fun h2=>⟨fun h3=>?_,fun h3=>⟨_,fun w _=>aH Tryz.underlying9 w,?_⟩⟩⟩⟩
 ·exfalso
  have:(n:Int)=0:=by simpa using h1
  omega
 ·have h2:n=1:=by have:(n:Int)=1:=by simpa using h2
                  omega
  subst h2
  exact ⟨rfl,trivial⟩
 ·exfalso
  have:=af h3
  omega
 ·have hm':ay Tryz.prog 296 [SV.c (.int .u64 1),SV.c (.int .u64 (IntKind.u64.wrap ((n:Nat):Int)))] (.tuple #[.int .u64 0,.int .u64 (n:Nat)]):=by rw [e1];exact hm
  have e2:IntKind.i64.wrap ((n:Nat):Int)=(n:Nat):=i64_in (by omega)
  refine .inl ⟨_,hm',fun _=>⟨fun h4=>?_,fun h4=>?_⟩,nofun⟩
  ·exfalso
   have:=af h4
   have:((n:Nat):Int) > 9223372036854775807:=this
   omega
  ·refine ⟨_,fun w _=>aH Tryz.underlying9 w,nofun,fun _=>⟨_,dO Tryz.underlying9 0 rfl (by decide),nofun,fun _=>⟨nofun,fun _=>⟨fun _=>?_,nofun⟩⟩⟩⟩
   refine ⟨fun _=>⟨fun h5=>.inl ⟨_,lJ _ [48],fun h6=>absurd h6 (by decide),fun _=>⟨fun h7=>.inl ⟨_,lJ _ [48],fun h6=>absurd h6 (by decide),fun _=>⟨fun h8=>?_,fun h8=>?_⟩⟩,fun h7=>?_⟩⟩,fun h5=>?_⟩,nofun⟩
   ·refine .inl ⟨_,lJ lq [48],fun _=>⟨_,pq (l:=lq) Tryz.underlying9 n e2 (by show n<=64;omega),?_,trivial⟩,fun h6=>absurd h6 (by decide)⟩
    rw [ht];rfl
   ·exfalso
    have h8:=ag h8
    rw [e2] at h8;omega
   ·exfalso
    have h7:=ag h7
    rw [e2] at h7;omega
   ·exfalso
    have h5:=ag h5
    rw [e2] at h5;omega
def iL (k:Nat) (l:List UInt8):List UInt8:=if l.length<=k then List.replicate (k+1 - l.length) 48++l else l
theorem xQ (k:Nat) (l:List UInt8):k < (iL k l).length:=by
 unfold iL;split
 ·simp;omega
 ·omega
theorem JQ (l:List UInt8) (k:Nat) (hk:k<=9) (h0:0 < l.length) (hl:l.length<=1000):ay Tryz.prog 233 [SV.c (.string (S l)),SV.c (.int .i64 (k:Nat))] (.tuple #[.string (S ((iL k l).take ((iL k l).length - k))),.string (S ((iL k l).drop ((iL k l).length - k)))]):=by
 refine al ai ak QU _ _ rfl rfl fun w=>?_
 refine ⟨_,fun w _=>aH Tryz.underlying9 w,fun h=>?_,fun h=>?_⟩
 ·have h:l.length<=k:=by have:=af h;omega
  have ep:iL k l=List.replicate (k+1 - l.length) 48++l:=if_pos h
  have e1:IntKind.i64.wrap (IntKind.i64.wrap ((k:Int)+1) - (l.length:Nat))=((k+1 - l.length:Nat):Int):=by rw [i64_in (x:=(k:Int)+1) (by omega),i64_in (by omega)];omega
  have hr:=Gi (k+1 - l.length) (by omega) (by omega)
  rw [<- e1] at hr
  have es:S (List.replicate (k+1 - l.length) 48)++S l=S (iL k l):=by rw [dH,ep]
  have el:=xQ k l
  have el2:(iL k l).length<=1000:=by rw [ep];simp;omega
  have e2:IntKind.i64.wrap (((iL k l).length:Int) - (k:Nat))=(((iL k l).length - k:Nat):Int):=by rw [i64_in (by omega)];omega
  exact ⟨_,fun w _=>aH Tryz.underlying9 w,.inl ⟨_,hr,by rw [bm,bm];simp;omega,_,fun w _=>xz Tryz.underlying9 es w,_,Gd Tryz.underlying9 es _ e2 (by omega),_,fun w _=>xz Tryz.underlying9 es w,_,Gc Tryz.underlying9 es _ e2 (by omega),by kernel_rfl,rfl,trivial⟩⟩
 ·have h:¬ l.length<=k:=by have:=ag h;omega
  have ep:iL k l=l:=if_neg h
  rw [ep]
  have e1:IntKind.i64.wrap ((l.length:Int) - (k:Nat))=((l.length - k:Nat):Int):=by rw [i64_in (by omega)];omega
  exact ⟨_,fun w _=>aH Tryz.underlying9 w,_,pq Tryz.underlying9 (l.length - k) e1 (by omega),_,fun w _=>aH Tryz.underlying9 w,_,vT Tryz.underlying9 (l.length - k) e1 (by omega),by kernel_rfl,rfl,trivial⟩
def zI (z:Int) (k:Nat):List UInt8×Int :=
 let s:=iL k (iO z.natAbs)
 let p:=gG 48 (s.drop (s.length - k))
 if 15 < s.length - k then ([],32) else ((if z < 0 then [45] else [])++s.take (s.length - k)++(if p=[] then [] else 46 :: p),0)
def iX (r:RQ) (n:Int):List UInt8×Int:=if !r.ok then ([],20) else if n < 0\/n > 9 then ([],30) else if r.p*(tp n.toNat:Nat) % r.q≠0 then ([],32) else zI (r.p*(tp n.toNat:Nat) / r.q) n.toNat
def Pf (x:List UInt8×Int):Value:=.tuple #[.string (S x.1),.int .i64 x.2]
theorem HN {N:Nat}:∀ b∈iO N,48<=b.toNat/\b.toNat<=57:=by
 intro b hb
 unfold iO at hb
 split at hb
 ·simp at hb;subst hb;decide
 ·exact z8 b (List.mem_reverse.1 hb)
theorem yF (N:Nat):0 < (iO N).length:=by
 unfold iO
 split
 ·simp
 ·rename_i h;rw [jg h];simp
theorem tk {k N:Nat} (hk:0 < k) (h:N < 10 ^ k):(iO N).length<=k:=by
 unfold iO
 split
 ·simp;omega
 ·rw [List.length_reverse];exact sH k N h
theorem Ew (z:Int):yT (ub z) [45]=(iO z.natAbs,decide (z < 0)):=by
 unfold ub yT
 by_cases h:z < 0
 ·simp [h]
 ·rw [if_neg h]
  have h0:=yF z.natAbs
  cases hl:iO z.natAbs with
  | nil=>rw [hl] at h0;simp at h0
  | cons a r =>
   have:=HN a (by rw [hl];simp)
   rw [if_neg]
   ·simp [h]
   ·rintro ⟨-,h2⟩
    simp at h2
    subst h2
    simp at this
theorem IF {N:Nat} (h:N < 2 ^ lg):N < 10 ^ KJ:=Nat.lt_trans h (by decide +kernel)
theorem FE {r:RQ} (hr:r.In) (n:Int):ay Tryz.prog 183 [SV.c (.agg r.A),SV.c (.int .i64 n)] (Pf (iX r n)):=by
 refine al ai ak Rt _ _ rfl rfl fun w=>?_
 have hc:=CN hr n
 rcases Decidable.em (r.ok=true) with hk | hk
 case inr =>
  have hk:r.ok=false:=by simpa using hk
  rw [hk,Bool.not_false,if_pos rfl] at hc
  refine ⟨r.A_size,.inl ⟨_,hc,fun _=>⟨?_,trivial⟩,nofun⟩⟩
  rw [iX,hk,Bool.not_false,if_pos rfl];rfl
 rw [hk] at hc
 rcases Decidable.em (n < 0\/n > 9) with hn | hn
 ·rw [Bool.not_true,if_neg Bool.false_ne_true,if_pos hn] at hc
  refine ⟨r.A_size,.inl ⟨_,hc,fun _=>⟨?_,trivial⟩,nofun⟩⟩
  rw [iX,hk,Bool.not_true,if_neg Bool.false_ne_true,if_pos hn];rfl
 rw [Bool.not_true,if_neg Bool.false_ne_true,if_neg hn] at hc
 obtain ⟨k,rfl⟩:∃ k:Nat,n=k:=⟨n.toNat,by omega⟩
 have hk9:k<=9:=by omega
 obtain ⟨k1,k2,k3,k4,k5⟩:=RQ.ok_bits hk
 have hs:=xt hr hk hk9
 have hl:=lB k1 hk9
 have hrl:(r.p*((tp k:Nat):Int) % r.q).natAbs < BB ^ 32:=by
  have h1:=Int.emod_lt_of_pos (r.p*((tp k:Nat):Int)) k3
  have h2:=Int.emod_nonneg (r.p*((tp k:Nat):Int)) (show r.q≠0 by omega)
  have h3:r.q.natAbs < 2 ^ dP:=Nat.lt_of_lt_of_le (cO _).1 (Nat.pow_le_pow_right (by omega) k2)
  have:=uI
  omega
 have hlow:(r.p*((tp k:Nat):Int) / r.q).natAbs < 2 ^ lg:=Nat.lt_of_le_of_lt (Int.natAbs_ediv_le_natAbs _ _) hl
 rw [iX,hk,Bool.not_true,if_neg Bool.false_ne_true,if_neg hn,Int.toNat_natCast]
 generalize r.p*((tp k:Nat):Int) / r.q=low at *
 generalize r.p*((tp k:Nat):Int) % r.q=rest at *
 have hlb:low.natAbs < BB ^ 32:=Nat.lt_trans hlow Cq
 have hlen:(iO low.natAbs).length<=309:=tk (k:=KJ) (by decide) (IF hlow)
 have hfmt:ay Tryz.prog 232 [SV.c (.agg (eA low))] (.string (S (ub low))):=HK (aI hlb)
 have hcut:=Ex (ub low) [45]
 rw [Ew] at hcut
 have hpt:=JQ (iO low.natAbs) k hk9 (yF _) (by omega)
 unfold zI
 dsimp only
 have hpl:=xQ k (iO low.natAbs)
 have hpl2:(iL k (iO low.natAbs)).length<=1000:=by
  unfold iL;split
  ·simp only [List.length_append,List.length_replicate];omega
  ·omega
 generalize iL k (iO low.natAbs)=s at *
 have htr:=Mw (s.drop (s.length - k)) 48 (by simp;omega) (by decide)
 have hpz:(gG 48 (s.drop (s.length - k))).length<=1000:=Nat.le_trans (ui _ _) (by simp;omega)
 have ht:(s.take (s.length - k)).length<=1000:=by simp;omega
 have hemp:((S (gG 48 (s.drop (s.length - k)))).toList == (S []).toList)=decide (gG 48 (s.drop (s.length - k))=[]):=eG _ []
 generalize gG 48 (s.drop (s.length - k))=p at *
 have s1:(S [46]:ByteArray).size+(S p).size<=9223372036854775807:=by rw [bm,bm];simp;omega
 have s2:(S (s.take (s.length - k))).size+(S [46]++S p).size<=9223372036854775807:=by rw [dH,bm,bm];simp only [List.length_append,List.length_cons,List.length_nil];omega
 have s3:(S [45]:ByteArray).size+(S (s.take (s.length - k))++(S [46]++S p)).size<=9223372036854775807:=by rw [dH,dH,bm,bm];simp only [List.length_append,List.length_cons,List.length_nil];omega
 have s4:(S [45]:ByteArray).size+(S (s.take (s.length - k))).size<=9223372036854775807:=by rw [bm,bm];simp only [List.length_cons,List.length_nil];omega
 have htl:(s.take (s.length - k)).length=s.length - k:=by simp
 refine ⟨r.A_size,.inl ⟨_,hc,nofun,fun _=>.inl ⟨_,hs,am _,am _,.inl ⟨_,iI (aI hrl),fun h1=>?_,fun h1=>.inl ⟨_,hfmt,.inl ⟨_,hcut,.inl ⟨_,hpt,_,fun w _=>aH Tryz.underlying9 w,fun h2=>?_,fun h2=>.inl ⟨_,htr,fun h3=>⟨s1,s2,fun h4=>⟨s3,?_,trivial⟩,fun h4=>⟨?_,trivial⟩⟩,fun h3=>⟨fun h4=>⟨s4,?_,trivial⟩,fun h4=>⟨?_,trivial⟩⟩⟩⟩⟩⟩⟩⟩⟩⟩
 ·have h1:rest≠0:=by
    intro e;subst e;simp [sgn] at h1
  refine ⟨?_,trivial⟩
  rw [if_pos h1];rfl
 all_goals
  have h1:¬ (rest≠0):=by
   intro e
   have e2:=dx (y:=rest)
   rw [decide_eq_false e] at e2
   have:(!(sgn rest == 0))=false:=h1
   rw [e2] at this
   cases this
  rw [if_neg h1]
 ·have h2:=af h2
  refine ⟨?_,trivial⟩
  rw [if_pos (by omega)];rfl
 all_goals
  have h2:=ag h2
  have h4:decide (low < 0)=_:=h4
  rw [if_neg (by omega)]
 ·have h3:=bnt (hemp ▸ h3)
  rw [if_pos (af h4),if_neg (ag h3)]
  refine kL (sv ?_) rfl
  show S [45]++(S (s.take (s.length - k))++(S [46]++S p))=_
  rw [dH,dH,dH,List.append_assoc];rfl
 ·have h3:=bnt (hemp ▸ h3)
  rw [if_neg (ag h4),if_neg (ag h3)]
  refine kL (sv ?_) rfl
  show (S (s.take (s.length - k))++(S [46]++S p))=_
  rw [dH,dH];rfl
 ·have h3:=bX (hemp ▸ h3)
  rw [if_pos (af h4),if_pos (af h3)]
  refine kL (sv ?_) rfl
  show S [45]++S (s.take (s.length - k))=_
  rw [dH,List.append_nil]
 ·have h3:=bX (hemp ▸ h3)
  rw [if_neg (ag h4),if_pos (af h3)]
  refine kL (sv ?_) rfl
  rw [List.append_nil];rfl
def cX (dg:Bool) (l:List UInt8) (j:Nat):Bool:=(decide (65<=(l.getD j 0).toNat) && decide ((l.getD j 0).toNat<=90)) || (dg && !decide (j=0) && decide (48<=(l.getD j 0).toNat) && decide ((l.getD j 0).toNat<=57))
def cz (dg:Bool) (l:List UInt8):Bool:=(List.range l.length).all (cX dg l)
theorem de {dg:Bool} {l:List UInt8} {j:Nat} (hj:j < l.length) (h:cX dg l j=false):cz dg l=false:=by
 unfold cz
 rw [List.all_eq_false]
 exact ⟨j,by simpa using hj,by simp [h]⟩
theorem fO {dg:Bool} {l:List UInt8} (h:∀ j,j < l.length->cX dg l j=true):cz dg l=true:=by
 unfold cz
 rw [List.all_eq_true]
 intro j hj
 exact h j (by simpa using hj)
def d8 (r:RQ):Bool:=r.ok && (decide (r.p*1000000 % r.q=0) && (decide (0<=r.p) && decide (r.p<=1000000000*r.q)))
theorem NL:(RQ.of 1000000000 1).ok=true:=by decide
theorem NM:(RQ.of 1000000000 1).In:=⟨Nat.lt_of_lt_of_le (by decide:1000000000 < 18446744073709551616) jP,Nat.lt_of_lt_of_le (by decide:1 < 18446744073709551616) jP⟩
theorem FW (x:Int):decide (sgn x >= 0)=decide (0<=x):=by
 rw [Bool.eq_iff_iff];simp only [decide_eq_true_eq];unfold sgn;split
 ·omega
 ·split<;>omega
theorem CG (x y:Int):decide (eK x y<=0)=decide (x<=y):=by
 rw [Bool.eq_iff_iff];simp only [decide_eq_true_eq];unfold eK;split
 ·omega
 ·split<;>omega
theorem Dc {z:Int} (h:z.natAbs<=1000000000000000):(zI z 6).2=0:=by
 have h1:=tk (k:=16) (N:=z.natAbs) (by omega) (by show z.natAbs < 10000000000000000;omega)
 unfold zI
 dsimp only
 have h2:(iL 6 (iO z.natAbs)).length<=16:=by
  unfold iL;split
  ·simp only [List.length_append,List.length_replicate];omega
  ·omega
 rw [if_neg (by omega)]
theorem JR {r:RQ} (hk:r.ok=true) (h0:0<=r.p) (h1:r.p<=1000000000*r.q):(iX r 6).2=if r.p*1000000 % r.q=0 then 0 else 32:=by
 unfold iX
 rw [hk,Bool.not_true,if_neg Bool.false_ne_true,if_neg (by omega)]
 rw [show ((tp (Int.toNat 6):Nat):Int)=1000000 from rfl,show Int.toNat 6=6 from rfl]
 by_cases h:r.p*1000000 % r.q=0
 ·rw [if_neg (by simpa using h),if_pos h]
  obtain ⟨k1,k2,k3,k4,k5⟩:=RQ.ok_bits hk
  apply Dc
  have h3:0<=r.p*1000000 / r.q:=Int.ediv_nonneg (by omega) (by omega)
  have h4:r.p*1000000 / r.q<=1000000000000000:=by
   apply Int.ediv_le_of_le_mul k3
   omega
  omega
 ·rw [if_pos h,if_neg h]
theorem Ji {r:RQ} (hk:r.ok=false):(iX r 6).2=20:=by
 unfold iX
 rw [hk,Bool.not_false,if_pos rfl]
theorem MU (r:RQ):((iX r 6).2 == 0 && (decide ((if r.ok then sgn r.p else 0) >= 0) && decide ((if r.ok && (RQ.of 1000000000 1).ok then eK (r.p*(RQ.of 1000000000 1).q) ((RQ.of 1000000000 1).p*r.q) else 0)<=0)))=d8 r:=by
 unfold d8
 by_cases hk:r.ok=true
 ·rw [hk,NL,RQ.of_p,RQ.of_q]
  simp only [Bool.and_true,if_true,Bool.true_and,FW,CG,Int.mul_one]
  by_cases h0:0<=r.p
  ·by_cases h1:r.p<=1000000000*r.q
   ·rw [JR hk h0 h1]
    by_cases h:r.p*1000000 % r.q=0
    ·rw [if_pos h];simp [h]
    ·rw [if_neg h];simp [h]
   ·simp [h1]
  ·simp [h0]
 ·have hk:r.ok=false:=by simpa using hk
  rw [Ji hk,hk];rfl
structure AC where
 kind:Int
 key:List UInt8
 ins:List UInt8
 into:List UInt8
 day:Int
 num:Int
 den:Int
 cash:RQ
 cur:List UInt8
 known:Int
 void:Bool
def AC.pre (a:AC):Array Value:=#[.int .i64 a.kind,.string (S a.key),.string (S a.ins),.string (S a.into),.int .i64 a.day,.int .i64 a.num,.int .i64 a.den]
def AC.post (a:AC):Array Value:=#[.string (S a.cur),.int .i64 a.known,.bool a.void]
def AC.A (a:AC):Array Value:=a.pre++(a.cash.A++a.post)
structure AC.In (a:AC):Prop where
 cash:a.cash.In
 key:a.key.length<=9223372036854775807
 ins:a.ins.length<=9223372036854775807
 into:a.into.length<=9223372036854775807
 cur:a.cur.length<=9223372036854775807
 num : -9223372036854775808<=a.num/\a.num<=9223372036854775807
 den : -9223372036854775808<=a.den/\a.den<=9223372036854775807
theorem AC.size (a:AC):a.A.size=76:=by simp [AC.A,AC.pre,AC.post,RQ.A_size]
theorem AC.fits (a:AC):Fits a.A 76:=⟨a.size,by
 rw [AC.A,Array.all_append,Array.all_append,a.cash.A_fits.one]
 simp [AC.pre,AC.post,Value.oneCell']⟩
theorem AC.at_pre (a:AC) {i:Nat} (h:i < 7):a.A[i]? = a.pre[i]?:=by
 rw [AC.A,Array.getElem?_append_left (by simpa [AC.pre] using h)]
theorem AC.at_post (a:AC) {i:Nat} (h:73<=i):a.A[i]? = a.post[i - 73]?:=by
 rw [AC.A,Array.getElem?_append_right (by simp [AC.pre];omega),Array.getElem?_append_right (by simp [AC.pre,RQ.A_size];omega)]
 simp only [AC.pre,RQ.A_size]
 congr 1
theorem AC.g0 (a:AC):a.A[0]? = some (.int .i64 a.kind):=(a.at_pre (by omega)).trans rfl
theorem AC.g1 (a:AC):a.A[1]? = some (.string (S a.key)):=(a.at_pre (by omega)).trans rfl
theorem AC.g2 (a:AC):a.A[2]? = some (.string (S a.ins)):=(a.at_pre (by omega)).trans rfl
theorem AC.g3 (a:AC):a.A[3]? = some (.string (S a.into)):=(a.at_pre (by omega)).trans rfl
theorem AC.g4 (a:AC):a.A[4]? = some (.int .i64 a.day):=(a.at_pre (by omega)).trans rfl
theorem KI {X Y Z:Array Value} {i n:Nat} (hX:X.size=i) (hY:Y.size=n):(X++(Y++Z)).extract i (i+n)=Y:=by
 apply Array.ext_getElem?
 intro j
 rw [Array.getElem?_extract]
 by_cases hj:j < n
 ·rw [if_pos (by simp;omega),Array.getElem?_append_right (by omega),Array.getElem?_append_left (by omega)]
  congr 1;omega
 ·rw [if_neg (by simp;omega),Array.getElem?_eq_none (by omega)]
def RQ.beq (r s:RQ):Bool:=(r.a == s.a && (decide (r.N=s.N) && true)) && ((r.b == s.b && (decide (r.D=s.D) && true)) && true)
theorem RQ.beq_iff (r s:RQ):r.beq s=true↔r=s:=by
 obtain ⟨a,N,b,D⟩:=r
 obtain ⟨a',N',b',D'⟩:=s
 simp [RQ.beq]
 constructor
 ·rintro ⟨⟨h1,h2⟩,h3,h4⟩;exact ⟨h1,h2,h3,h4⟩
 ·rintro ⟨h1,h2,h3,h4⟩;exact ⟨⟨h1,h2⟩,h3,h4⟩
theorem ff {d:Nat} {r s:RQ} (hr:r.In) (hs:s.In) (w:World):(Op.equalIn (d+1+1+1+1) 33 (.agg r.A) (.agg s.A)).run Tryz.prog w=.ok (r.beq s) w:=by
 rw [run_equalIn_struct w (d+1+1+1) 33 _ _ (by simp only [Program.fieldsOf,Tryz.underlying33]) (by kernel_rfl)]
 rw [show (Tryz.prog.fieldsOf 33).toList=[⟨ "Num",31,0,false,"","",0⟩,⟨ "Den",31,33,false,"","",132⟩] from by simp only [Program.fieldsOf,Tryz.underlying33]]
 refine bT (a:=.agg (iA r.a r.N)) (b:=.agg (iA s.a s.N)) (by decide) ?_ ?_ (oA hr.N hs.N w) fun _=>?_
 ·rw [bZ w8 rfl _ _ w];exact congrArg (fun x=>Result.ok (Value.agg x) w) r.cat_l
 ·rw [bZ w8 rfl _ _ w];exact congrArg (fun x=>Result.ok (Value.agg x) w) s.cat_l
 refine bT (a:=.agg (iA r.b r.D)) (b:=.agg (iA s.b s.D)) (by decide) ?_ ?_ (oA hr.D hs.D w) fun _=>rO
 ·rw [bZ w8 rfl _ _ w];exact congrArg (fun x=>Result.ok (Value.agg x) w) r.cat_r
 ·rw [bZ w8 rfl _ _ w];exact congrArg (fun x=>Result.ok (Value.agg x) w) s.cat_r
theorem yo:Tryz.prog.eqGuardType Tryz.prog.depth 33=false:=by kernel_rfl
theorem Em {E:Env} (hE:E.P=Tryz.prog) {r s:RQ} (hr:r.In) (hs:s.In) {u v:Operand}:bH E (do eqGuard .eql 33 u v (.agg r.A) (.agg s.A);binOp .eql 33 (.agg r.A) (.agg s.A)) (.bool (r.beq s)) :=
 pr (by rw [hE];exact yo) fun w=>by rw [hE];exact ff hr hs w
def AC.beq (a b:AC):Bool:=(a.kind == b.kind) && (decide (a.key=b.key) && (decide (a.ins=b.ins) && (decide (a.into=b.into) && ((a.day == b.day) && ((a.num == b.num) && ((a.den == b.den) && (a.cash.beq b.cash && (decide (a.cur=b.cur) && ((a.known == b.known) && ((a.void == b.void) && true))))))))))
theorem ie {d:Nat} (t:TypeId) (ht:Tryz.prog.underlying t=some (.int .i64)) (x y:Int) (w:World):(Op.equalIn (d+1) t (.int .i64 x) (.int .i64 y)).run Tryz.prog w=.ok (x == y) w:=run_equalIn_int w d t _ _ _ _ ht
theorem H5 {d:Nat} (x y:List UInt8) (w:World):(Op.equalIn (d+1) 9 (.string (S x)) (.string (S y))).run Tryz.prog w=.ok (decide (x=y)) w:=by
 rw [<- eG];exact run_equalIn_string w d 9 _ _ Tryz.underlying9
def AC.nil (key:List UInt8) (known:Int):AC:=⟨0,key,[],[],0,0,0,⟨false,0,false,0⟩,[],known,true⟩
def cB (l:List UInt8):Bool:=cz true l && (decide (1<=l.length) && decide (l.length<=12))
def aF (l:List UInt8):Bool:=cz false l && (decide ((3:Int)<=l.length) && decide ((l.length:Int)<=3))
def AC.zero:AC:=⟨0,[],[],[],0,0,0,⟨false,0,false,0⟩,[],0,false⟩
structure EF where
 ins:List UInt8
 qty:Int
 cash:Int
def EF.A (x:EF):Array Value:=#[.string (S x.ins),.int .i64 x.qty,.int .i64 x.cash]
theorem EF.fits (x:EF):Fits x.A 3:=⟨rfl,by simp [EF.A,Value.oneCell']⟩
def EF.zero:EF:=⟨[],0,0⟩
theorem jG {N n:Nat} (hu:IsUsed N n) (hN:N < BB ^ 32):ay Tryz.prog 201 [SV.c (.agg (mA N))] (.int .i64 n):=by
 refine al ai ak Rm _ _ rfl rfl fun w=>?_
 refine ⟨bU _,fun k f m=>k<=32/\N < BB ^ k/\f=[(1,SV.ptr 1 0),(3,SV.c (.int .i64 k))]/\m=[(1,Blk.row 29 32 (mA N))],32,⟨_,_,⟨by omega,hN,rfl,rfl⟩,⟨rfl,rfl,trivial⟩,⟨rfl,trivial⟩,rfl⟩,?_⟩
 rintro k f m ⟨hk,hlt,rfl,rfl⟩
 refine ⟨fun h=>?_,fun h=>?_⟩
 ·have h1:(0:Int) < k:=af h
  have e:IntKind.i64.wrap ((k:Int) - 1)=((k - 1:Nat):Int):=by rw [i64_in (by omega)];omega
  have hg:(mA N)[(IntKind.i64.wrap ((k:Int) - 1)).toNat]? = some (.int .u32 ((dg N (k - 1):Nat):Int)):=by rw [e];exact bh (by omega)
  refine ⟨by rw [e];omega,by rw [e];show ((k - 1:Nat):Int) < 32;omega,_,hg,fun h2=>?_,fun h2=>?_⟩
  ·have h3:dg N (k - 1)=0:=by have:((dg N (k - 1):Nat):Int)=0:=by simpa using h2
                              omega
   exact ⟨k - 1,_,_,by omega,⟨by omega,qQ (by rw [show k - 1+1=k by omega];exact hlt) h3,rfl,rfl⟩,⟨rfl,ar e,trivial⟩,⟨rfl,trivial⟩,rfl⟩
  ·have h3:dg N (k - 1)≠0:=by intro h;rw [h] at h2;simp at h2
   have:k=n:=IsUsed.unique (Bx hlt (.inr h3)) hu
   exact ⟨by rw [this];rfl,trivial⟩
 ·refine ⟨nofun,fun _=>?_⟩
  have h1:¬ ((k:Int) > 0):=ag h
  have:k=n:=IsUsed.unique ⟨hlt,fun hk=>absurd hk (by omega)⟩ hu
  exact ⟨by rw [this];rfl,trivial⟩
theorem Da {N n:Nat} (hu:IsUsed N n):decide (N=0)=(((n:Nat):Int) == 0):=by
 rw [Bool.eq_iff_iff]
 simp only [decide_eq_true_eq,beq_iff_eq]
 constructor
 ·intro h;subst h
  rcases Nat.eq_zero_or_pos n with e | e
  ·rw [e];rfl
  ·have h2:=hu.2 e
   have:=bi (n - 1)
   omega
 ·intro h
  have:n=0:=by omega
  subst this
  have:=hu.1;simp at this;omega
theorem rU {N:Nat} (hN:N < BB ^ 32):ay Tryz.prog 145 [SV.c (.agg (mA N))] (.bool (decide (N=0))):=by
 obtain ⟨n,hn,hu⟩:=dr hN
 refine al ai ak Sh _ _ rfl rfl fun w=>?_
 rw [Da hu]
 exact ⟨bU _,.inl ⟨_,jG hu hN,rfl,trivial⟩⟩
theorem fh (neg:Bool) {N:Nat} (hN:N < BB ^ 32):ay Tryz.prog 144 [SV.c (.bool neg),SV.c (.agg (mA N))] (.agg (eA (zN neg N))):=by
 have e:eA (zN neg N)=iA (neg && !decide (N=0)) N:=by unfold eA;rw [bt,zu]
 rw [e]
 refine al ai ak Si _ _ rfl rfl fun w=>?_
 refine ⟨bU _,fun h=>.inl ⟨_,rU hN,_,pZ rfl rfl,dD _ _,by kernel_rfl,?_,trivial⟩,fun h=>⟨_,pZ rfl rfl,dD _ _,by kernel_rfl,?_,trivial⟩⟩
 ·have h:neg=true:=h
  rw [h];rfl
 ·have h:neg=false:=h
  rw [h];rfl
theorem qV {N M:Nat} (hN:N < BB ^ 32) (hM:M < BB ^ 32):ay Tryz.prog 158 [SV.c (.agg (mA N)),SV.c (.agg (mA M))] (.int .i64 (jK N M)):=by
 refine al ai ak RZ _ _ rfl rfl fun w=>?_
 refine ⟨bU _,bU _,fun k f m=>k<=32/\N / BB ^ k=M / BB ^ k/\f=[(2,SV.ptr 2 0),(3,SV.ptr 3 0),(5,SV.c (.int .i64 ((k:Int) - 1)))]/\m=[(2,Blk.row 29 32 (mA N)),(3,Blk.row 29 32 (mA M))],32,⟨_,_,⟨by omega,by rw [Nat.div_eq_of_lt hN,Nat.div_eq_of_lt hM],rfl,rfl⟩,⟨rfl,rfl,rfl,trivial⟩,⟨rfl,rfl,trivial⟩,rfl⟩,?_⟩
 rintro k f m ⟨hk,heq,rfl,rfl⟩
 refine ⟨fun h=>?_,fun h=>?_⟩
 ·have h1:(k:Int) - 1 >= 0:=af h
  have e:((k:Int) - 1).toNat=k - 1:=by omega
  have hn:(mA N)[((k:Int) - 1).toNat]? = some (.int .u32 ((dg N (k - 1):Nat):Int)):=by rw [e];exact bh (by omega)
  have hm:(mA M)[((k:Int) - 1).toNat]? = some (.int .u32 ((dg M (k - 1):Nat):Int)):=by rw [e];exact bh (by omega)
  have hb:(k:Int) - 1 < 32:=by omega
  have hs:N / BB ^ (k - 1+1)=M / BB ^ (k - 1+1):=by rw [show k - 1+1=k by omega];exact heq
  refine ⟨h1,hb,_,hn,h1,hb,_,hm,by kernel_rfl,fun h2=>?_,fun h2=>⟨h1,hb,_,hn,h1,hb,_,hm,by kernel_rfl,fun h3=>?_,fun h3=>?_⟩⟩
  ·have h3:dg N (k - 1) < dg M (k - 1):=by have:=af h2;omega
   have:=wH hs h3
   exact ⟨by simp only [jK,if_pos this];rfl,trivial⟩
  ·have h4:dg M (k - 1) < dg N (k - 1):=by have:=af h3;omega
   have:=wH hs.symm h4
   exact ⟨by simp only [jK,if_neg (show ¬ N < M by omega),if_pos this];rfl,trivial⟩
  ·have h4:dg N (k - 1)=dg M (k - 1):=by
     have:=ag h2
     have:=ag h3
     omega
   exact ⟨k - 1,_,_,by omega,⟨by omega,y7 hs h4,rfl,rfl⟩,⟨rfl,rfl,ar (by rw [i64_in (by omega)];omega),trivial⟩,⟨rfl,rfl,trivial⟩,rfl⟩
 ·have h1:¬ ((k:Int) - 1 >= 0):=ag h
  obtain rfl:k=0:=by omega
  simp only [Nat.pow_zero,Nat.div_one] at heq
  exact ⟨by simp only [jK,heq,Nat.lt_irrefl,if_false];rfl,trivial⟩
theorem Lx {N M:Nat} (hN:N < BB ^ 32) (hM:M < BB ^ 32):ay Tryz.prog 157 [SV.c (.agg (mA N)),SV.c (.agg (mA M))] (.tuple #[.agg (mA ((N+M) % BB ^ 32)),.bool (decide (N+M < BB ^ 32))]):=by
 refine al ai ak R6 _ _ rfl rfl fun w=>?_
 refine ⟨bU _,bU _,fun q f m=>∃ (k c:Nat) (g:Nat->Nat),q=32 - k/\k<=32/\c<=1/\(∀ j,j < k->g j < BB)/\nv g k+c*BB ^ k=nv (dg N) k+nv (dg M) k/\f=[(2,SV.ptr 2 0),(3,SV.ptr 3 0),(4,SV.ptr 4 0),(6,SV.ptr 6 0),(7,SV.c (.int .u64 c)),(8,SV.c (.int .i64 k))]/\m=[(2,Blk.row 29 32 (mA N)),(3,Blk.row 29 32 (mA M)),(4,Blk.row 29 32 (lA (fun _=>0) 32)),(6,Blk.row 29 32 (lA g 32))],32,⟨_,_,⟨0,0,fun _=>0,rfl,by omega,by omega,fun j hj=>absurd hj (by omega),xX _ _ _,rfl,rfl⟩,⟨rfl,rfl,rfl,rfl,rfl,rfl,trivial⟩,⟨rfl,rfl,rfl,rfl,trivial⟩,rfl⟩,?_⟩
 rintro q f m ⟨k,c,g,rfl,hk,hc,hg,hn,rfl,rfl⟩
 refine ⟨fun h=>?_,fun h=>?_⟩
 ·have h1:(k:Int) < 32:=af h
  have h0:(0:Int)<=k:=by omega
  have gN:=bh (N:=N) (show k < 32 by omega)
  have gM:=bh (N:=M) (show k < 32 by omega)
  have hx:=aL N k
  have hy:=aL M k
  rw [aR] at hx hy
  have ev:IntKind.u64.wrap (IntKind.u64.wrap (IntKind.u64.wrap (dg N k:Nat)+IntKind.u64.wrap (dg M k:Nat))+(c:Nat))=((dg N k+dg M k+c:Nat):Int):=by simp only [dL];omega
  refine ⟨h0,h1,_,gN,h0,h1,_,gM,by kernel_rfl,h0,h1,by show k < 32;omega,rfl,_,cw (i:=k) (x:=(k:Int)) (v:=(dg N k+dg M k+c) % BB) rfl (by rw [ev,bM,aR];rfl),by decide,?_⟩
  refine ⟨32 - (k+1),_,_,by omega,⟨k+1,(dg N k+dg M k+c) / BB,_,rfl,by omega,by rw [aR];omega,fun j hj=>?_,tM (k:=c) ?_ ?_,rfl,rfl⟩,⟨rfl,rfl,rfl,rfl,ar (by rw [ev];exact BH _),ar (by rw [i64_in (by omega)];rfl),trivial⟩,⟨rfl,rfl,rfl,rfl,trivial⟩,rfl⟩
  ·by_cases e:j=k
   ·subst e;simp only [if_true];exact Nat.mod_lt _ bI
   ·simp only [if_neg e];exact hg j (by omega)
  ·rw [lF];exact hn
  ·simp only [if_true];rw [Nat.mul_comm];exact Nat.mod_add_div _ _
 ·have h1:¬ ((k:Int) < 32):=ag h
  obtain rfl:k=32:=by omega
  obtain ⟨hs1,hs2⟩:=xO hN hM hg hn
  have hA:=Ce hg hs1
  refine ⟨dU _ _,kL (by rw [hA]) (bv ?_),trivial⟩
  rw [hs2,Bool.eq_iff_iff];simp
theorem Ib {N M c:Nat} {f:Nat->Nat} (hN:N < BB ^ 32) (hM:M < BB ^ 32) (hf:∀ j,j < 32->f j < BB) (h:nv f 32+nv (dg M) 32=nv (dg N) 32+c*BB ^ 32) (hc:c<=1):nv f 32=(N+BB ^ 32 - M) % BB ^ 32:=by
 rw [bD hN,bD hM] at h
 have hl:=mp hf
 generalize BB ^ 32=P at *
 have:c=0\/c=1:=by omega
 rcases this with rfl | rfl
 ·rw [show N+P - M=(N - M)+P by omega,Nat.add_mod_right,Nat.mod_eq_of_lt (by omega)];omega
 ·rw [show N+P - M=nv f 32 by omega,Nat.mod_eq_of_lt hl]
theorem yQ {N M:Nat} (hN:N < BB ^ 32) (h:M<=N):(N+BB ^ 32 - M) % BB ^ 32=N - M:=by
 rw [show N+BB ^ 32 - M=(N - M)+BB ^ 32 by omega,Nat.add_mod_right,Nat.mod_eq_of_lt (by omega)]
theorem gy {N M:Nat} (hN:N < BB ^ 32) (hM:M < BB ^ 32):ay Tryz.prog 159 [SV.c (.agg (mA N)),SV.c (.agg (mA M))] (.agg (mA ((N+BB ^ 32 - M) % BB ^ 32))):=by
 refine al ai ak RY _ _ rfl rfl fun w=>?_
 refine ⟨bU _,bU _,fun q f m=>∃ (k c:Nat) (g:Nat->Nat),q=32 - k/\k<=32/\c<=1/\(∀ j,j < k->g j < BB)/\nv g k+nv (dg M) k=nv (dg N) k+c*BB ^ k/\f=[(2,SV.ptr 2 0),(3,SV.ptr 3 0),(4,SV.ptr 4 0),(5,SV.ptr 5 0),(6,SV.c (.int .u64 c)),(7,SV.c (.int .i64 k))]/\m=[(2,Blk.row 29 32 (mA N)),(3,Blk.row 29 32 (mA M)),(4,Blk.row 29 32 (lA (fun _=>0) 32)),(5,Blk.row 29 32 (lA g 32))],32,⟨_,_,⟨0,0,fun _=>0,rfl,by omega,by omega,fun j hj=>absurd hj (by omega),uD _ _ _,rfl,rfl⟩,⟨rfl,rfl,rfl,rfl,rfl,rfl,trivial⟩,⟨rfl,rfl,rfl,rfl,trivial⟩,rfl⟩,?_⟩
 rintro q f m ⟨k,c,g,rfl,hk,hc,hg,hn,rfl,rfl⟩
 refine ⟨fun h=>?_,fun h=>?_⟩
 ·have h1:(k:Int) < 32:=af h
  have h0:(0:Int)<=k:=by omega
  have gN:=bh (N:=N) (show k < 32 by omega)
  have gM:=bh (N:=M) (show k < 32 by omega)
  have hx:=aL N k
  have hy:=aL M k
  rw [aR] at hx hy
  have ev:IntKind.u64.wrap (IntKind.u64.wrap (IntKind.u64.wrap (dg N k:Nat) - IntKind.u64.wrap (dg M k:Nat)) - (c:Nat))=((dg N k:Int) - dg M k - c) % 18446744073709551616:=by simp only [dL];omega
  refine ⟨h0,h1,_,gN,h0,h1,_,gM,by kernel_rfl,h0,h1,by show k < 32;omega,rfl,_,cw (i:=k) (x:=(k:Int)) (v:=(dg N k+BB - (dg M k+c)) % BB) rfl (by rw [ev,bM,aR];omega),by decide,?_⟩
  refine ⟨32 - (k+1),_,_,by omega,⟨k+1,(if dg N k < dg M k+c then 1 else 0:Nat),_,rfl,by omega,by split<;>omega,fun j hj=>?_,xf (k:=c) ?_ ?_,rfl,rfl⟩,⟨rfl,rfl,rfl,rfl,ar ?_,ar (by rw [i64_in (by omega)];rfl),trivial⟩,⟨rfl,rfl,rfl,rfl,trivial⟩,rfl⟩
  ·by_cases e:j=k
   ·subst e;simp only [if_true];exact Nat.mod_lt _ bI
   ·simp only [if_neg e];exact hg j (by omega)
  ·rw [lF];exact hn
  ·simp only [if_true];rw [aR] at *;split<;>omega
  ·rw [ev,rG]
   show ((dg N k:Int) - dg M k - c) % 18446744073709551616 / 9223372036854775808=_
   split<;>omega
 ·have h1:¬ ((k:Int) < 32):=ag h
  obtain rfl:k=32:=by omega
  have hA:=Ce hg (Ib hN hM hg hn hc)
  exact ⟨dU _ _,by rw [<- hA];rfl,trivial⟩
theorem IsI.raw {A:Array Value} {z:Int} (h:IsI A z):∃ neg N,N < BB ^ 32/\A=iA neg N/\z=zN neg N:=h.ex
theorem s7 {neg:Bool} {N i:Nat} (h:i < 32):(iA neg N)[1+i]? = some (.int .u32 (dg N i:Nat)):=by
 rw [iA,Array.getElem?_append_right (by simp)]
 have e:1+i - (#[Value.bool neg]:Array Value).size=i:=by simp
 rw [e];exact bh h
def iB (neg:Bool) (f:Nat->Nat):Array Value:=#[.bool neg]++lA f 32
theorem Hu (neg:Bool) (f:Nat->Nat) (i v:Nat):(iB neg f).setIfInBounds (1+i) (.int .u32 (v:Nat))=iB neg (fun k=>if k=i then v else f k):=by
 unfold iB
 rw [<- kY]
 apply Array.ext_getElem?
 intro j
 by_cases h:j=1+i
 ·subst h
  rw [Array.getElem?_setIfInBounds_self,Array.getElem?_append_right (by simp)]
  have e:1+i - (#[Value.bool neg]:Array Value).size=i:=by simp
  rw [e,Array.getElem?_setIfInBounds_self]
  simp [fC]
  by_cases h2:i < 32
  ·rw [if_pos h2,if_pos (by omega)]
  ·rw [if_neg h2,if_neg (by omega)]
 ·rw [Array.getElem?_setIfInBounds_ne (fun e=>h e.symm)]
  by_cases h0:j < 1
  ·rw [Array.getElem?_append_left (by simpa using h0),Array.getElem?_append_left (by simpa using h0)]
  ·rw [Array.getElem?_append_right (by simp;omega),Array.getElem?_append_right (by simp;omega)]
   rw [Array.getElem?_setIfInBounds_ne (by simp;omega)]
theorem Pv {neg:Bool} {f:Nat->Nat} {N:Nat} (h:∀ i,i < 32->f i=dg N i):iB neg f=iA neg N:=by
 unfold iB iA mA
 rw [aN h]
theorem gQ {A:Array Value} {z:Int} (h:IsI A z):ay Tryz.prog 78 [SV.c (.agg A)] (.int .i64 (sgn z)):=by
 obtain ⟨neg,N,hN,rfl,rfl⟩:=h.raw
 refine al ai ak Uh _ _ rfl rfl fun w=>?_
 refine ⟨bp _ _,by decide,_,cE,.inl ⟨_,rU hN,fun h1=>⟨iv ?_,trivial⟩,fun h1=>⟨_,dA,fun h2=>⟨iv ?_,trivial⟩,fun h2=>⟨iv ?_,trivial⟩⟩⟩⟩
 ·have h1:N=0:=af h1
  subst h1
  cases neg<;>rfl
 ·have h1:¬ N=0:=ag h1
  have h2:neg=true:=h2
  subst h2
  unfold sgn zN;rw [if_pos rfl,if_pos (by omega)]
 ·have h1:¬ N=0:=ag h1
  have h2:neg=false:=h2
  subst h2
  unfold sgn zN;rw [if_neg Bool.false_ne_true,if_neg (by omega),if_neg (by omega)]
theorem GH {A:Array Value} {z:Int} (h:IsI A z):ay Tryz.prog 148 [SV.c (.agg A)] (.agg (eA (-z))):=by
 obtain ⟨neg,N,hN,rfl,rfl⟩:=h.raw
 refine al ai ak Se _ _ rfl rfl fun w=>?_
 have e:zN (!neg) N=-zN neg N:=by cases neg<;>simp [zN]
 rw [<- e]
 exact ⟨bp _ _,_,dA,by decide,_,cE,.inl ⟨_,fh _ hN,am _,rfl,trivial⟩⟩
theorem IW {A:Array Value} {z:Int} (h:IsI A z):ay Tryz.prog 76 [SV.c (.agg A)] (.agg (eA (z.natAbs:Int))):=by
 obtain ⟨neg,N,hN,rfl,rfl⟩:=h.raw
 refine al ai ak Uj _ _ rfl rfl fun w=>?_
 have e:((zN neg N).natAbs:Int)=zN false N:=by rw [bt];rfl
 rw [e]
 exact ⟨bp _ _,by decide,_,cE,.inl ⟨_,fh _ hN,am _,rfl,trivial⟩⟩
theorem L8 {A B:Array Value} {x y:Int} (hA:IsI A x) (hB:IsI B y):ay Tryz.prog 97 [SV.c (.agg A),SV.c (.agg B)] (.int .i64 (eK x y)):=by
 have s1:=gQ hA
 have s2:=gQ hB
 have hx:=hA.lt
 have hy:=hB.lt
 obtain ⟨a,N,hN,rfl,ex⟩:=hA.raw
 obtain ⟨b,M,hM,rfl,ey⟩:=hB.raw
 refine al ai ak TZ _ _ rfl rfl fun w=>?_
 have eN:x.natAbs=N:=by rw [ex,bt]
 have eM:y.natAbs=M:=by rw [ey,bt]
 refine ⟨bp _ _,bp _ _,.inl ⟨_,s1,.inl ⟨_,s2,by kernel_rfl,fun h=>⟨?_,trivial⟩,fun h=>⟨fun h2=>⟨?_,trivial⟩,fun h2=>⟨by decide,_,cE,by decide,_,cE,.inl ⟨_,qV hN hM,iv ?_,trivial⟩⟩⟩⟩⟩⟩
 ·have h:=af h
  rw [rQ (by omega),if_pos h];rfl
 ·have h:=ag h
  have h2:=af h2
  rw [rQ (by omega),if_neg h];rfl
 ·have h:=ag h
  have h2:=ag h2
  rw [CI (by omega),eN,eM]
  have:=FX x
  rcases CD N M with h1 | h1 | h1<;>rw [h1]<;>exact i64_in (by omega)
theorem K7 {v:Nat} (h:0 < v):bl v=bl (v / 2)+1:=by
 rcases Nat.lt_or_ge v 2 with h2 | h2
 ·have:v=1:=by omega
  subst this;rfl
 ·rw [lm (s:=1) (by omega),Nat.pow_one];omega
theorem q9 {A:Array Value} {z:Int} (h:IsI A z):ay Tryz.prog 149 [SV.c (.agg A)] (.int .i64 (bl z.natAbs)):=by
 obtain ⟨neg,N,hN,rfl,rfl⟩:=h.raw
 obtain ⟨n,hn,hu⟩:=dr hN
 rw [bt]
 refine al ai ak Sd _ _ rfl rfl fun w=>?_
 refine ⟨bp _ _,by decide,_,cE,.inl ⟨_,jG hu hN,fun h=>?_,fun h=>?_⟩⟩
 ·have h0:n=0:=by have:(n:Int)=0:=by simpa using h
                  omega
  subst h0
  have:N=0:=by have:=hu.1;simp at this;omega
  subst this
  exact ⟨rfl,trivial⟩
 ·have h0:0 < n:=by
    rcases Nat.eq_zero_or_pos n with e | e
    ·subst e;simp at h
    ·exact e
  have e1:IntKind.i64.wrap ((n:Int) - 1)=((n - 1:Nat):Int):=by rw [i64_in (by omega)];omega
  have e2:IntKind.i64.wrap (32*IntKind.i64.wrap ((n:Int) - 1))=((32*(n - 1):Nat):Int):=by rw [e1,i64_in (by omega)];omega
  obtain ⟨hb,hb0⟩:=tK hu h0
  have hb2:bl (dg N (n - 1))<=32:=jU (aL _ _)
  have hg:(iA neg N)[1+(IntKind.i64.wrap ((n:Int) - 1)).toNat]? = some (.int .u32 ((dg N (n - 1):Nat):Int)):=by rw [e1];exact s7 (by omega)
  refine ⟨by rw [e1];omega,by rw [e1];show ((n - 1:Nat):Int) < 32;omega,_,hg,?_⟩
  refine ⟨fun q f m=>∃ k:Nat,q < BB/\k+bl q=bl N/\f=[(4,SV.c (.int .i64 k)),(5,SV.c (.int .u32 q))]/\m=[],dg N (n - 1),⟨_,_,⟨32*(n - 1),aL _ _,hb.symm,rfl,rfl⟩,⟨ar e2,rfl,trivial⟩,trivial,rfl⟩,?_⟩
  rintro q f m ⟨k,hq,hk,rfl,rfl⟩
  refine ⟨fun h1=>?_,fun h1=>?_⟩
  ·have h1:0 < q:=by have:=af h1;omega
   have hh:=K7 h1
   have hbn:bl N<=1024:=by omega
   exact ⟨by decide,q / 2,_,_,by omega,⟨k+1,by omega,by omega,rfl,rfl⟩,⟨ar (by rw [i64_in (by omega)];rfl),ar (iJ q 1),trivial⟩,trivial,rfl⟩
  ·have h1:q=0:=by have:=ag h1;omega
   subst h1
   have:bl 0=0:=rfl
   exact ⟨iv (by omega),trivial⟩
theorem Kp (b:Bool) (f:Nat->Nat):(iB false f).setIfInBounds 0 (.bool b)=iB b f:=by
 unfold iB
 apply Array.ext_getElem?
 intro j
 by_cases h:j=0
 ·subst h
  rw [Array.getElem?_setIfInBounds_self,Array.getElem?_append_left (by simp)]
  simp
 ·rw [Array.getElem?_setIfInBounds_ne (fun e=>h e.symm),Array.getElem?_append_right (by simp;omega),Array.getElem?_append_right (by simp;omega)]
  rfl
theorem eF (n:Int) (h1 : -9223372036854775808<=n) (h2:n<=9223372036854775807):ay Tryz.prog 79 [SV.c (.int .i64 n)] (.agg (eA n)):=by
 refine fK [4] ai ak Ug _ _ rfl rfl fun w=>?_
 have hN:n.natAbs < 18446744073709551616:=by omega
 refine ⟨fun f m=>f=[(0,SV.c (.int .i64 n)),(2,SV.ptr 2 0),(3,SV.c (.int .u64 (n.natAbs:Nat)))]/\m=[(2,Blk.row 31 33 eW.zero)],⟨fun h=>?_,fun h=>?_⟩,?_⟩
 ·have hn:=af h
  have e:IntKind.u64.wrap (0 - IntKind.u64.wrap n)=((n.natAbs:Nat):Int):=by simp only [dL];omega
  exact ⟨_,_,⟨rfl,rfl⟩,⟨rfl,rfl,ar e,trivial⟩,⟨rfl,trivial⟩,rfl⟩
 ·have hn:=ag h
  have e:IntKind.u64.wrap n=((n.natAbs:Nat):Int):=by simp only [dL];omega
  exact ⟨_,_,⟨rfl,rfl⟩,⟨rfl,rfl,ar e,trivial⟩,⟨rfl,trivial⟩,rfl⟩
 rintro f m ⟨rfl,rfl⟩
 have e0:IntKind.u32.wrap ((n.natAbs:Nat):Int)=((n.natAbs % 4294967296:Nat):Int):=by rw [bM];omega
 have e1:IntKind.u32.wrap (((n.natAbs:Nat):Int).fdiv (2 ^ min (Int.toNat 32) IntKind.u64.bits))=((n.natAbs / 4294967296:Nat):Int):=by
  rw [show ((n.natAbs:Nat):Int).fdiv (2 ^ min (Int.toNat 32) IntKind.u64.bits)=((n.natAbs / 4294967296:Nat):Int) from iJ _ 32]
  exact eU (by omega)
 refine ⟨by decide,rfl,_,Kp (decide (n < 0)) (fun _=>0),by decide,by decide,by decide,by decide,rfl,iB (decide (n < 0)) (fun k=>if k=0 then n.natAbs % 4294967296 else 0),?_,by decide,by decide,by decide,rfl,eA n,?_,?_⟩
 ·rw [e0]
  exact Hu (decide (n < 0)) (fun _=>0) 0 (n.natAbs % 4294967296)
 ·rw [e1]
  refine Eq.trans (Hu (decide (n < 0)) _ 1 (n.natAbs / 4294967296)) (Pv fun i hi=>?_)
  by_cases h1:i=1
  ·subst h1
   rw [if_pos rfl]
   simp only [dg,aR,Nat.pow_one];omega
  ·rw [if_neg h1]
   by_cases h0:i=0
   ·subst h0
    rw [if_pos rfl]
    simp only [dg,aR,Nat.pow_zero,Nat.div_one]
   ·rw [if_neg h0,Ie hN (by omega)]
 ·exact ⟨am _,rfl,trivial⟩
theorem Jn {A:Array Value} {z:Int} (hA:IsI A z):ay Tryz.prog 203 [SV.c (.agg A)] (dm z):=by
 have hzl:=hA.lt
 obtain ⟨neg,N,hN,rfl,rfl⟩:=hA.raw
 obtain ⟨n,hn,hu⟩:=dr hN
 have hab:=bt neg N
 have hlim:∀ i,i < 32->(eA (zN neg N))[1+i]? = some (.int .u32 (dg N i:Nat)):=fun i hi=>by unfold eA;rw [hab];exact s7 hi
 have hmag:(eA (zN neg N)).extract 1 33=mA N:=by unfold eA;rw [hab];exact cE
 have hneg:(eA (zN neg N))[0]? = some (.bool (decide (zN neg N < 0))):=dA
 have hc:=fh neg hN
 generalize zN neg N=z at *
 refine al ai ak Rk _ _ rfl rfl fun w=>?_
 have h64:(n:Int) > 2↔¬ N < 18446744073709551616:=by
  constructor
  ·intro h h2
   have h3:=hu.2 (by omega)
   have h4:BB ^ 2<=BB ^ (n - 1):=Nat.pow_le_pow_right bI (by omega)
   rw [show BB ^ 2=18446744073709551616 from by decide] at h4
   omega
  ·intro h
   rcases Nat.lt_or_ge 2 n with h2 | h2
   ·omega
   ·exfalso
    have h4:BB ^ n<=BB ^ 2:=Nat.pow_le_pow_right bI h2
    rw [show BB ^ 2=18446744073709551616 from by decide] at h4
    have:=hu.1
    omega
 refine ⟨bp _ _,_,dA,by decide,_,cE,.inl ⟨_,hc,am _,by decide,_,hmag,.inl ⟨_,jG hu hN,fun h=>?_,fun h=>?_⟩⟩⟩
 ·have h:=h64.1 (af h)
  refine ⟨?_,trivial⟩
  rw [dm,if_neg (by omega)];rfl
 ·have h:N < 18446744073709551616:=by
    have:=ag h
    rw [h64] at this;omega
  have eu:=D0 (aL N 1) (aL N 0) rfl rfl
  have ed:dg N 1*BB+dg N 0=N:=by
   simp only [dg,aR,Nat.pow_one,Nat.pow_zero,Nat.div_one];omega
  rw [ed] at eu
  have g1:=hlim 1 (by omega)
  have g0:=hlim 0 (by omega)
  refine ⟨by decide,by decide,_,g1,by decide,by decide,by decide,_,g0,_,hneg,fun h1=>⟨fun h2=>?_,fun h2=>⟨_,hneg,?_⟩⟩,fun h1=>⟨nofun,fun _=>⟨_,hneg,?_⟩⟩⟩
  ·rw [eu] at h2
   have h1:=ag (bnt h1)
   have h2:=af h2
   refine ⟨?_,trivial⟩
   rw [dm,if_pos (by omega)]
   refine kL (iv ?_) rfl
   rw [eu,IntKind.wrap_i64]
   omega
  ·rw [eu] at h2
   have h1:=ag (bnt h1)
   have h2:=ag h2
   refine ⟨fun h3=>absurd (af h3) h1,fun _=>⟨nofun,fun _=>⟨?_,trivial⟩⟩⟩
   rw [dm,if_neg (by omega)];rfl
  ·have h1:=af (bnf h1)
   refine ⟨fun _=>⟨fun h2=>⟨?_,trivial⟩,fun h2=>⟨?_,trivial⟩⟩,fun h3=>absurd h1 (ag h3)⟩
   ·rw [eu] at h2
    have h2:=af h2
    rw [dm,if_pos (by omega)]
    refine kL (iv ?_) rfl
    rw [eu,dL,IntKind.wrap_i64]
    omega
   ·rw [eu] at h2
    have h2:=ag h2
    rw [dm,if_neg (by omega)];rfl
theorem IU {A B:Array Value} {x y:Int} (hA:IsI A x) (hB:IsI B y):ay Tryz.prog 94 [SV.c (.agg A),SV.c (.agg B)] (eI (x+y)):=by
 have hx:=hA.lt
 have hy:=hB.lt
 obtain ⟨a,N,hN,rfl,ex⟩:=hA.raw
 obtain ⟨b,M,hM,rfl,ey⟩:=hB.raw
 have eN:x.natAbs=N:=by rw [ex,bt]
 have eM:y.natAbs=M:=by rw [ey,bt]
 have c1:=fh a hN
 have c2:=fh b hM
 rw [<- ex] at c1
 rw [<- ey] at c2
 refine fK [9] ai ak T6 _ _ rfl rfl fun w=>?_
 have mag:∀ z:Int,(eA z).extract 1 33=mA z.natAbs:=fun z=>cE
 have ng:∀ z:Int,(eA z)[0]? = some (.bool (decide (z < 0))):=fun z=>dA
 refine ⟨bp _ _,bp _ _,_,dA,by decide,_,cE,.inl ⟨_,c1,_,dA,by decide,_,cE,.inl ⟨_,c2,am _,am _,by kernel_rfl,_,ng x,_,ng y,fun h=>?_,fun h=>?_⟩⟩⟩
 ·have h:decide (x < 0)=decide (y < 0):=by simpa using h
  refine ⟨by decide,_,mag x,by decide,_,mag y,.inl ⟨_,Lx hx hy,aE _,fun h2=>?_,fun h2=>?_⟩⟩
  ·have h2:¬ (x.natAbs+y.natAbs < BB ^ 32):=ag (bnt h2)
   refine ⟨eW.zero,rfl,am 0,?_,trivial⟩
   rw [eI,if_neg (by rw [(jn h).1];exact h2)];rfl
  ·have h2:x.natAbs+y.natAbs < BB ^ 32:=af (bnf h2)
   have cc:=fh (decide (x < 0)) h2
   rw [(jn h).2] at cc
   rw [Nat.mod_eq_of_lt h2]
   refine ⟨_,ng x,.inl ⟨_,cc,am _,?_,trivial⟩⟩
   rw [eI,if_pos (by rw [(jn h).1];exact h2)];rfl
 ·have hne:decide (x < 0)=!decide (y < 0):=sQ (by simpa using h)
  refine ⟨fun f mm=>∃ u v:Int,v.natAbs<=u.natAbs/\u.natAbs < BB ^ 32/\decide (u < 0)=(!decide (v < 0))/\u+v=x+y/\f=[(2,SV.ptr 2 0),(3,SV.ptr 3 0),(4,SV.ptr 4 0)]/\mm=[(2,Blk.row 31 33 (eA u)),(3,Blk.row 31 33 (eA v)),(4,Blk.row 31 33 eW.zero)],⟨by decide,_,mag x,by decide,_,mag y,.inl ⟨_,qV hx hy,fun h2=>?_,fun h2=>?_⟩⟩,?_⟩
  ·rw [lj] at h2
   have hlt:=af h2
   exact ⟨am _,am _,_,_,⟨y,x,by omega,hy,by rw [hne];simp,Int.add_comm _ _,rfl,rfl⟩,⟨rfl,rfl,rfl,trivial⟩,⟨rfl,rfl,rfl,trivial⟩,rfl⟩
  ·rw [lj] at h2
   have hlt:=ag h2
   exact ⟨_,_,⟨x,y,by omega,hx,hne,rfl,rfl,rfl⟩,⟨rfl,rfl,rfl,trivial⟩,⟨rfl,rfl,rfl,trivial⟩,rfl⟩
  rintro f mm ⟨u,v,huv,hu,hs,e,rfl,rfl⟩
  have hd:=gy hu (Nat.lt_of_le_of_lt huv hu)
  rw [yQ hu huv] at hd
  have hl:u.natAbs - v.natAbs < BB ^ 32:=Nat.lt_of_le_of_lt (Nat.sub_le _ _) hu
  have cc:=fh (decide (u < 0)) hl
  rw [(rT hs).2 (by omega),e] at cc
  have hb:(x+y).natAbs < BB ^ 32:=by rw [<- e,<- (rT hs).2 (by omega),bt];exact hl
  refine ⟨_,ng u,by decide,_,mag u,by decide,_,mag v,.inl ⟨_,hd,.inl ⟨_,cc,am _,by kernel_rfl,?_,trivial⟩⟩⟩
  rw [eI,if_pos hb];rfl
theorem x6 {A B:Array Value} {x y:Int} (hA:IsI A x) (hB:IsI B y):ay Tryz.prog 142 [SV.c (.agg A),SV.c (.agg B)] (eI (x*y)):=by
 obtain ⟨a,N,hN,rfl,rfl⟩:=hA.raw
 obtain ⟨b,M,hM,rfl,rfl⟩:=hB.raw
 obtain ⟨n,hn,hu⟩:=dr hN
 obtain ⟨m,hm,hv⟩:=dr hM
 have ez:zN (a != b) (N*M)=zN a N*zN b M:=by
  cases a<;>cases b<;>simp [zN,Int.neg_mul,Int.mul_neg]
 have eab:(zN a N*zN b M).natAbs=N*M:=by rw [<- ez,bt]
 refine al ai ak Sk _ _ rfl rfl fun w=>?_
 refine ⟨bp _ _,bp _ _,by decide,_,cE,.inl ⟨_,jG hu hN,by decide,_,cE,.inl ⟨_,jG hv hM,by kernel_rfl,?_⟩⟩⟩
 refine ⟨fun q f mm=>∃ (i:Nat) (F:Nat->Nat),q=n - i/\i<=n/\MulO N M m i F/\f=[(2,SV.ptr 2 0),(3,SV.ptr 3 0),(4,SV.ptr 4 0),(6,SV.ptr 6 0),(7,SV.c (.int .i64 n)),(8,SV.c (.int .i64 m)),(9,SV.c (.int .i64 i))]/\mm=[(2,Blk.row 31 33 (iA a N)),(3,Blk.row 31 33 (iA b M)),(4,Blk.row 31 33 eW.zero),(6,Blk.row 219 64 (lA F 64))],n,⟨_,_,⟨0,fun _=>0,rfl,Nat.zero_le _,MulO.start N M m,rfl,rfl⟩,⟨rfl,rfl,rfl,rfl,rfl,rfl,rfl,trivial⟩,⟨rfl,rfl,rfl,rfl,trivial⟩,rfl⟩,?_⟩
 rintro q f mm ⟨i,F,rfl,hi,hF,rfl,rfl⟩
 refine ⟨fun h=>?_,fun h=>?_⟩
 ·have hin:i < n:=by have:=af h;omega
  refine ⟨fun q f mm=>∃ (j c:Nat) (G:Nat->Nat),q=m - j/\j<=m/\MulI N M m i j F G c/\f=[(2,SV.ptr 2 0),(3,SV.ptr 3 0),(4,SV.ptr 4 0),(6,SV.ptr 6 0),(7,SV.c (.int .i64 n)),(8,SV.c (.int .i64 m)),(9,SV.c (.int .i64 i)),(10,SV.c (.int .u64 c)),(11,SV.c (.int .i64 j))]/\mm=[(2,Blk.row 31 33 (iA a N)),(3,Blk.row 31 33 (iA b M)),(4,Blk.row 31 33 eW.zero),(6,Blk.row 219 64 (lA G 64))],m,⟨_,_,⟨0,0,F,rfl,Nat.zero_le _,hF.row,rfl,rfl⟩,⟨rfl,rfl,rfl,rfl,rfl,rfl,rfl,rfl,rfl,trivial⟩,⟨rfl,rfl,rfl,rfl,trivial⟩,rfl⟩,?_⟩
  rintro q f mm ⟨j,c,G,rfl,hj,hG,rfl,rfl⟩
  refine ⟨fun h2=>?_,fun h2=>?_⟩
  ·have hjm:j < m:=by have:=af h2;omega
   have e1:IntKind.i64.wrap ((i:Int)+j)=((i+j:Nat):Int):=by rw [i64_in (by omega)];omega
   have gN:(iA a N)[1+i]? = _:=s7 (show i < 32 by omega)
   have gM:(iA b M)[1+j]? = _:=s7 (show j < 32 by omega)
   have gC:(lA G 64)[(IntKind.i64.wrap ((i:Int)+j)).toNat]? = some (.int .u32 (G (i+j):Nat)):=by rw [e1];exact bG G (by omega)
   have eM:=LN (aL N i) (aL M j) (hG.lt (i+j)) hG.carry
   have hlt:=qM (aL N i) (aL M j) (hG.lt (i+j)) hG.carry
   refine ⟨by omega,by show (i:Int) < 32;omega,_,gN,by omega,by show (j:Int) < 32;omega,_,gM,by rw [e1];omega,by rw [e1];show ((i+j:Nat):Int) < 64;omega,_,gC,by kernel_rfl,by rw [e1];omega,by rw [e1];show ((i+j:Nat):Int) < 64;omega,by rw [e1];show i+j < 64;omega,rfl,_,cw e1 (v:=(dg N i*dg M j+G (i+j)+c) % BB) (by rw [eM,bM,aR];rfl),by decide,?_⟩
   refine ⟨m - (j+1),_,_,by omega,⟨j+1,_,_,rfl,by omega,hG.step,rfl,rfl⟩,⟨rfl,rfl,rfl,rfl,rfl,rfl,rfl,ar (by rw [eM];exact BH _),ar (by rw [i64_in (by omega)];rfl),trivial⟩,⟨rfl,rfl,rfl,rfl,trivial⟩,rfl⟩
  ·have:j=m:=by have:=ag h2;omega
   subst this
   have e1:IntKind.i64.wrap ((i:Int)+j)=((i+j:Nat):Int):=by rw [i64_in (by omega)];omega
   have hcc:=hG.carry
   rw [aR] at hcc
   refine ⟨by rw [e1];omega,by rw [e1];show ((i+j:Nat):Int) < 64;omega,by rw [e1];show i+j < 64;omega,rfl,_,cw e1 (v:=c) (eU (by omega)),?_⟩
   exact ⟨n - (i+1),_,_,by omega,⟨i+1,_,rfl,by omega,hG.done hF hv.1,rfl,rfl⟩,⟨rfl,rfl,rfl,rfl,rfl,rfl,ar (by rw [i64_in (by omega)];rfl),trivial⟩,⟨rfl,rfl,rfl,rfl,trivial⟩,rfl⟩
 ·have:i=n:=by have:=ag h;omega
  subst this
  obtain ⟨h1,h2,h3⟩:=BZ hF.lt (hF.full hu.1 (by omega))
  refine ⟨fun q f mm=>∃ (k:Nat) (g:Nat->Nat),q=32 - k/\k<=32/\(∀ j,j < k->dg (N*M / BB ^ 32) j=0/\g j=dg (N*M % BB ^ 32) j)/\f=[(2,SV.ptr 2 0),(3,SV.ptr 3 0),(4,SV.ptr 4 0),(6,SV.ptr 6 0),(13,SV.ptr 13 0),(14,SV.c (.int .i64 k))]/\mm=[(2,Blk.row 31 33 (iA a N)),(3,Blk.row 31 33 (iA b M)),(4,Blk.row 31 33 eW.zero),(6,Blk.row 219 64 (lA F 64)),(13,Blk.row 29 32 (lA g 32))],32,⟨_,_,⟨0,fun _=>0,rfl,Nat.zero_le _,fun j hj=>absurd hj (by omega),rfl,rfl⟩,⟨rfl,rfl,rfl,rfl,rfl,rfl,trivial⟩,⟨rfl,rfl,rfl,rfl,rfl,trivial⟩,rfl⟩,?_⟩
  rintro q f mm ⟨k,g,rfl,hk,hg,rfl,rfl⟩
  refine ⟨fun h4=>?_,fun h4=>?_⟩
  ·have h4:k < 32:=by have:=af h4;omega
   have e1:IntKind.i64.wrap (32+(k:Int))=((32+k:Nat):Int):=by rw [i64_in (by omega)];omega
   have gH:(lA F 64)[(IntKind.i64.wrap (32+(k:Int))).toNat]? = some (.int .u32 (F (32+k):Nat)):=by rw [e1];exact bG F (by omega)
   have gL:(lA F 64)[k]? = some (.int .u32 (F k:Nat)):=bG F (by omega)
   refine ⟨by rw [e1];omega,by rw [e1];show ((32+k:Nat):Int) < 64;omega,_,gH,fun h5=>?_,fun h5=>?_⟩
   ·have h5:F (32+k)≠0:=by intro e;rw [e] at h5;simp at h5
    rw [h2 k h4] at h5
    have:¬ N*M < BB ^ 32:=by
     intro hl
     rw [Nat.div_eq_of_lt hl,wF] at h5
     exact h5 rfl
    refine ⟨eW.zero,rfl,am 0,?_,trivial⟩
    rw [eI,if_neg (by rw [eab];exact this)];rfl
   ·have h5:F (32+k)=0:=by
      have:((F (32+k):Nat):Int)=0:=by simpa using h5
      omega
    rw [h2 k h4] at h5
    refine ⟨by omega,by show (k:Int) < 64;omega,_,gL,by omega,by show (k:Int) < 32;omega,by show k < 32;omega,rfl,_,cw (i:=k) (x:=(k:Int)) rfl rfl,?_⟩
    refine ⟨32 - (k+1),_,_,by omega,⟨k+1,_,rfl,by omega,fun j hj=>?_,rfl,rfl⟩,⟨rfl,rfl,rfl,rfl,rfl,ar (by rw [i64_in (by omega)];rfl),trivial⟩,⟨rfl,rfl,rfl,rfl,rfl,trivial⟩,rfl⟩
    by_cases e:j=k
    ·subst e
     exact ⟨h5,by rw [if_pos rfl];exact h1 j h4⟩
    ·rw [if_neg e];exact hg j (by omega)
  ·have h4:k=32:=by have:=ag h4;omega
   subst h4
   have hz:N*M / BB ^ 32=0:=If (n:=32) h3 (bi 32) fun j hj=>by rw [(hg j hj).1,wF]
   have hl:N*M < BB ^ 32:=(Nat.div_eq_zero_iff_lt (bi 32)).1 hz
   have hA:lA g 32=mA (N*M):=aN fun j hj=>by rw [(hg j hj).2,Nat.mod_eq_of_lt hl]
   rw [hA]
   have cc:=fh (a != b) hl
   rw [ez] at cc
   refine ⟨_,dA,_,dA,.inl ⟨_,cc,am _,?_,trivial⟩⟩
   rw [eI,if_pos (by rw [eab];exact hl)];rfl
end Go.Proofs.YtklehfchdoikeaaGreatDoor
