/- walks: texts of decimals. walks: prices, actions in memory. ; no condition. -/
import Derived.Laws.Slices
import Derived.Laws.Strings3
import Derived.Test.YtklehfchdoikeaaGreatDoorValuationExactQ14
set_option maxRecDepth 100000
set_option maxHeartbeats 4000000
namespace Go.Proofs.YtklehfchdoikeaaGreatDoor
open Go Go.RowKit Go.SX
def S (l:List UInt8):ByteArray:=⟨l.toArray⟩
theorem aH (l:List UInt8):(S l).size=l.length:=by show l.toArray.size=_;simp
theorem Qk (s:ByteArray):s=S s.data.toList:=by simp [S]
theorem dn (a b:List UInt8):((S a).toList == (S b).toList)=decide (a=b):=by
 rw [ByteArray.toList_eq,ByteArray.toList_eq]
 show (a == b)=_
 rw [Bool.eq_iff_iff];simp
theorem bg (a b:List UInt8):S a++S b=S (a++b):=by
 apply ByteArray.ext
 show (S a++S b).data=_
 rw [ByteArray.data_append]
 simp [S]
theorem Gx (l:List UInt8) (a b:Nat):(S l).extract a b=S ((l.take b).drop a):=by
 apply ByteArray.ext
 rw [ByteArray.data_extract]
 apply Array.ext'
 simp [S,List.drop_take]
theorem az {P:Program} {t ty:TypeId} (hu:P.underlying t=some .string) {cs:Array Bool} {l:List UInt8} (w:World):(builtin .len #[t] ty cs #[.string (S l)]).run P w=.ok (.value (.int .i64 (l.length:Nat))) w:=by
 simp [builtin,Builtin.len_,Sem.run_bind,run_underlying hu,goInt,aH]
theorem gR {E:Env} {t:TypeId} (hu:E.P.underlying t=some .string) {l:List UInt8} {k:IntKind} {x:Int} (n:Nat) (hx:x=n) (hn:n<=l.length):bB E (Instr.sliceAt t (.string (S l)) none (some (.int k x)) none) (.string (S (l.take n))):=fun w _=>by
 subst hx
 have h:=run_slice_string_h (P:=E.P) w t (S l) hu k n (by omega) (by rw [aH];omega)
 simp only [Instr.sliceAt,Sem.run_bind,run_underlying hu,Result.andThen_ok]
 rw [h,Gx]
 simp
theorem jw {E:Env} {t:TypeId} (hu:E.P.underlying t=some .string) {l:List UInt8} {k:IntKind} {x:Int} (n:Nat) (hx:x=n) (hn:n<=l.length):bB E (Instr.sliceAt t (.string (S l)) (some (.int k x)) none none) (.string (S (l.drop n))):=fun w _=>by
 subst hx
 have h:=run_slice_string_l (P:=E.P) w t (S l) hu k n (by omega) (by rw [aH];omega)
 simp only [Instr.sliceAt,Sem.run_bind,run_underlying hu,Result.andThen_ok]
 rw [h,Gx,aH]
 simp
theorem bL {E:Env} {t:TypeId} (hu:E.P.underlying t=some .string) {l:List UInt8} {k:IntKind} {x:Int} (n:Nat) (hx:x=n) (hn:n < l.length):bB E (Instr.index t (.string (S l)) (.int k x)) (.int .u8 ((l.getD n 0).toNat:Nat)):=by
 subst hx
 refine runs_index hu (by omega) (b:=l.getD n 0) ?_
 show l.toArray[(n:Int).toNat]? = _
 rw [Int.toNat_natCast,List.getElem?_toArray,List.getD_eq_getElem?_getD,List.getElem?_eq_getElem hn]
 rfl
theorem vi {P:Program} {t ty:TypeId} (hu:P.underlying t=some .string) {cs:Array Bool} {s:ByteArray} {l:List UInt8} (hs:s=S l) (w:World):(builtin .len #[t] ty cs #[.string s]).run P w=.ok (.value (.int .i64 (l.length:Nat))) w:=by subst hs;exact az hu w
theorem DD {E:Env} {t:TypeId} (hu:E.P.underlying t=some .string) {s:ByteArray} {l:List UInt8} (hs:s=S l) {k:IntKind} {x:Int} (n:Nat) (hx:x=n) (hn:n<=l.length):bB E (Instr.sliceAt t (.string s) none (some (.int k x)) none) (.string (S (l.take n))):=by subst hs;exact gR hu n hx hn
theorem DC {E:Env} {t:TypeId} (hu:E.P.underlying t=some .string) {s:ByteArray} {l:List UInt8} (hs:s=S l) {k:IntKind} {x:Int} (n:Nat) (hx:x=n) (hn:n<=l.length):bB E (Instr.sliceAt t (.string s) (some (.int k x)) none none) (.string (S (l.drop n))):=by subst hs;exact jw hu n hx hn
theorem sv {a b:ByteArray} (h:a=b):Value.string a=.string b:=by rw [h]
theorem ri {a b:ByteArray} (h:a=b):SV.c (.string a)=SV.c (.string b):=by rw [h]
theorem wc (l p:List UInt8):aw Tryz.prog 295 [SV.c (.string (S l)),SV.c (.string (S p))] (.bool (decide (p.length<=l.length/\l.take p.length=p))):=by
 refine aj ai ak M7 _ _ rfl rfl fun w=>?_
 refine ⟨_,fun w _=>az Tryz.underlying9 w,_,fun w _=>az Tryz.underlying9 w,fun h=>?_,fun h=>?_⟩
 ·have h:p.length<=l.length:=by have:=af h;omega
  refine ⟨_,fun w _=>az Tryz.underlying9 w,_,gR Tryz.underlying9 p.length rfl h,bv ?_,trivial⟩
  rw [dn,Bool.eq_iff_iff]
  simp [h]
 ·have h:¬ (p.length<=l.length):=by have:=ag h;omega
  refine ⟨bv ?_,trivial⟩
  rw [Bool.eq_iff_iff]
  simp [h]
theorem kH (l p:List UInt8):aw Tryz.prog 297 [SV.c (.string (S l)),SV.c (.string (S p))] (.bool (decide (p.length<=l.length/\l.take p.length=p))):=by
 refine aj ai ak M5 _ _ rfl rfl fun w=>?_
 exact .inl ⟨_,wc l p,rfl,trivial⟩
def wM (l p:List UInt8):List UInt8×Bool:=if p.length<=l.length/\l.take p.length=p then (l.drop p.length,true) else (l,false)
theorem FH (l p:List UInt8):aw Tryz.prog 275 [SV.c (.string (S l)),SV.c (.string (S p))] (.tuple #[.string (S (wM l p).1),.bool (wM l p).2]):=by
 refine aj ai ak Nj _ _ rfl rfl fun w=>?_
 refine .inl ⟨_,wc l p,fun h=>?_,fun h=>?_⟩
 ·have h:=ag (bnt h)
  refine ⟨?_,trivial⟩
  rw [wM,if_neg h];rfl
 ·have h:=af (bnf h)
  refine ⟨_,fun w _=>az Tryz.underlying9 w,_,jw Tryz.underlying9 p.length rfl h.1,?_,trivial⟩
  rw [wM,if_pos h];rfl
theorem Cm (l p:List UInt8):aw Tryz.prog 231 [SV.c (.string (S l)),SV.c (.string (S p))] (.tuple #[.string (S (wM l p).1),.bool (wM l p).2]):=by
 refine aj ai ak N4 _ _ rfl rfl fun w=>?_
 exact .inl ⟨_,FH l p,rfl,trivial⟩
def dc (c:UInt8) (l:List UInt8):List UInt8:=(l.reverse.dropWhile (· == c)).reverse
theorem js (c x:UInt8) (l:List UInt8):dc c (l++[x])=if x=c then dc c l else l++[x]:=by
 unfold dc
 by_cases h:x=c
 ·simp [h]
 ·simp [h]
theorem rS (c:UInt8) (l:List UInt8):(dc c l).length<=l.length:=by
 unfold dc
 rw [List.length_reverse]
 have:=(List.dropWhile_sublist (· == c) (l:=l.reverse)).length_le
 simpa using this
theorem pj {l:List UInt8} (h:0 < l.length):l=l.take (l.length - 1)++[l.getD (l.length - 1) 0]:=by
 rw [List.getD_eq_getElem?_getD,List.getElem?_eq_getElem (by omega)]
 simp only [Option.getD_some]
 rw [List.take_append_getElem (by omega),Nat.sub_add_cancel h,List.take_length]
theorem GM (l:List UInt8) (c:UInt8) (hl:l.length<=9223372036854775807):aw Tryz.prog 277 [SV.c (.string (S l)),SV.c (.int .u8 (c.toNat:Nat))] (.string (S (dc c l))):=by
 refine aj ai ak Nh _ _ rfl rfl fun w=>?_
 refine ⟨fun q f m=>∃ k:List UInt8,q=k.length/\k.length<=9223372036854775807/\dc c k=dc c l/\f=[(0,SV.c (.string (S k))),(1,SV.c (.int .u8 (c.toNat:Nat)))]/\m=[],l.length,⟨_,_,⟨l,rfl,hl,rfl,rfl,rfl⟩,⟨rfl,rfl,trivial⟩,trivial,rfl⟩,?_⟩
 rintro q f m ⟨k,rfl,h63,hk,rfl,rfl⟩
 have hn:0 < k.length->IntKind.i64.wrap ((k.length:Int) - 1)=((k.length - 1:Nat):Int):=fun h=>by rw [i64_in (by omega)];omega
 refine ⟨_,fun w _=>az Tryz.underlying9 w,fun h=>?_,fun h=>?_⟩
 ·have h:0 < k.length:=by have:=af h;omega
  have hs:=pj h
  refine ⟨_,fun w _=>az Tryz.underlying9 w,_,bL Tryz.underlying9 (k.length - 1) (hn h) (by omega),fun h2=>?_,fun h2=>?_⟩
  ·have h2:k.getD (k.length - 1) 0=c:=by
     have:(((k.getD (k.length - 1) 0).toNat:Nat):Int)=(c.toNat:Nat):=by simpa using h2
     exact UInt8.toNat_inj.1 (by omega)
   refine ⟨_,fun w _=>az Tryz.underlying9 w,_,gR Tryz.underlying9 (k.length - 1) (hn h) (by omega),?_⟩
   refine ⟨k.length - 1,_,_,by omega,⟨k.take (k.length - 1),by simp,by simp;omega,?_,rfl,rfl⟩,⟨rfl,rfl,trivial⟩,trivial,rfl⟩
   rw [hs,js,if_pos h2] at hk
   exact hk
  ·have h2:k.getD (k.length - 1) 0≠c:=by
     intro e
     rw [e] at h2;simp at h2
   refine ⟨?_,trivial⟩
   rw [hs,js,if_neg h2,<- hs] at hk
   rw [<- hk];rfl
 ·have h:k.length=0:=by have:=ag h;omega
  have h:k=[]:=List.length_eq_zero_iff.1 h
  subst h
  refine ⟨nofun,fun _=>⟨?_,trivial⟩⟩
  rw [<- hk];rfl
theorem JC (l:List UInt8) (c:UInt8) (hl:l.length<=9223372036854775807) (hc:c.toNat < 128):aw Tryz.prog 234 [SV.c (.string (S l)),SV.c (.string (S [c]))] (.string (S (dc c l))):=by
 refine aj ai ak NY _ _ rfl rfl fun w=>?_
 have e1:((S l).toList == (S []).toList)=decide (l=[]):=dn l []
 have e2:((S [c]).toList == (S []).toList)=false:=by rw [dn];simp
 refine ⟨fun h=>⟨fun h2=>?_,fun h2=>?_⟩,fun h=>?_⟩
 ·exact absurd (e2.symm.trans h2) (by simp)
 ·refine ⟨_,fun w _=>az Tryz.underlying9 w,fun _=>⟨_,bL Tryz.underlying9 0 rfl (by simp),fun h3=>⟨_,bL Tryz.underlying9 0 rfl (by simp),.inl ⟨_,GM l c hl,rfl,trivial⟩⟩,fun h3=>?_⟩,nofun⟩
  exfalso
  have h3:=ag h3
  apply h3
  show ((c.toNat:Nat):Int) < 128
  omega
 ·have h:l=[]:=af (e1.symm.trans h)
  subst h
  exact ⟨fun _=>⟨rfl,trivial⟩,nofun⟩
theorem Hu (n:Nat) (h:n<=10):aw Tryz.prog 322 [SV.c (.int .u64 1),SV.c (.int .u64 (n:Nat))] (.tuple #[.int .u64 0,.int .u64 (n:Nat)]):=by
 obtain rfl | rfl | rfl | rfl | rfl | rfl | rfl | rfl | rfl | rfl | rfl:n=0\/n=1\/n=2\/n=3\/n=4\/n=5\/n=6\/n=7\/n=8\/n=9\/n=10:=by omega
 all_goals
  refine aj ai ak MU _ _ rfl rfl fun w=>?_
  exact ⟨by decide,by decide,by decide,by decide,by decide,by kernel_rfl,trivial⟩
theorem J6 (n:Nat) (h:n<=10):aw Tryz.prog 296 [SV.c (.int .u64 1),SV.c (.int .u64 (n:Nat))] (.tuple #[.int .u64 0,.int .u64 (n:Nat)]):=by
 refine aj ai ak M6 _ _ rfl rfl fun w=>?_
 exact ⟨nofun,fun _=>.inl ⟨_,Hu n h,rfl,trivial⟩⟩
def kw:List UInt8:=List.replicate 64 48
theorem DJ (n:Nat) (h0:0 < n) (h:n<=10):aw Tryz.prog 276 [SV.c (.string (S [48])),SV.c (.int .i64 (n:Nat))] (.string (S (List.replicate n 48))):=by
 refine aj ai ak Ni _ _ rfl rfl fun w=>?_
 have hp:aw Tryz.prog 297 [SV.c (.string (S kw)),SV.c (.string (S [48]))] (.bool true):=kH kw [48]
 have e1:IntKind.u64.wrap ((n:Nat):Int)=(n:Nat):=cy (by omega)
 have hm:=J6 n h
 have ht:kw.take n=List.replicate n 48:=by rw [kw,List.take_replicate];congr 1;omega
 refine ⟨fun h1=>?_,fun h1=>⟨fun h2=>?_,fun h2=>⟨fun h3=>?_,fun h3=>⟨_,fun w _=>az Tryz.underlying9 w,?_⟩⟩⟩⟩
 ·exfalso
  have:(n:Int)=0:=by simpa using h1
  omega
 ·have h2:n=1:=by have:(n:Int)=1:=by simpa using h2
                  omega
  subst h2
  exact ⟨rfl,trivial⟩
 ·exfalso
  have:=af h3
  omega
 ·have hm':aw Tryz.prog 296 [SV.c (.int .u64 1),SV.c (.int .u64 (IntKind.u64.wrap ((n:Nat):Int)))] (.tuple #[.int .u64 0,.int .u64 (n:Nat)]):=by rw [e1];exact hm
  have e2:IntKind.i64.wrap ((n:Nat):Int)=(n:Nat):=i64_in (by omega)
  refine .inl ⟨_,hm',fun _=>⟨fun h4=>?_,fun h4=>?_⟩,nofun⟩
  ·exfalso
   have:=af h4
   have:((n:Nat):Int) > 9223372036854775807:=this
   omega
  ·refine ⟨_,fun w _=>az Tryz.underlying9 w,nofun,fun _=>⟨_,bL Tryz.underlying9 0 rfl (by decide),nofun,fun _=>⟨nofun,fun _=>⟨fun _=>?_,nofun⟩⟩⟩⟩
   refine ⟨fun _=>⟨fun h5=>.inl ⟨_,kH _ [48],fun h6=>absurd h6 (by decide),fun _=>⟨fun h7=>.inl ⟨_,kH _ [48],fun h6=>absurd h6 (by decide),fun _=>⟨fun h8=>?_,fun h8=>?_⟩⟩,fun h7=>?_⟩⟩,fun h5=>?_⟩,nofun⟩
   ·refine .inl ⟨_,kH kw [48],fun _=>⟨_,gR (l:=kw) Tryz.underlying9 n e2 (by show n<=64;omega),?_,trivial⟩,fun h6=>absurd h6 (by decide)⟩
    rw [ht];rfl
   ·exfalso
    have h8:=ag h8
    rw [e2] at h8;omega
   ·exfalso
    have h7:=ag h7
    rw [e2] at h7;omega
   ·exfalso
    have h5:=ag h5
    rw [e2] at h5;omega
def ce (k:Nat) (l:List UInt8):List UInt8:=if l.length<=k then List.replicate (k+1 - l.length) 48++l else l
theorem kf (k:Nat) (l:List UInt8):k < (ce k l).length:=by
 unfold ce;split
 ·simp;omega
 ·omega
theorem Hg (l:List UInt8) (k:Nat) (hk:k<=9) (h0:0 < l.length) (hl:l.length<=1000):aw Tryz.prog 233 [SV.c (.string (S l)),SV.c (.int .i64 (k:Nat))] (.tuple #[.string (S ((ce k l).take ((ce k l).length - k))),.string (S ((ce k l).drop ((ce k l).length - k)))]):=by
 refine aj ai ak NZ _ _ rfl rfl fun w=>?_
 refine ⟨_,fun w _=>az Tryz.underlying9 w,fun h=>?_,fun h=>?_⟩
 ·have h:l.length<=k:=by have:=af h;omega
  have ep:ce k l=List.replicate (k+1 - l.length) 48++l:=if_pos h
  have e1:IntKind.i64.wrap (IntKind.i64.wrap ((k:Int)+1) - (l.length:Nat))=((k+1 - l.length:Nat):Int):=by rw [i64_in (x:=(k:Int)+1) (by omega),i64_in (by omega)];omega
  have hr:=DJ (k+1 - l.length) (by omega) (by omega)
  rw [<- e1] at hr
  have es:S (List.replicate (k+1 - l.length) 48)++S l=S (ce k l):=by rw [bg,ep]
  have el:=kf k l
  have el2:(ce k l).length<=1000:=by rw [ep];simp;omega
  have e2:IntKind.i64.wrap (((ce k l).length:Int) - (k:Nat))=(((ce k l).length - k:Nat):Int):=by rw [i64_in (by omega)];omega
  exact ⟨_,fun w _=>az Tryz.underlying9 w,.inl ⟨_,hr,by rw [aH,aH];simp;omega,_,fun w _=>vi Tryz.underlying9 es w,_,DD Tryz.underlying9 es _ e2 (by omega),_,fun w _=>vi Tryz.underlying9 es w,_,DC Tryz.underlying9 es _ e2 (by omega),by kernel_rfl,rfl,trivial⟩⟩
 ·have h:¬ l.length<=k:=by have:=ag h;omega
  have ep:ce k l=l:=if_neg h
  rw [ep]
  have e1:IntKind.i64.wrap ((l.length:Int) - (k:Nat))=((l.length - k:Nat):Int):=by rw [i64_in (by omega)];omega
  exact ⟨_,fun w _=>az Tryz.underlying9 w,_,gR Tryz.underlying9 (l.length - k) e1 (by omega),_,fun w _=>az Tryz.underlying9 w,_,jw Tryz.underlying9 (l.length - k) e1 (by omega),by kernel_rfl,rfl,trivial⟩
def uN (z:Int) (k:Nat):List UInt8×Int :=
 let s:=ce k (bu z.natAbs)
 let p:=dc 48 (s.drop (s.length - k))
 if 15 < s.length - k then ([],32) else ((if z < 0 then [45] else [])++s.take (s.length - k)++(if p=[] then [] else 46 :: p),0)
def fp (r:RQ) (n:Int):List UInt8×Int:=if !r.ok then ([],20) else if n < 0\/n > 9 then ([],30) else if r.p*(tp n.toNat:Nat) % r.q≠0 then ([],32) else uN (r.p*(tp n.toNat:Nat) / r.q) n.toNat
def G6 (x:List UInt8×Int):Value:=.tuple #[.string (S x.1),.int .i64 x.2]
theorem qQ {N:Nat}:∀ b∈bu N,48<=b.toNat/\b.toNat<=57:=by
 intro b hb
 unfold bu at hb
 split at hb
 ·simp at hb;subst hb;decide
 ·exact xQ b (List.mem_reverse.1 hb)
theorem qP (N:Nat):0 < (bu N).length:=by
 unfold bu
 split
 ·simp
 ·rename_i h;rw [gt h];simp
theorem ni {k N:Nat} (hk:0 < k) (h:N < 10 ^ k):(bu N).length<=k:=by
 unfold bu
 split
 ·simp;omega
 ·rw [List.length_reverse];exact mP k N h
theorem Cl (z:Int):wM (nh z) [45]=(bu z.natAbs,decide (z < 0)):=by
 unfold nh wM
 by_cases h:z < 0
 ·simp [h]
 ·rw [if_neg h]
  have h0:=qP z.natAbs
  cases hl:bu z.natAbs with
  | nil=>rw [hl] at h0;simp at h0
  | cons a r =>
   have:=qQ a (by rw [hl];simp)
   rw [if_neg]
   ·simp [h]
   ·rintro ⟨-,h2⟩
    simp at h2
    subst h2
    simp at this
theorem Gc {N:Nat} (h:N < 2 ^ km):N < 10 ^ yB:=Nat.lt_trans h (by decide +kernel)
theorem Dh {r:RQ} (hr:r.In) (n:Int):aw Tryz.prog 183 [SV.c (.agg r.A),SV.c (.int .i64 n)] (G6 (fp r n)):=by
 refine aj ai ak ON _ _ rfl rfl fun w=>?_
 have hc:=Ax hr n
 rcases Decidable.em (r.ok=true) with hk | hk
 case inr =>
  have hk:r.ok=false:=by simpa using hk
  rw [hk,Bool.not_false,if_pos rfl] at hc
  refine ⟨r.A_size,.inl ⟨_,hc,fun _=>⟨?_,trivial⟩,nofun⟩⟩
  rw [fp,hk,Bool.not_false,if_pos rfl];rfl
 rw [hk] at hc
 rcases Decidable.em (n < 0\/n > 9) with hn | hn
 ·rw [Bool.not_true,if_neg Bool.false_ne_true,if_pos hn] at hc
  refine ⟨r.A_size,.inl ⟨_,hc,fun _=>⟨?_,trivial⟩,nofun⟩⟩
  rw [fp,hk,Bool.not_true,if_neg Bool.false_ne_true,if_pos hn];rfl
 rw [Bool.not_true,if_neg Bool.false_ne_true,if_neg hn] at hc
 obtain ⟨k,rfl⟩:∃ k:Nat,n=k:=⟨n.toNat,by omega⟩
 have hk9:k<=9:=by omega
 obtain ⟨k1,k2,k3,k4,k5⟩:=RQ.ok_bits hk
 have hs:=u3 hr hk hk9
 have hl:=jg k1 hk9
 have hrl:(r.p*((tp k:Nat):Int) % r.q).natAbs < BB ^ 32:=by
  have h1:=Int.emod_lt_of_pos (r.p*((tp k:Nat):Int)) k3
  have h2:=Int.emod_nonneg (r.p*((tp k:Nat):Int)) (show r.q≠0 by omega)
  have h3:r.q.natAbs < 2 ^ d7:=Nat.lt_of_lt_of_le (cW _).1 (Nat.pow_le_pow_right (by omega) k2)
  have:=qF
  omega
 have hlow:(r.p*((tp k:Nat):Int) / r.q).natAbs < 2 ^ km:=Nat.lt_of_le_of_lt (Int.natAbs_ediv_le_natAbs _ _) hl
 rw [fp,hk,Bool.not_true,if_neg Bool.false_ne_true,if_neg hn,Int.toNat_natCast]
 generalize r.p*((tp k:Nat):Int) / r.q=low at *
 generalize r.p*((tp k:Nat):Int) % r.q=rest at *
 have hlb:low.natAbs < BB ^ 32:=Nat.lt_trans hlow wa
 have hlen:(bu low.natAbs).length<=309:=ni (k:=yB) (by decide) (Gc hlow)
 have hfmt:aw Tryz.prog 232 [SV.c (.agg (eA low))] (.string (S (nh low))):=E8 (aJ hlb)
 have hcut:=Cm (nh low) [45]
 rw [Cl] at hcut
 have hpt:=Hg (bu low.natAbs) k hk9 (qP _) (by omega)
 unfold uN
 dsimp only
 have hpl:=kf k (bu low.natAbs)
 have hpl2:(ce k (bu low.natAbs)).length<=1000:=by
  unfold ce;split
  ·simp only [List.length_append,List.length_replicate];omega
  ·omega
 generalize ce k (bu low.natAbs)=s at *
 have htr:=JC (s.drop (s.length - k)) 48 (by simp;omega) (by decide)
 have hpz:(dc 48 (s.drop (s.length - k))).length<=1000:=Nat.le_trans (rS _ _) (by simp;omega)
 have ht:(s.take (s.length - k)).length<=1000:=by simp;omega
 have hemp:((S (dc 48 (s.drop (s.length - k)))).toList == (S []).toList)=decide (dc 48 (s.drop (s.length - k))=[]):=dn _ []
 generalize dc 48 (s.drop (s.length - k))=p at *
 have s1:(S [46]:ByteArray).size+(S p).size<=9223372036854775807:=by rw [aH,aH];simp;omega
 have s2:(S (s.take (s.length - k))).size+(S [46]++S p).size<=9223372036854775807:=by rw [bg,aH,aH];simp only [List.length_append,List.length_cons,List.length_nil];omega
 have s3:(S [45]:ByteArray).size+(S (s.take (s.length - k))++(S [46]++S p)).size<=9223372036854775807:=by rw [bg,bg,aH,aH];simp only [List.length_append,List.length_cons,List.length_nil];omega
 have s4:(S [45]:ByteArray).size+(S (s.take (s.length - k))).size<=9223372036854775807:=by rw [aH,aH];simp only [List.length_cons,List.length_nil];omega
 have htl:(s.take (s.length - k)).length=s.length - k:=by simp
 refine ⟨r.A_size,.inl ⟨_,hc,nofun,fun _=>.inl ⟨_,hs,ao _,ao _,.inl ⟨_,iT (aJ hrl),fun h1=>?_,fun h1=>.inl ⟨_,hfmt,.inl ⟨_,hcut,.inl ⟨_,hpt,_,fun w _=>az Tryz.underlying9 w,fun h2=>?_,fun h2=>.inl ⟨_,htr,fun h3=>⟨s1,s2,fun h4=>⟨s3,?_,trivial⟩,fun h4=>⟨?_,trivial⟩⟩,fun h3=>⟨fun h4=>⟨s4,?_,trivial⟩,fun h4=>⟨?_,trivial⟩⟩⟩⟩⟩⟩⟩⟩⟩⟩
 ·have h1:rest≠0:=by
    intro e;subst e;simp [sgn] at h1
  refine ⟨?_,trivial⟩
  rw [if_pos h1];rfl
 all_goals
  have h1:¬ (rest≠0):=by
   intro e
   have e2:=cR (y:=rest)
   rw [decide_eq_false e] at e2
   have:(!(sgn rest == 0))=false:=h1
   rw [e2] at this
   cases this
  rw [if_neg h1]
 ·have h2:=af h2
  refine ⟨?_,trivial⟩
  rw [if_pos (by omega)];rfl
 all_goals
  have h2:=ag h2
  have h4:decide (low < 0)=_:=h4
  rw [if_neg (by omega)]
 ·have h3:=bnt (hemp ▸ h3)
  rw [if_pos (af h4),if_neg (ag h3)]
  refine jY (sv ?_) rfl
  show S [45]++(S (s.take (s.length - k))++(S [46]++S p))=_
  rw [bg,bg,bg,List.append_assoc];rfl
 ·have h3:=bnt (hemp ▸ h3)
  rw [if_neg (ag h4),if_neg (ag h3)]
  refine jY (sv ?_) rfl
  show (S (s.take (s.length - k))++(S [46]++S p))=_
  rw [bg,bg];rfl
 ·have h3:=bq (hemp ▸ h3)
  rw [if_pos (af h4),if_pos (af h3)]
  refine jY (sv ?_) rfl
  show S [45]++S (s.take (s.length - k))=_
  rw [bg,List.append_nil]
 ·have h3:=bq (hemp ▸ h3)
  rw [if_neg (ag h4),if_pos (af h3)]
  refine jY (sv ?_) rfl
  rw [List.append_nil];rfl
def cm (dg:Bool) (l:List UInt8) (j:Nat):Bool:=(decide (65<=(l.getD j 0).toNat) && decide ((l.getD j 0).toNat<=90)) || (dg && !decide (j=0) && decide (48<=(l.getD j 0).toNat) && decide ((l.getD j 0).toNat<=57))
def cK (dg:Bool) (l:List UInt8):Bool:=(List.range l.length).all (cm dg l)
theorem cV {dg:Bool} {l:List UInt8} {j:Nat} (hj:j < l.length) (h:cm dg l j=false):cK dg l=false:=by
 unfold cK
 rw [List.all_eq_false]
 exact ⟨j,by simpa using hj,by simp [h]⟩
theorem fh {dg:Bool} {l:List UInt8} (h:∀ j,j < l.length->cm dg l j=true):cK dg l=true:=by
 unfold cK
 rw [List.all_eq_true]
 intro j hj
 exact h j (by simpa using hj)
def de (r:RQ):Bool:=r.ok && (decide (r.p*1000000 % r.q=0) && (decide (0<=r.p) && decide (r.p<=1000000000*r.q)))
theorem KH:(RQ.of 1000000000 1).ok=true:=by decide
theorem KI:(RQ.of 1000000000 1).In:=⟨Nat.lt_of_lt_of_le (by decide:1000000000 < 18446744073709551616) jR,Nat.lt_of_lt_of_le (by decide:1 < 18446744073709551616) jR⟩
theorem Du (x:Int):decide (sgn x >= 0)=decide (0<=x):=by
 rw [Bool.eq_iff_iff];simp only [decide_eq_true_eq];unfold sgn;split
 ·omega
 ·split<;>omega
theorem uu (x y:Int):decide (dp x y<=0)=decide (x<=y):=by
 rw [Bool.eq_iff_iff];simp only [decide_eq_true_eq];unfold dp;split
 ·omega
 ·split<;>omega
theorem Ba {z:Int} (h:z.natAbs<=1000000000000000):(uN z 6).2=0:=by
 have h1:=ni (k:=16) (N:=z.natAbs) (by omega) (by show z.natAbs < 10000000000000000;omega)
 unfold uN
 dsimp only
 have h2:(ce 6 (bu z.natAbs)).length<=16:=by
  unfold ce;split
  ·simp only [List.length_append,List.length_replicate];omega
  ·omega
 rw [if_neg (by omega)]
theorem zJ {r:RQ} (hk:r.ok=true) (h0:0<=r.p) (h1:r.p<=1000000000*r.q):(fp r 6).2=if r.p*1000000 % r.q=0 then 0 else 32:=by
 unfold fp
 rw [hk,Bool.not_true,if_neg Bool.false_ne_true,if_neg (by omega)]
 rw [show ((tp (Int.toNat 6):Nat):Int)=1000000 from rfl,show Int.toNat 6=6 from rfl]
 by_cases h:r.p*1000000 % r.q=0
 ·rw [if_neg (by simpa using h),if_pos h]
  obtain ⟨k1,k2,k3,k4,k5⟩:=RQ.ok_bits hk
  apply Ba
  have h3:0<=r.p*1000000 / r.q:=Int.ediv_nonneg (by omega) (by omega)
  have h4:r.p*1000000 / r.q<=1000000000000000:=by
   apply Int.ediv_le_of_le_mul k3
   omega
  omega
 ·rw [if_pos h,if_neg h]
theorem zm {r:RQ} (hk:r.ok=false):(fp r 6).2=20:=by
 unfold fp
 rw [hk,Bool.not_false,if_pos rfl]
theorem J1 (r:RQ):((fp r 6).2 == 0 && (decide ((if r.ok then sgn r.p else 0) >= 0) && decide ((if r.ok && (RQ.of 1000000000 1).ok then dp (r.p*(RQ.of 1000000000 1).q) ((RQ.of 1000000000 1).p*r.q) else 0)<=0)))=de r:=by
 unfold de
 by_cases hk:r.ok=true
 ·rw [hk,KH,RQ.of_p,RQ.of_q]
  simp only [Bool.and_true,if_true,Bool.true_and,Du,uu,Int.mul_one]
  by_cases h0:0<=r.p
  ·by_cases h1:r.p<=1000000000*r.q
   ·rw [zJ hk h0 h1]
    by_cases h:r.p*1000000 % r.q=0
    ·rw [if_pos h];simp [h]
    ·rw [if_neg h];simp [h]
   ·simp [h1]
  ·simp [h0]
 ·have hk:r.ok=false:=by simpa using hk
  rw [zm hk,hk];rfl
structure AC where
 kind:Int
 key:List UInt8
 ins:List UInt8
 into:List UInt8
 day:Int
 num:Int
 den:Int
 cash:RQ
 cur:List UInt8
 known:Int
 void:Bool
def AC.pre (a:AC):Array Value:=#[.int .i64 a.kind,.string (S a.key),.string (S a.ins),.string (S a.into),.int .i64 a.day,.int .i64 a.num,.int .i64 a.den]
def AC.post (a:AC):Array Value:=#[.string (S a.cur),.int .i64 a.known,.bool a.void]
def AC.A (a:AC):Array Value:=a.pre++(a.cash.A++a.post)
structure AC.In (a:AC):Prop where
 cash:a.cash.In
 key:a.key.length<=9223372036854775807
 ins:a.ins.length<=9223372036854775807
 into:a.into.length<=9223372036854775807
 cur:a.cur.length<=9223372036854775807
 num : -9223372036854775808<=a.num/\a.num<=9223372036854775807
 den : -9223372036854775808<=a.den/\a.den<=9223372036854775807
theorem AC.size (a:AC):a.A.size=76:=by simp [AC.A,AC.pre,AC.post,RQ.A_size]
theorem AC.fits (a:AC):Fits a.A 76:=⟨a.size,by
 rw [AC.A,Array.all_append,Array.all_append,a.cash.A_fits.one]
 simp [AC.pre,AC.post,Value.oneCell']⟩
theorem AC.at_pre (a:AC) {i:Nat} (h:i < 7):a.A[i]? = a.pre[i]?:=by
 rw [AC.A,Array.getElem?_append_left (by simpa [AC.pre] using h)]
theorem AC.at_post (a:AC) {i:Nat} (h:73<=i):a.A[i]? = a.post[i - 73]?:=by
 rw [AC.A,Array.getElem?_append_right (by simp [AC.pre];omega),Array.getElem?_append_right (by simp [AC.pre,RQ.A_size];omega)]
 simp only [AC.pre,RQ.A_size]
 congr 1
theorem AC.g0 (a:AC):a.A[0]? = some (.int .i64 a.kind):=(a.at_pre (by omega)).trans rfl
theorem AC.g1 (a:AC):a.A[1]? = some (.string (S a.key)):=(a.at_pre (by omega)).trans rfl
theorem AC.g2 (a:AC):a.A[2]? = some (.string (S a.ins)):=(a.at_pre (by omega)).trans rfl
theorem AC.g3 (a:AC):a.A[3]? = some (.string (S a.into)):=(a.at_pre (by omega)).trans rfl
theorem AC.g4 (a:AC):a.A[4]? = some (.int .i64 a.day):=(a.at_pre (by omega)).trans rfl
def RQ.beq (r s:RQ):Bool:=(r.a == s.a && (decide (r.N=s.N) && true)) && ((r.b == s.b && (decide (r.D=s.D) && true)) && true)
theorem RQ.beq_iff (r s:RQ):r.beq s=true↔r=s:=by
 obtain ⟨a,N,b,D⟩:=r
 obtain ⟨a',N',b',D'⟩:=s
 simp [RQ.beq]
 constructor
 ·rintro ⟨⟨h1,h2⟩,h3,h4⟩;exact ⟨h1,h2,h3,h4⟩
 ·rintro ⟨h1,h2,h3,h4⟩;exact ⟨⟨h1,h2⟩,h3,h4⟩
theorem dX {d:Nat} {r s:RQ} (hr:r.In) (hs:s.In) (w:World):(Op.equalIn (d+1+1+1+1) 33 (.agg r.A) (.agg s.A)).run Tryz.prog w=.ok (r.beq s) w:=by
 rw [run_equalIn_struct w (d+1+1+1) 33 _ _ (by simp only [Program.fieldsOf,Tryz.underlying33]) (by kernel_rfl)]
 rw [show (Tryz.prog.fieldsOf 33).toList=[⟨ "Num",31,0,false,"","",0⟩,⟨ "Den",31,33,false,"","",132⟩] from by simp only [Program.fieldsOf,Tryz.underlying33]]
 refine cg (a:=.agg (iA r.a r.N)) (b:=.agg (iA s.a s.N)) (by decide) ?_ ?_ (ma hr.N hs.N w) fun _=>?_
 ·rw [cv uP rfl _ _ w];exact congrArg (fun x=>Result.ok (Value.agg x) w) r.cat_l
 ·rw [cv uP rfl _ _ w];exact congrArg (fun x=>Result.ok (Value.agg x) w) s.cat_l
 refine cg (a:=.agg (iA r.b r.D)) (b:=.agg (iA s.b s.D)) (by decide) ?_ ?_ (ma hr.D hs.D w) fun _=>pC
 ·rw [cv uP rfl _ _ w];exact congrArg (fun x=>Result.ok (Value.agg x) w) r.cat_r
 ·rw [cv uP rfl _ _ w];exact congrArg (fun x=>Result.ok (Value.agg x) w) s.cat_r
theorem oT:Tryz.prog.eqGuardType Tryz.prog.depth 33=false:=by kernel_rfl
theorem sM {E:Env} (hE:E.P=Tryz.prog) {r s:RQ} (hr:r.In) (hs:s.In) {u v:Operand}:bB E (do eqGuard .eql 33 u v (.agg r.A) (.agg s.A);binOp .eql 33 (.agg r.A) (.agg s.A)) (.bool (r.beq s)) :=
 mL (by rw [hE];exact oT) fun w=>by rw [hE];exact dX hr hs w
theorem Bz {E:Env} (hE:E.P=Tryz.prog) {r s:RQ} (hr:r.In) (hs:s.In) {u v:Operand}:bB E (do eqGuard .neq 33 u v (.agg r.A) (.agg s.A);binOp .neq 33 (.agg r.A) (.agg s.A)) (.bool (!(r.beq s))) :=
 p5 (by rw [hE];exact oT) fun w=>by rw [hE];exact dX hr hs w
def AC.beq (a b:AC):Bool:=(a.kind == b.kind) && (decide (a.key=b.key) && (decide (a.ins=b.ins) && (decide (a.into=b.into) && ((a.day == b.day) && ((a.num == b.num) && ((a.den == b.den) && (a.cash.beq b.cash && (decide (a.cur=b.cur) && ((a.known == b.known) && ((a.void == b.void) && true))))))))))
theorem iF {d:Nat} (t:TypeId) (ht:Tryz.prog.underlying t=some (.int .i64)) (x y:Int) (w:World):(Op.equalIn (d+1) t (.int .i64 x) (.int .i64 y)).run Tryz.prog w=.ok (x == y) w:=run_equalIn_int w d t _ _ _ _ ht
theorem Fm {d:Nat} (x y:List UInt8) (w:World):(Op.equalIn (d+1) 9 (.string (S x)) (.string (S y))).run Tryz.prog w=.ok (decide (x=y)) w:=by
 rw [<- dn];exact run_equalIn_string w d 9 _ _ Tryz.underlying9
def AC.nil (key:List UInt8) (known:Int):AC:=⟨0,key,[],[],0,0,0,⟨false,0,false,0⟩,[],known,true⟩
def bM (l:List UInt8):Bool:=cK true l && (decide (1<=l.length) && decide (l.length<=12))
def aD (l:List UInt8):Bool:=cK false l && (decide ((3:Int)<=l.length) && decide ((l.length:Int)<=3))
def AC.zero:AC:=⟨0,[],[],[],0,0,0,⟨false,0,false,0⟩,[],0,false⟩
structure EF where
 ins:List UInt8
 qty:Int
 cash:Int
def EF.A (x:EF):Array Value:=#[.string (S x.ins),.int .i64 x.qty,.int .i64 x.cash]
theorem EF.fits (x:EF):Fits x.A 3:=⟨rfl,by simp [EF.A,Value.oneCell']⟩
def EF.zero:EF:=⟨[],0,0⟩
theorem jH {N n:Nat} (hu:IsUsed N n) (hN:N < BB ^ 32):aw Tryz.prog 201 [SV.c (.agg (mA N))] (.int .i64 n):=by
 refine aj ai ak Ov _ _ rfl rfl fun w=>?_
 refine ⟨cf _,fun k f m=>k<=32/\N < BB ^ k/\f=[(1,SV.ptr 1 0),(3,SV.c (.int .i64 k))]/\m=[(1,Blk.row 29 32 (mA N))],32,⟨_,_,⟨by omega,hN,rfl,rfl⟩,⟨rfl,rfl,trivial⟩,⟨rfl,trivial⟩,rfl⟩,?_⟩
 rintro k f m ⟨hk,hlt,rfl,rfl⟩
 refine ⟨fun h=>?_,fun h=>?_⟩
 ·have h1:(0:Int) < k:=af h
  have e:IntKind.i64.wrap ((k:Int) - 1)=((k - 1:Nat):Int):=by rw [i64_in (by omega)];omega
  have hg:(mA N)[(IntKind.i64.wrap ((k:Int) - 1)).toNat]? = some (.int .u32 ((dg N (k - 1):Nat):Int)):=by rw [e];exact bo (by omega)
  refine ⟨by rw [e];omega,by rw [e];show ((k - 1:Nat):Int) < 32;omega,_,hg,fun h2=>?_,fun h2=>?_⟩
  ·have h3:dg N (k - 1)=0:=by have:((dg N (k - 1):Nat):Int)=0:=by simpa using h2
                              omega
   exact ⟨k - 1,_,_,by omega,⟨by omega,oo (by rw [show k - 1+1=k by omega];exact hlt) h3,rfl,rfl⟩,⟨rfl,am e,trivial⟩,⟨rfl,trivial⟩,rfl⟩
  ·have h3:dg N (k - 1)≠0:=by intro h;rw [h] at h2;simp at h2
   have:k=n:=IsUsed.unique (zi hlt (.inr h3)) hu
   exact ⟨by rw [this];rfl,trivial⟩
 ·refine ⟨nofun,fun _=>?_⟩
  have h1:¬ ((k:Int) > 0):=ag h
  have:k=n:=IsUsed.unique ⟨hlt,fun hk=>absurd hk (by omega)⟩ hu
  exact ⟨by rw [this];rfl,trivial⟩
theorem A8 {N n:Nat} (hu:IsUsed N n):decide (N=0)=(((n:Nat):Int) == 0):=by
 rw [Bool.eq_iff_iff]
 simp only [decide_eq_true_eq,beq_iff_eq]
 constructor
 ·intro h;subst h
  rcases Nat.eq_zero_or_pos n with e | e
  ·rw [e];rfl
  ·have h2:=hu.2 e
   have:=bt (n - 1)
   omega
 ·intro h
  have:n=0:=by omega
  subst this
  have:=hu.1;simp at this;omega
theorem lf {N:Nat} (hN:N < BB ^ 32):aw Tryz.prog 145 [SV.c (.agg (mA N))] (.bool (decide (N=0))):=by
 obtain ⟨n,hn,hu⟩:=dK hN
 refine aj ai ak Ps _ _ rfl rfl fun w=>?_
 rw [A8 hu]
 exact ⟨cf _,.inl ⟨_,jH hu hN,rfl,trivial⟩⟩
theorem fD (neg:Bool) {N:Nat} (hN:N < BB ^ 32):aw Tryz.prog 144 [SV.c (.bool neg),SV.c (.agg (mA N))] (.agg (eA (zN neg N))):=by
 have e:eA (zN neg N)=iA (neg && !decide (N=0)) N:=by unfold eA;rw [bD,xo]
 rw [e]
 refine aj ai ak Pt _ _ rfl rfl fun w=>?_
 refine ⟨cf _,fun h=>.inl ⟨_,lf hN,_,nk rfl rfl,fA _ _,by kernel_rfl,?_,trivial⟩,fun h=>⟨_,nk rfl rfl,fA _ _,by kernel_rfl,?_,trivial⟩⟩
 ·have h:neg=true:=h
  rw [h];rfl
 ·have h:neg=false:=h
  rw [h];rfl
theorem oy {N M:Nat} (hN:N < BB ^ 32) (hM:M < BB ^ 32):aw Tryz.prog 158 [SV.c (.agg (mA N)),SV.c (.agg (mA M))] (.int .i64 (jK N M)):=by
 refine aj ai ak Pf _ _ rfl rfl fun w=>?_
 refine ⟨cf _,cf _,fun k f m=>k<=32/\N / BB ^ k=M / BB ^ k/\f=[(2,SV.ptr 2 0),(3,SV.ptr 3 0),(5,SV.c (.int .i64 ((k:Int) - 1)))]/\m=[(2,Blk.row 29 32 (mA N)),(3,Blk.row 29 32 (mA M))],32,⟨_,_,⟨by omega,by rw [Nat.div_eq_of_lt hN,Nat.div_eq_of_lt hM],rfl,rfl⟩,⟨rfl,rfl,rfl,trivial⟩,⟨rfl,rfl,trivial⟩,rfl⟩,?_⟩
 rintro k f m ⟨hk,heq,rfl,rfl⟩
 refine ⟨fun h=>?_,fun h=>?_⟩
 ·have h1:(k:Int) - 1 >= 0:=af h
  have e:((k:Int) - 1).toNat=k - 1:=by omega
  have hn:(mA N)[((k:Int) - 1).toNat]? = some (.int .u32 ((dg N (k - 1):Nat):Int)):=by rw [e];exact bo (by omega)
  have hm:(mA M)[((k:Int) - 1).toNat]? = some (.int .u32 ((dg M (k - 1):Nat):Int)):=by rw [e];exact bo (by omega)
  have hb:(k:Int) - 1 < 32:=by omega
  have hs:N / BB ^ (k - 1+1)=M / BB ^ (k - 1+1):=by rw [show k - 1+1=k by omega];exact heq
  refine ⟨h1,hb,_,hn,h1,hb,_,hm,by kernel_rfl,fun h2=>?_,fun h2=>⟨h1,hb,_,hn,h1,hb,_,hm,by kernel_rfl,fun h3=>?_,fun h3=>?_⟩⟩
  ·have h3:dg N (k - 1) < dg M (k - 1):=by have:=af h2;omega
   have:=ut hs h3
   exact ⟨by simp only [jK,if_pos this];rfl,trivial⟩
  ·have h4:dg M (k - 1) < dg N (k - 1):=by have:=af h3;omega
   have:=ut hs.symm h4
   exact ⟨by simp only [jK,if_neg (show ¬ N < M by omega),if_pos this];rfl,trivial⟩
  ·have h4:dg N (k - 1)=dg M (k - 1):=by
     have:=ag h2
     have:=ag h3
     omega
   exact ⟨k - 1,_,_,by omega,⟨by omega,wV hs h4,rfl,rfl⟩,⟨rfl,rfl,am (by rw [i64_in (by omega)];omega),trivial⟩,⟨rfl,rfl,trivial⟩,rfl⟩
 ·have h1:¬ ((k:Int) - 1 >= 0):=ag h
  obtain rfl:k=0:=by omega
  simp only [Nat.pow_zero,Nat.div_one] at heq
  exact ⟨by simp only [jK,heq,Nat.lt_irrefl,if_false];rfl,trivial⟩
theorem IH {N M:Nat} (hN:N < BB ^ 32) (hM:M < BB ^ 32):aw Tryz.prog 157 [SV.c (.agg (mA N)),SV.c (.agg (mA M))] (.tuple #[.agg (mA ((N+M) % BB ^ 32)),.bool (decide (N+M < BB ^ 32))]):=by
 refine aj ai ak Pg _ _ rfl rfl fun w=>?_
 refine ⟨cf _,cf _,fun q f m=>∃ (k c:Nat) (g:Nat->Nat),q=32 - k/\k<=32/\c<=1/\(∀ j,j < k->g j < BB)/\nv g k+c*BB ^ k=nv (dg N) k+nv (dg M) k/\f=[(2,SV.ptr 2 0),(3,SV.ptr 3 0),(4,SV.ptr 4 0),(6,SV.ptr 6 0),(7,SV.c (.int .u64 c)),(8,SV.c (.int .i64 k))]/\m=[(2,Blk.row 29 32 (mA N)),(3,Blk.row 29 32 (mA M)),(4,Blk.row 29 32 (lA (fun _=>0) 32)),(6,Blk.row 29 32 (lA g 32))],32,⟨_,_,⟨0,0,fun _=>0,rfl,by omega,by omega,fun j hj=>absurd hj (by omega),vM _ _ _,rfl,rfl⟩,⟨rfl,rfl,rfl,rfl,rfl,rfl,trivial⟩,⟨rfl,rfl,rfl,rfl,trivial⟩,rfl⟩,?_⟩
 rintro q f m ⟨k,c,g,rfl,hk,hc,hg,hn,rfl,rfl⟩
 refine ⟨fun h=>?_,fun h=>?_⟩
 ·have h1:(k:Int) < 32:=af h
  have h0:(0:Int)<=k:=by omega
  have gN:=bo (N:=N) (show k < 32 by omega)
  have gM:=bo (N:=M) (show k < 32 by omega)
  have hx:=aR N k
  have hy:=aR M k
  rw [aS] at hx hy
  have ev:IntKind.u64.wrap (IntKind.u64.wrap (IntKind.u64.wrap (dg N k:Nat)+IntKind.u64.wrap (dg M k:Nat))+(c:Nat))=((dg N k+dg M k+c:Nat):Int):=by simp only [ee];omega
  refine ⟨h0,h1,_,gN,h0,h1,_,gM,by kernel_rfl,h0,h1,by show k < 32;omega,rfl,_,cG (i:=k) (x:=(k:Int)) (v:=(dg N k+dg M k+c) % BB) rfl (by rw [ev,bX,aS];rfl),by decide,?_⟩
  refine ⟨32 - (k+1),_,_,by omega,⟨k+1,(dg N k+dg M k+c) / BB,_,rfl,by omega,by rw [aS];omega,fun j hj=>?_,rn (k:=c) ?_ ?_,rfl,rfl⟩,⟨rfl,rfl,rfl,rfl,am (by rw [ev];exact zt _),am (by rw [i64_in (by omega)];rfl),trivial⟩,⟨rfl,rfl,rfl,rfl,trivial⟩,rfl⟩
  ·by_cases e:j=k
   ·subst e;simp only [if_true];exact Nat.mod_lt _ bQ
   ·simp only [if_neg e];exact hg j (by omega)
  ·rw [kC];exact hn
  ·simp only [if_true];rw [Nat.mul_comm];exact Nat.mod_add_div _ _
 ·have h1:¬ ((k:Int) < 32):=ag h
  obtain rfl:k=32:=by omega
  obtain ⟨hs1,hs2⟩:=vD hN hM hg hn
  have hA:=zY hg hs1
  refine ⟨eL _ _,jY (by rw [hA]) (bv ?_),trivial⟩
  rw [hs2,Bool.eq_iff_iff];simp
theorem Fw {N M c:Nat} {f:Nat->Nat} (hN:N < BB ^ 32) (hM:M < BB ^ 32) (hf:∀ j,j < 32->f j < BB) (h:nv f 32+nv (dg M) 32=nv (dg N) 32+c*BB ^ 32) (hc:c<=1):nv f 32=(N+BB ^ 32 - M) % BB ^ 32:=by
 rw [bP hN,bP hM] at h
 have hl:=mX hf
 generalize BB ^ 32=P at *
 have:c=0\/c=1:=by omega
 rcases this with rfl | rfl
 ·rw [show N+P - M=(N - M)+P by omega,Nat.add_mod_right,Nat.mod_eq_of_lt (by omega)];omega
 ·rw [show N+P - M=nv f 32 by omega,Nat.mod_eq_of_lt hl]
theorem wI {N M:Nat} (hN:N < BB ^ 32) (h:M<=N):(N+BB ^ 32 - M) % BB ^ 32=N - M:=by
 rw [show N+BB ^ 32 - M=(N - M)+BB ^ 32 by omega,Nat.add_mod_right,Nat.mod_eq_of_lt (by omega)]
theorem g8 {N M:Nat} (hN:N < BB ^ 32) (hM:M < BB ^ 32):aw Tryz.prog 159 [SV.c (.agg (mA N)),SV.c (.agg (mA M))] (.agg (mA ((N+BB ^ 32 - M) % BB ^ 32))):=by
 refine aj ai ak Pe _ _ rfl rfl fun w=>?_
 refine ⟨cf _,cf _,fun q f m=>∃ (k c:Nat) (g:Nat->Nat),q=32 - k/\k<=32/\c<=1/\(∀ j,j < k->g j < BB)/\nv g k+nv (dg M) k=nv (dg N) k+c*BB ^ k/\f=[(2,SV.ptr 2 0),(3,SV.ptr 3 0),(4,SV.ptr 4 0),(5,SV.ptr 5 0),(6,SV.c (.int .u64 c)),(7,SV.c (.int .i64 k))]/\m=[(2,Blk.row 29 32 (mA N)),(3,Blk.row 29 32 (mA M)),(4,Blk.row 29 32 (lA (fun _=>0) 32)),(5,Blk.row 29 32 (lA g 32))],32,⟨_,_,⟨0,0,fun _=>0,rfl,by omega,by omega,fun j hj=>absurd hj (by omega),sj _ _ _,rfl,rfl⟩,⟨rfl,rfl,rfl,rfl,rfl,rfl,trivial⟩,⟨rfl,rfl,rfl,rfl,trivial⟩,rfl⟩,?_⟩
 rintro q f m ⟨k,c,g,rfl,hk,hc,hg,hn,rfl,rfl⟩
 refine ⟨fun h=>?_,fun h=>?_⟩
 ·have h1:(k:Int) < 32:=af h
  have h0:(0:Int)<=k:=by omega
  have gN:=bo (N:=N) (show k < 32 by omega)
  have gM:=bo (N:=M) (show k < 32 by omega)
  have hx:=aR N k
  have hy:=aR M k
  rw [aS] at hx hy
  have ev:IntKind.u64.wrap (IntKind.u64.wrap (IntKind.u64.wrap (dg N k:Nat) - IntKind.u64.wrap (dg M k:Nat)) - (c:Nat))=((dg N k:Int) - dg M k - c) % 18446744073709551616:=by simp only [ee];omega
  refine ⟨h0,h1,_,gN,h0,h1,_,gM,by kernel_rfl,h0,h1,by show k < 32;omega,rfl,_,cG (i:=k) (x:=(k:Int)) (v:=(dg N k+BB - (dg M k+c)) % BB) rfl (by rw [ev,bX,aS];omega),by decide,?_⟩
  refine ⟨32 - (k+1),_,_,by omega,⟨k+1,(if dg N k < dg M k+c then 1 else 0:Nat),_,rfl,by omega,by split<;>omega,fun j hj=>?_,uU (k:=c) ?_ ?_,rfl,rfl⟩,⟨rfl,rfl,rfl,rfl,am ?_,am (by rw [i64_in (by omega)];rfl),trivial⟩,⟨rfl,rfl,rfl,rfl,trivial⟩,rfl⟩
  ·by_cases e:j=k
   ·subst e;simp only [if_true];exact Nat.mod_lt _ bQ
   ·simp only [if_neg e];exact hg j (by omega)
  ·rw [kC];exact hn
  ·simp only [if_true];rw [aS] at *;split<;>omega
  ·rw [ev,pm]
   show ((dg N k:Int) - dg M k - c) % 18446744073709551616 / 9223372036854775808=_
   split<;>omega
 ·have h1:¬ ((k:Int) < 32):=ag h
  obtain rfl:k=32:=by omega
  have hA:=zY hg (Fw hN hM hg hn hc)
  exact ⟨eL _ _,by rw [<- hA];rfl,trivial⟩
theorem IsI.raw {A:Array Value} {z:Int} (h:IsI A z):∃ neg N,N < BB ^ 32/\A=iA neg N/\z=zN neg N:=h.ex
theorem ot {neg:Bool} {N i:Nat} (h:i < 32):(iA neg N)[1+i]? = some (.int .u32 (dg N i:Nat)):=by
 rw [iA,Array.getElem?_append_right (by simp)]
 have e:1+i - (#[Value.bool neg]:Array Value).size=i:=by simp
 rw [e];exact bo h
def iB (neg:Bool) (f:Nat->Nat):Array Value:=#[.bool neg]++lA f 32
theorem ES (neg:Bool) (f:Nat->Nat) (i v:Nat):(iB neg f).setIfInBounds (1+i) (.int .u32 (v:Nat))=iB neg (fun k=>if k=i then v else f k):=by
 unfold iB
 rw [<- l7]
 apply Array.ext_getElem?
 intro j
 by_cases h:j=1+i
 ·subst h
  rw [Array.getElem?_setIfInBounds_self,Array.getElem?_append_right (by simp)]
  have e:1+i - (#[Value.bool neg]:Array Value).size=i:=by simp
  rw [e,Array.getElem?_setIfInBounds_self]
  simp [f9]
  by_cases h2:i < 32
  ·rw [if_pos h2,if_pos (by omega)]
  ·rw [if_neg h2,if_neg (by omega)]
 ·rw [Array.getElem?_setIfInBounds_ne (fun e=>h e.symm)]
  by_cases h0:j < 1
  ·rw [Array.getElem?_append_left (by simpa using h0),Array.getElem?_append_left (by simpa using h0)]
  ·rw [Array.getElem?_append_right (by simp;omega),Array.getElem?_append_right (by simp;omega)]
   rw [Array.getElem?_setIfInBounds_ne (by simp;omega)]
theorem Mt {neg:Bool} {f:Nat->Nat} {N:Nat} (h:∀ i,i < 32->f i=dg N i):iB neg f=iA neg N:=by
 unfold iB iA mA
 rw [aV h]
theorem gD {A:Array Value} {z:Int} (h:IsI A z):aw Tryz.prog 78 [SV.c (.agg A)] (.int .i64 (sgn z)):=by
 obtain ⟨neg,N,hN,rfl,rfl⟩:=h.raw
 refine aj ai ak Rn _ _ rfl rfl fun w=>?_
 refine ⟨br _ _,by decide,_,cz,.inl ⟨_,lf hN,fun h1=>⟨iv ?_,trivial⟩,fun h1=>⟨_,dJ,fun h2=>⟨iv ?_,trivial⟩,fun h2=>⟨iv ?_,trivial⟩⟩⟩⟩
 ·have h1:N=0:=af h1
  subst h1
  cases neg<;>rfl
 ·have h1:¬ N=0:=ag h1
  have h2:neg=true:=h2
  subst h2
  unfold sgn zN;rw [if_pos rfl,if_pos (by omega)]
 ·have h1:¬ N=0:=ag h1
  have h2:neg=false:=h2
  subst h2
  unfold sgn zN;rw [if_neg Bool.false_ne_true,if_neg (by omega),if_neg (by omega)]
theorem zO {A:Array Value} {z:Int} (h:IsI A z):aw Tryz.prog 148 [SV.c (.agg A)] (.agg (eA (-z))):=by
 obtain ⟨neg,N,hN,rfl,rfl⟩:=h.raw
 refine aj ai ak Pp _ _ rfl rfl fun w=>?_
 have e:zN (!neg) N=-zN neg N:=by cases neg<;>simp [zN]
 rw [<- e]
 exact ⟨br _ _,_,dJ,by decide,_,cz,.inl ⟨_,fD _ hN,ao _,rfl,trivial⟩⟩
theorem Gt {A:Array Value} {z:Int} (h:IsI A z):aw Tryz.prog 76 [SV.c (.agg A)] (.agg (eA (z.natAbs:Int))):=by
 obtain ⟨neg,N,hN,rfl,rfl⟩:=h.raw
 refine aj ai ak Ro _ _ rfl rfl fun w=>?_
 have e:((zN neg N).natAbs:Int)=zN false N:=by rw [bD];rfl
 rw [e]
 exact ⟨br _ _,by decide,_,cz,.inl ⟨_,fD _ hN,ao _,rfl,trivial⟩⟩
theorem I2 {A B:Array Value} {x y:Int} (hA:IsI A x) (hB:IsI B y):aw Tryz.prog 97 [SV.c (.agg A),SV.c (.agg B)] (.int .i64 (dp x y)):=by
 have s1:=gD hA
 have s2:=gD hB
 have hx:=hA.lt
 have hy:=hB.lt
 obtain ⟨a,N,hN,rfl,ex⟩:=hA.raw
 obtain ⟨b,M,hM,rfl,ey⟩:=hB.raw
 refine aj ai ak Ra _ _ rfl rfl fun w=>?_
 have eN:x.natAbs=N:=by rw [ex,bD]
 have eM:y.natAbs=M:=by rw [ey,bD]
 refine ⟨br _ _,br _ _,.inl ⟨_,s1,.inl ⟨_,s2,by kernel_rfl,fun h=>⟨?_,trivial⟩,fun h=>⟨fun h2=>⟨?_,trivial⟩,fun h2=>⟨by decide,_,cz,by decide,_,cz,.inl ⟨_,oy hN hM,iv ?_,trivial⟩⟩⟩⟩⟩⟩
 ·have h:=af h
  rw [pF (by omega),if_pos h];rfl
 ·have h:=ag h
  have h2:=af h2
  rw [pF (by omega),if_neg h];rfl
 ·have h:=ag h
  have h2:=ag h2
  rw [At (by omega),eN,eM]
  have:=Dv x
  rcases Aq N M with h1 | h1 | h1<;>rw [h1]<;>exact i64_in (by omega)
theorem Il {v:Nat} (h:0 < v):bl v=bl (v / 2)+1:=by
 rcases Nat.lt_or_ge v 2 with h2 | h2
 ·have:v=1:=by omega
  subst this;rfl
 ·rw [kt (s:=1) (by omega),Nat.pow_one];omega
theorem oD {A:Array Value} {z:Int} (h:IsI A z):aw Tryz.prog 149 [SV.c (.agg A)] (.int .i64 (bl z.natAbs)):=by
 obtain ⟨neg,N,hN,rfl,rfl⟩:=h.raw
 obtain ⟨n,hn,hu⟩:=dK hN
 rw [bD]
 refine aj ai ak Po _ _ rfl rfl fun w=>?_
 refine ⟨br _ _,by decide,_,cz,.inl ⟨_,jH hu hN,fun h=>?_,fun h=>?_⟩⟩
 ·have h0:n=0:=by have:(n:Int)=0:=by simpa using h
                  omega
  subst h0
  have:N=0:=by have:=hu.1;simp at this;omega
  subst this
  exact ⟨rfl,trivial⟩
 ·have h0:0 < n:=by
    rcases Nat.eq_zero_or_pos n with e | e
    ·subst e;simp at h
    ·exact e
  have e1:IntKind.i64.wrap ((n:Int) - 1)=((n - 1:Nat):Int):=by rw [i64_in (by omega)];omega
  have e2:IntKind.i64.wrap (32*IntKind.i64.wrap ((n:Int) - 1))=((32*(n - 1):Nat):Int):=by rw [e1,i64_in (by omega)];omega
  obtain ⟨hb,hb0⟩:=rj hu h0
  have hb2:bl (dg N (n - 1))<=32:=jn (aR _ _)
  have hg:(iA neg N)[1+(IntKind.i64.wrap ((n:Int) - 1)).toNat]? = some (.int .u32 ((dg N (n - 1):Nat):Int)):=by rw [e1];exact ot (by omega)
  refine ⟨by rw [e1];omega,by rw [e1];show ((n - 1:Nat):Int) < 32;omega,_,hg,?_⟩
  refine ⟨fun q f m=>∃ k:Nat,q < BB/\k+bl q=bl N/\f=[(4,SV.c (.int .i64 k)),(5,SV.c (.int .u32 q))]/\m=[],dg N (n - 1),⟨_,_,⟨32*(n - 1),aR _ _,hb.symm,rfl,rfl⟩,⟨am e2,rfl,trivial⟩,trivial,rfl⟩,?_⟩
  rintro q f m ⟨k,hq,hk,rfl,rfl⟩
  refine ⟨fun h1=>?_,fun h1=>?_⟩
  ·have h1:0 < q:=by have:=af h1;omega
   have hh:=Il h1
   have hbn:bl N<=1024:=by omega
   exact ⟨by decide,q / 2,_,_,by omega,⟨k+1,by omega,by omega,rfl,rfl⟩,⟨am (by rw [i64_in (by omega)];rfl),am (iU q 1),trivial⟩,trivial,rfl⟩
  ·have h1:q=0:=by have:=ag h1;omega
   subst h1
   have:bl 0=0:=rfl
   exact ⟨iv (by omega),trivial⟩
theorem HL (b:Bool) (f:Nat->Nat):(iB false f).setIfInBounds 0 (.bool b)=iB b f:=by
 unfold iB
 apply Array.ext_getElem?
 intro j
 by_cases h:j=0
 ·subst h
  rw [Array.getElem?_setIfInBounds_self,Array.getElem?_append_left (by simp)]
  simp
 ·rw [Array.getElem?_setIfInBounds_ne (fun e=>h e.symm),Array.getElem?_append_right (by simp;omega),Array.getElem?_append_right (by simp;omega)]
  rfl
theorem dE (n:Int) (h1 : -9223372036854775808<=n) (h2:n<=9223372036854775807):aw Tryz.prog 79 [SV.c (.int .i64 n)] (.agg (eA n)):=by
 refine dz [4] ai ak Rm _ _ rfl rfl fun w=>?_
 have hN:n.natAbs < 18446744073709551616:=by omega
 refine ⟨fun f m=>f=[(0,SV.c (.int .i64 n)),(2,SV.ptr 2 0),(3,SV.c (.int .u64 (n.natAbs:Nat)))]/\m=[(2,Blk.row 31 33 fJ.zero)],⟨fun h=>?_,fun h=>?_⟩,?_⟩
 ·have hn:=af h
  have e:IntKind.u64.wrap (0 - IntKind.u64.wrap n)=((n.natAbs:Nat):Int):=by simp only [ee];omega
  exact ⟨_,_,⟨rfl,rfl⟩,⟨rfl,rfl,am e,trivial⟩,⟨rfl,trivial⟩,rfl⟩
 ·have hn:=ag h
  have e:IntKind.u64.wrap n=((n.natAbs:Nat):Int):=by simp only [ee];omega
  exact ⟨_,_,⟨rfl,rfl⟩,⟨rfl,rfl,am e,trivial⟩,⟨rfl,trivial⟩,rfl⟩
 rintro f m ⟨rfl,rfl⟩
 have e0:IntKind.u32.wrap ((n.natAbs:Nat):Int)=((n.natAbs % 4294967296:Nat):Int):=by rw [bX];omega
 have e1:IntKind.u32.wrap (((n.natAbs:Nat):Int).fdiv (2 ^ min (Int.toNat 32) IntKind.u64.bits))=((n.natAbs / 4294967296:Nat):Int):=by
  rw [show ((n.natAbs:Nat):Int).fdiv (2 ^ min (Int.toNat 32) IntKind.u64.bits)=((n.natAbs / 4294967296:Nat):Int) from iU _ 32]
  exact eQ (by omega)
 refine ⟨by decide,rfl,_,HL (decide (n < 0)) (fun _=>0),by decide,by decide,by decide,by decide,rfl,iB (decide (n < 0)) (fun k=>if k=0 then n.natAbs % 4294967296 else 0),?_,by decide,by decide,by decide,rfl,eA n,?_,?_⟩
 ·rw [e0]
  exact ES (decide (n < 0)) (fun _=>0) 0 (n.natAbs % 4294967296)
 ·rw [e1]
  refine Eq.trans (ES (decide (n < 0)) _ 1 (n.natAbs / 4294967296)) (Mt fun i hi=>?_)
  by_cases h1:i=1
  ·subst h1
   rw [if_pos rfl]
   simp only [dg,aS,Nat.pow_one];omega
  ·rw [if_neg h1]
   by_cases h0:i=0
   ·subst h0
    rw [if_pos rfl]
    simp only [dg,aS,Nat.pow_zero,Nat.div_one]
   ·rw [if_neg h0,Fz hN (by omega)]
 ·exact ⟨ao _,rfl,trivial⟩
theorem GT {A:Array Value} {z:Int} (hA:IsI A z):aw Tryz.prog 203 [SV.c (.agg A)] (dG z):=by
 have hzl:=hA.lt
 obtain ⟨neg,N,hN,rfl,rfl⟩:=hA.raw
 obtain ⟨n,hn,hu⟩:=dK hN
 have hab:=bD neg N
 have hlim:∀ i,i < 32->(eA (zN neg N))[1+i]? = some (.int .u32 (dg N i:Nat)):=fun i hi=>by unfold eA;rw [hab];exact ot hi
 have hmag:(eA (zN neg N)).extract 1 33=mA N:=by unfold eA;rw [hab];exact cz
 have hneg:(eA (zN neg N))[0]? = some (.bool (decide (zN neg N < 0))):=dJ
 have hc:=fD neg hN
 generalize zN neg N=z at *
 refine aj ai ak Ot _ _ rfl rfl fun w=>?_
 have h64:(n:Int) > 2↔¬ N < 18446744073709551616:=by
  constructor
  ·intro h h2
   have h3:=hu.2 (by omega)
   have h4:BB ^ 2<=BB ^ (n - 1):=Nat.pow_le_pow_right bQ (by omega)
   rw [show BB ^ 2=18446744073709551616 from by decide] at h4
   omega
  ·intro h
   rcases Nat.lt_or_ge 2 n with h2 | h2
   ·omega
   ·exfalso
    have h4:BB ^ n<=BB ^ 2:=Nat.pow_le_pow_right bQ h2
    rw [show BB ^ 2=18446744073709551616 from by decide] at h4
    have:=hu.1
    omega
 refine ⟨br _ _,_,dJ,by decide,_,cz,.inl ⟨_,hc,ao _,by decide,_,hmag,.inl ⟨_,jH hu hN,fun h=>?_,fun h=>?_⟩⟩⟩
 ·have h:=h64.1 (af h)
  refine ⟨?_,trivial⟩
  rw [dG,if_neg (by omega)];rfl
 ·have h:N < 18446744073709551616:=by
    have:=ag h
    rw [h64] at this;omega
  have eu:=BU (aR N 1) (aR N 0) rfl rfl
  have ed:dg N 1*BB+dg N 0=N:=by
   simp only [dg,aS,Nat.pow_one,Nat.pow_zero,Nat.div_one];omega
  rw [ed] at eu
  have g1:=hlim 1 (by omega)
  have g0:=hlim 0 (by omega)
  refine ⟨by decide,by decide,_,g1,by decide,by decide,by decide,_,g0,_,hneg,fun h1=>⟨fun h2=>?_,fun h2=>⟨_,hneg,?_⟩⟩,fun h1=>⟨nofun,fun _=>⟨_,hneg,?_⟩⟩⟩
  ·rw [eu] at h2
   have h1:=ag (bnt h1)
   have h2:=af h2
   refine ⟨?_,trivial⟩
   rw [dG,if_pos (by omega)]
   refine jY (iv ?_) rfl
   rw [eu,IntKind.wrap_i64]
   omega
  ·rw [eu] at h2
   have h1:=ag (bnt h1)
   have h2:=ag h2
   refine ⟨fun h3=>absurd (af h3) h1,fun _=>⟨nofun,fun _=>⟨?_,trivial⟩⟩⟩
   rw [dG,if_neg (by omega)];rfl
  ·have h1:=af (bnf h1)
   refine ⟨fun _=>⟨fun h2=>⟨?_,trivial⟩,fun h2=>⟨?_,trivial⟩⟩,fun h3=>absurd h1 (ag h3)⟩
   ·rw [eu] at h2
    have h2:=af h2
    rw [dG,if_pos (by omega)]
    refine jY (iv ?_) rfl
    rw [eu,ee,IntKind.wrap_i64]
    omega
   ·rw [eu] at h2
    have h2:=ag h2
    rw [dG,if_neg (by omega)];rfl
theorem AR {A B:Array Value} {x y:Int} (hA:IsI A x) (hB:IsI B y):aw Tryz.prog 94 [SV.c (.agg A),SV.c (.agg B)] (eD (x+y)):=by
 have hx:=hA.lt
 have hy:=hB.lt
 obtain ⟨a,N,hN,rfl,ex⟩:=hA.raw
 obtain ⟨b,M,hM,rfl,ey⟩:=hB.raw
 have eN:x.natAbs=N:=by rw [ex,bD]
 have eM:y.natAbs=M:=by rw [ey,bD]
 have c1:=fD a hN
 have c2:=fD b hM
 rw [<- ex] at c1
 rw [<- ey] at c2
 refine dz [9] ai ak Rd _ _ rfl rfl fun w=>?_
 have mag:∀ z:Int,(eA z).extract 1 33=mA z.natAbs:=fun z=>cz
 have ng:∀ z:Int,(eA z)[0]? = some (.bool (decide (z < 0))):=fun z=>dJ
 refine ⟨br _ _,br _ _,_,dJ,by decide,_,cz,.inl ⟨_,c1,_,dJ,by decide,_,cz,.inl ⟨_,c2,ao _,ao _,by kernel_rfl,_,ng x,_,ng y,fun h=>?_,fun h=>?_⟩⟩⟩
 ·have h:decide (x < 0)=decide (y < 0):=by simpa using h
  refine ⟨by decide,_,mag x,by decide,_,mag y,.inl ⟨_,IH hx hy,aI _,fun h2=>?_,fun h2=>?_⟩⟩
  ·have h2:¬ (x.natAbs+y.natAbs < BB ^ 32):=ag (bnt h2)
   refine ⟨fJ.zero,rfl,ao 0,?_,trivial⟩
   rw [eD,if_neg (by rw [(jp h).1];exact h2)];rfl
  ·have h2:x.natAbs+y.natAbs < BB ^ 32:=af (bnf h2)
   have cc:=fD (decide (x < 0)) h2
   rw [(jp h).2] at cc
   rw [Nat.mod_eq_of_lt h2]
   refine ⟨_,ng x,.inl ⟨_,cc,ao _,?_,trivial⟩⟩
   rw [eD,if_pos (by rw [(jp h).1];exact h2)];rfl
 ·have hne:decide (x < 0)=!decide (y < 0):=qu (by simpa using h)
  refine ⟨fun f mm=>∃ u v:Int,v.natAbs<=u.natAbs/\u.natAbs < BB ^ 32/\decide (u < 0)=(!decide (v < 0))/\u+v=x+y/\f=[(2,SV.ptr 2 0),(3,SV.ptr 3 0),(4,SV.ptr 4 0)]/\mm=[(2,Blk.row 31 33 (eA u)),(3,Blk.row 31 33 (eA v)),(4,Blk.row 31 33 fJ.zero)],⟨by decide,_,mag x,by decide,_,mag y,.inl ⟨_,oy hx hy,fun h2=>?_,fun h2=>?_⟩⟩,?_⟩
  ·rw [kr] at h2
   have hlt:=af h2
   exact ⟨ao _,ao _,_,_,⟨y,x,by omega,hy,by rw [hne];simp,Int.add_comm _ _,rfl,rfl⟩,⟨rfl,rfl,rfl,trivial⟩,⟨rfl,rfl,rfl,trivial⟩,rfl⟩
  ·rw [kr] at h2
   have hlt:=ag h2
   exact ⟨_,_,⟨x,y,by omega,hx,hne,rfl,rfl,rfl⟩,⟨rfl,rfl,rfl,trivial⟩,⟨rfl,rfl,rfl,trivial⟩,rfl⟩
  rintro f mm ⟨u,v,huv,hu,hs,e,rfl,rfl⟩
  have hd:=g8 hu (Nat.lt_of_le_of_lt huv hu)
  rw [wI hu huv] at hd
  have hl:u.natAbs - v.natAbs < BB ^ 32:=Nat.lt_of_le_of_lt (Nat.sub_le _ _) hu
  have cc:=fD (decide (u < 0)) hl
  rw [(pI hs).2 (by omega),e] at cc
  have hb:(x+y).natAbs < BB ^ 32:=by rw [<- e,<- (pI hs).2 (by omega),bD];exact hl
  refine ⟨_,ng u,by decide,_,mag u,by decide,_,mag v,.inl ⟨_,hd,.inl ⟨_,cc,ao _,by kernel_rfl,?_,trivial⟩⟩⟩
  rw [eD,if_pos hb];rfl
theorem sn {A B:Array Value} {x y:Int} (hA:IsI A x) (hB:IsI B y):aw Tryz.prog 142 [SV.c (.agg A),SV.c (.agg B)] (eD (x*y)):=by
 obtain ⟨a,N,hN,rfl,rfl⟩:=hA.raw
 obtain ⟨b,M,hM,rfl,rfl⟩:=hB.raw
 obtain ⟨n,hn,hu⟩:=dK hN
 obtain ⟨m,hm,hv⟩:=dK hM
 have ez:zN (a != b) (N*M)=zN a N*zN b M:=by
  cases a<;>cases b<;>simp [zN,Int.neg_mul,Int.mul_neg]
 have eab:(zN a N*zN b M).natAbs=N*M:=by rw [<- ez,bD]
 refine aj ai ak Pv _ _ rfl rfl fun w=>?_
 refine ⟨br _ _,br _ _,by decide,_,cz,.inl ⟨_,jH hu hN,by decide,_,cz,.inl ⟨_,jH hv hM,by kernel_rfl,?_⟩⟩⟩
 refine ⟨fun q f mm=>∃ (i:Nat) (F:Nat->Nat),q=n - i/\i<=n/\MulO N M m i F/\f=[(2,SV.ptr 2 0),(3,SV.ptr 3 0),(4,SV.ptr 4 0),(6,SV.ptr 6 0),(7,SV.c (.int .i64 n)),(8,SV.c (.int .i64 m)),(9,SV.c (.int .i64 i))]/\mm=[(2,Blk.row 31 33 (iA a N)),(3,Blk.row 31 33 (iA b M)),(4,Blk.row 31 33 fJ.zero),(6,Blk.row 219 64 (lA F 64))],n,⟨_,_,⟨0,fun _=>0,rfl,Nat.zero_le _,MulO.start N M m,rfl,rfl⟩,⟨rfl,rfl,rfl,rfl,rfl,rfl,rfl,trivial⟩,⟨rfl,rfl,rfl,rfl,trivial⟩,rfl⟩,?_⟩
 rintro q f mm ⟨i,F,rfl,hi,hF,rfl,rfl⟩
 refine ⟨fun h=>?_,fun h=>?_⟩
 ·have hin:i < n:=by have:=af h;omega
  refine ⟨fun q f mm=>∃ (j c:Nat) (G:Nat->Nat),q=m - j/\j<=m/\MulI N M m i j F G c/\f=[(2,SV.ptr 2 0),(3,SV.ptr 3 0),(4,SV.ptr 4 0),(6,SV.ptr 6 0),(7,SV.c (.int .i64 n)),(8,SV.c (.int .i64 m)),(9,SV.c (.int .i64 i)),(10,SV.c (.int .u64 c)),(11,SV.c (.int .i64 j))]/\mm=[(2,Blk.row 31 33 (iA a N)),(3,Blk.row 31 33 (iA b M)),(4,Blk.row 31 33 fJ.zero),(6,Blk.row 219 64 (lA G 64))],m,⟨_,_,⟨0,0,F,rfl,Nat.zero_le _,hF.row,rfl,rfl⟩,⟨rfl,rfl,rfl,rfl,rfl,rfl,rfl,rfl,rfl,trivial⟩,⟨rfl,rfl,rfl,rfl,trivial⟩,rfl⟩,?_⟩
  rintro q f mm ⟨j,c,G,rfl,hj,hG,rfl,rfl⟩
  refine ⟨fun h2=>?_,fun h2=>?_⟩
  ·have hjm:j < m:=by have:=af h2;omega
   have e1:IntKind.i64.wrap ((i:Int)+j)=((i+j:Nat):Int):=by rw [i64_in (by omega)];omega
   have gN:(iA a N)[1+i]? = _:=ot (show i < 32 by omega)
   have gM:(iA b M)[1+j]? = _:=ot (show j < 32 by omega)
   have gC:(lA G 64)[(IntKind.i64.wrap ((i:Int)+j)).toNat]? = some (.int .u32 (G (i+j):Nat)):=by rw [e1];exact bT G (by omega)
   have eM:=IR (aR N i) (aR M j) (hG.lt (i+j)) hG.carry
   have hlt:=oa (aR N i) (aR M j) (hG.lt (i+j)) hG.carry
   refine ⟨by omega,by show (i:Int) < 32;omega,_,gN,by omega,by show (j:Int) < 32;omega,_,gM,by rw [e1];omega,by rw [e1];show ((i+j:Nat):Int) < 64;omega,_,gC,by kernel_rfl,by rw [e1];omega,by rw [e1];show ((i+j:Nat):Int) < 64;omega,by rw [e1];show i+j < 64;omega,rfl,_,cG e1 (v:=(dg N i*dg M j+G (i+j)+c) % BB) (by rw [eM,bX,aS];rfl),by decide,?_⟩
   refine ⟨m - (j+1),_,_,by omega,⟨j+1,_,_,rfl,by omega,hG.step,rfl,rfl⟩,⟨rfl,rfl,rfl,rfl,rfl,rfl,rfl,am (by rw [eM];exact zt _),am (by rw [i64_in (by omega)];rfl),trivial⟩,⟨rfl,rfl,rfl,rfl,trivial⟩,rfl⟩
  ·have:j=m:=by have:=ag h2;omega
   subst this
   have e1:IntKind.i64.wrap ((i:Int)+j)=((i+j:Nat):Int):=by rw [i64_in (by omega)];omega
   have hcc:=hG.carry
   rw [aS] at hcc
   refine ⟨by rw [e1];omega,by rw [e1];show ((i+j:Nat):Int) < 64;omega,by rw [e1];show i+j < 64;omega,rfl,_,cG e1 (v:=c) (eQ (by omega)),?_⟩
   exact ⟨n - (i+1),_,_,by omega,⟨i+1,_,rfl,by omega,hG.done hF hv.1,rfl,rfl⟩,⟨rfl,rfl,rfl,rfl,rfl,rfl,am (by rw [i64_in (by omega)];rfl),trivial⟩,⟨rfl,rfl,rfl,rfl,trivial⟩,rfl⟩
 ·have:i=n:=by have:=ag h;omega
  subst this
  obtain ⟨h1,h2,h3⟩:=zQ hF.lt (hF.full hu.1 (by omega))
  refine ⟨fun q f mm=>∃ (k:Nat) (g:Nat->Nat),q=32 - k/\k<=32/\(∀ j,j < k->dg (N*M / BB ^ 32) j=0/\g j=dg (N*M % BB ^ 32) j)/\f=[(2,SV.ptr 2 0),(3,SV.ptr 3 0),(4,SV.ptr 4 0),(6,SV.ptr 6 0),(13,SV.ptr 13 0),(14,SV.c (.int .i64 k))]/\mm=[(2,Blk.row 31 33 (iA a N)),(3,Blk.row 31 33 (iA b M)),(4,Blk.row 31 33 fJ.zero),(6,Blk.row 219 64 (lA F 64)),(13,Blk.row 29 32 (lA g 32))],32,⟨_,_,⟨0,fun _=>0,rfl,Nat.zero_le _,fun j hj=>absurd hj (by omega),rfl,rfl⟩,⟨rfl,rfl,rfl,rfl,rfl,rfl,trivial⟩,⟨rfl,rfl,rfl,rfl,rfl,trivial⟩,rfl⟩,?_⟩
  rintro q f mm ⟨k,g,rfl,hk,hg,rfl,rfl⟩
  refine ⟨fun h4=>?_,fun h4=>?_⟩
  ·have h4:k < 32:=by have:=af h4;omega
   have e1:IntKind.i64.wrap (32+(k:Int))=((32+k:Nat):Int):=by rw [i64_in (by omega)];omega
   have gH:(lA F 64)[(IntKind.i64.wrap (32+(k:Int))).toNat]? = some (.int .u32 (F (32+k):Nat)):=by rw [e1];exact bT F (by omega)
   have gL:(lA F 64)[k]? = some (.int .u32 (F k:Nat)):=bT F (by omega)
   refine ⟨by rw [e1];omega,by rw [e1];show ((32+k:Nat):Int) < 64;omega,_,gH,fun h5=>?_,fun h5=>?_⟩
   ·have h5:F (32+k)≠0:=by intro e;rw [e] at h5;simp at h5
    rw [h2 k h4] at h5
    have:¬ N*M < BB ^ 32:=by
     intro hl
     rw [Nat.div_eq_of_lt hl,ur] at h5
     exact h5 rfl
    refine ⟨fJ.zero,rfl,ao 0,?_,trivial⟩
    rw [eD,if_neg (by rw [eab];exact this)];rfl
   ·have h5:F (32+k)=0:=by
      have:((F (32+k):Nat):Int)=0:=by simpa using h5
      omega
    rw [h2 k h4] at h5
    refine ⟨by omega,by show (k:Int) < 64;omega,_,gL,by omega,by show (k:Int) < 32;omega,by show k < 32;omega,rfl,_,cG (i:=k) (x:=(k:Int)) rfl rfl,?_⟩
    refine ⟨32 - (k+1),_,_,by omega,⟨k+1,_,rfl,by omega,fun j hj=>?_,rfl,rfl⟩,⟨rfl,rfl,rfl,rfl,rfl,am (by rw [i64_in (by omega)];rfl),trivial⟩,⟨rfl,rfl,rfl,rfl,rfl,trivial⟩,rfl⟩
    by_cases e:j=k
    ·subst e
     exact ⟨h5,by rw [if_pos rfl];exact h1 j h4⟩
    ·rw [if_neg e];exact hg j (by omega)
  ·have h4:k=32:=by have:=ag h4;omega
   subst h4
   have hz:N*M / BB ^ 32=0:=FB (n:=32) h3 (bt 32) fun j hj=>by rw [(hg j hj).1,ur]
   have hl:N*M < BB ^ 32:=(Nat.div_eq_zero_iff_lt (bt 32)).1 hz
   have hA:lA g 32=mA (N*M):=aV fun j hj=>by rw [(hg j hj).2,Nat.mod_eq_of_lt hl]
   rw [hA]
   have cc:=fD (a != b) hl
   rw [ez] at cc
   refine ⟨_,dJ,_,dJ,.inl ⟨_,cc,ao _,?_,trivial⟩⟩
   rw [eD,if_pos (by rw [eab];exact hl)];rfl
theorem yG {T j:Nat} (h:j < 32):dg (T % BB ^ 32) j=dg T j:=by
 rw [<- sk];exact qY (fun j _=>aR T j) h
theorem H6 {N b:Nat} (hN:N < BB ^ 32) (hb:b<=1):((dg N 31 / 2147483648:Nat):Int)=1↔¬ 2*N+b < BB ^ 32:=by
 have h:=sT N b 32 hb
 rw [cw hN (Nat.le_refl 32),if_neg (by omega)] at h
 simp only [Nat.zero_mul,Nat.zero_mod,Nat.zero_or] at h
 rw [show 32 - 1=31 from rfl] at h
 rw [<- h]
 unfold dg
 have hP:=bt 32
 have hlt:(2*N+b) / BB ^ 32 < 2:=by
  rw [Nat.div_lt_iff_lt_mul hP];omega
 have hlt2:(2*N+b) / BB ^ 32 < BB:=Nat.lt_trans hlt (by decide)
 rw [Nat.mod_eq_of_lt hlt2]
 constructor
 ·intro h1 h2
  rw [Nat.div_eq_of_lt h2] at h1;simp at h1
 ·intro h1
  have:1<=(2*N+b) / BB ^ 32:=(Nat.le_div_iff_mul_le hP).2 (by omega)
  omega
theorem Fs {N b:Nat} (hN:N < BB ^ 32) (hb:b<=1):aw Tryz.prog 248 [SV.c (.agg (mA N)),SV.c (.int .u32 (b:Nat))] (.tuple #[.agg (mA ((2*N+b) % BB ^ 32)),.bool (!decide (2*N+b < BB ^ 32))]):=by
 refine aj ai ak NJ _ _ rfl rfl fun w=>?_
 refine ⟨cf _,fun q f m=>∃ (k:Nat) (g:Nat->Nat),q=32 - k/\k<=32/\(∀ j,j < 32->g j=if j < k then dg (2*N+b) j else dg N j)/\f=[(1,SV.c (.int .u32 (if k=0 then b else dg N (k - 1) / 2147483648:Nat))),(2,SV.ptr 2 0),(4,SV.ptr 4 0),(6,SV.c (.int .i64 k))]/\m=[(2,Blk.row 29 32 (lA g 32)),(4,Blk.row 29 32 (lA (fun _=>0) 32))],32,⟨_,_,⟨0,dg N,rfl,Nat.zero_le _,fun j hj=>by rw [if_neg (by omega)],rfl,rfl⟩,⟨rfl,rfl,rfl,rfl,trivial⟩,⟨rfl,rfl,trivial⟩,rfl⟩,?_⟩
 rintro q f m ⟨k,g,rfl,hk,hg,rfl,rfl⟩
 refine ⟨fun h=>?_,fun h=>?_⟩
 ·have h1:k < 32:=by have:=af h;omega
  have hx:=aR N k
  have gk:g k=dg N k:=by rw [hg k h1,if_neg (by omega)]
  have gx:(lA g 32)[k]? = some (.int .u32 (dg N k:Nat)):=by rw [bT g h1,gk]
  rw [aS] at hx
  have hbit:(if k=0 then b else dg N (k - 1) / 2147483648) < 4294967296:=by
   split
   ·omega
   ·have:=aR N (k - 1);rw [aS] at this;omega
  have es:IntKind.u32.wrap ((dg N k:Nat)*2 ^ min (Int.toNat 1) IntKind.u32.bits)=((dg N k*2 % 4294967296:Nat):Int):=by
   rw [bX];show ((dg N k:Nat):Int)*2 % 4294967296=_;omega
  have ev:=Bv (A:=dg N k*2 % 4294967296) (B:=if k=0 then b else dg N (k - 1) / 2147483648) (Nat.mod_lt _ (by omega)) hbit
  rw [<- es] at ev
  refine ⟨by omega,by show (k:Int) < 32;omega,_,gx,by decide,by omega,by show (k:Int) < 32;omega,_,gx,by decide,by omega,by show (k:Int) < 32;omega,by show k < 32;omega,rfl,_,cG (i:=k) (x:=(k:Int)) rfl ev,by kernel_rfl,?_⟩
  refine ⟨32 - (k+1),_,_,by omega,⟨k+1,_,rfl,by omega,fun j hj=>?_,rfl,rfl⟩,⟨am (by rw [if_neg (by omega),show k+1 - 1=k by omega];exact iU _ 31),rfl,rfl,am (by rw [i64_in (by omega)];rfl),trivial⟩,⟨rfl,rfl,trivial⟩,rfl⟩
  by_cases e:j=k
  ·subst e
   rw [if_pos rfl,if_pos (show j < j+1 by omega),sT N b j hb]
  ·rw [if_neg e,hg j hj]
   by_cases e2:j < k
   ·rw [if_pos e2,if_pos (by omega)]
   ·rw [if_neg e2,if_neg (by omega)]
 ·have h1:k=32:=by have:=ag h;omega
  subst h1
  have hA:lA g 32=mA ((2*N+b) % BB ^ 32):=aV fun j hj=>by
   rw [hg j hj,if_pos hj]
   exact (yG hj).symm
  refine ⟨eL _ _,jY (by rw [hA]) (bv ?_),trivial⟩
  rw [Bool.eq_iff_iff]
  simp only [if_neg (show ¬ 32=0 by omega),show 32 - 1=31 from rfl,beq_iff_eq,Bool.not_eq_true',decide_eq_false_iff_not]
  exact H6 hN hb
theorem pU (a b:Nat):Int.tmod (a:Int) (b:Int)=((a % b:Nat):Int):=(Int.ofNat_tmod a b).symm
theorem pW (a b:Nat):Int.tdiv (a:Int) (b:Int)=((a / b:Nat):Int):=(Int.ofNat_tdiv a b).symm
theorem Bf {N n:Nat} (hN:N < BB ^ 32) (hn:n<=1024):aw Tryz.prog 247 [SV.c (.agg (mA N)),SV.c (.int .i64 (n:Nat))] (.agg (mA (N / 2 ^ n))):=by
 refine aj ai ak NK _ _ rfl rfl fun w=>?_
 obtain ⟨k,s,hs,rfl⟩:∃ k s,s < 32/\n=32*k+s:=⟨n / 32,n % 32,Nat.mod_lt _ (by omega),by omega⟩
 have ek:IntKind.i64.wrap (Int.tdiv ((32*k+s:Nat):Int) 32)=(k:Nat):=by
  have:=pW (32*k+s) 32
  rw [show ((32:Nat):Int)=32 from rfl] at this
  rw [this,show (32*k+s) / 32=k by omega,i64_in (by omega)]
 have es:IntKind.u64.wrap (Int.tmod ((32*k+s:Nat):Int) 32)=(s:Nat):=by
  have:=pU (32*k+s) 32
  rw [show ((32:Nat):Int)=32 from rfl] at this
  rw [this,show (32*k+s) % 32=s by omega,cy (by omega)]
 refine ⟨cf _,by decide,by decide,fun q f m=>∃ (i:Nat) (g:Nat->Nat),q=32 - (i+k)/\i+k<=32/\(∀ j,j < 32->g j=if j < i then dg (N / 2 ^ (32*k+s)) j else 0)/\f=[(2,SV.ptr 2 0),(4,SV.ptr 4 0),(5,SV.ptr 5 0),(6,SV.c (.int .i64 k)),(7,SV.c (.int .u64 s)),(8,SV.c (.int .i64 i))]/\m=[(2,Blk.row 29 32 (mA N)),(4,Blk.row 29 32 (lA (fun _=>0) 32)),(5,Blk.row 29 32 (lA g 32))],32 - (0+k),⟨_,_,⟨0,fun _=>0,rfl,by omega,fun j hj=>by rw [if_neg (by omega)],rfl,rfl⟩,⟨rfl,rfl,rfl,am ek,am es,rfl,trivial⟩,⟨rfl,rfl,rfl,trivial⟩,rfl⟩,?_⟩
 rintro q f m ⟨i,g,rfl,hi,hg,rfl,rfl⟩
 have e1:IntKind.i64.wrap ((i:Int)+k)=((i+k:Nat):Int):=by rw [i64_in (by omega)];omega
 refine ⟨fun h=>?_,fun h=>?_⟩
 ·have h1:i+k < 32:=by have:=af h;rw [e1] at this;omega
  have gx:(mA N)[(IntKind.i64.wrap ((i:Int)+k)).toNat]? = some (.int .u32 (dg N (i+k):Nat)):=by rw [e1];exact bo h1
  have hsh:=yE N k s i hs
  have hx:=aR N (i+k)
  have hy:=aR N (i+k+1)
  rw [aS] at hx hy
  have esh:((dg N (i+k):Nat):Int).fdiv (2 ^ min (Int.toNat (s:Int)) IntKind.u32.bits)=((dg N (i+k) / 2 ^ s:Nat):Int):=mF _ s (by omega) rfl
  have e2:IntKind.i64.wrap (IntKind.i64.wrap ((i:Int)+k)+1)=((i+k+1:Nat):Int):=by rw [e1,i64_in (by omega)];omega
  refine ⟨by rw [e1];omega,by rw [e1];show ((i+k:Nat):Int) < 32;omega,_,gx,by omega,by omega,by show (i:Int) < 32;omega,by show i < 32;omega,rfl,_,cG (i:=i) (x:=(i:Int)) rfl esh,fun h2=>⟨fun h3=>?_,fun h3=>?_⟩,fun h2=>⟨nofun,fun _=>?_⟩⟩
  ·have h2:0 < s:=by have:=af h2;omega
   have h3:i+k+1 < 32:=by have:=af h3;rw [e2] at this;omega
   have gz:(mA N)[(IntKind.i64.wrap (IntKind.i64.wrap ((i:Int)+k)+1)).toNat]? = some (.int .u32 (dg N (i+k+1):Nat)):=by rw [e2];exact bo h3
   have ge:(lA (fun x=>if x=i then dg N (i+k) / 2 ^ s else g x) 32)[i]? = some (.int .u32 (dg N (i+k) / 2 ^ s:Nat)):=by rw [bT _ (by omega),if_pos rfl]
   have e5:IntKind.u64.wrap (32 - (s:Int))=((32 - s:Nat):Int):=by rw [cy (by omega)];omega
   have e6:IntKind.u32.wrap (((dg N (i+k+1):Nat):Int)*2 ^ min (Int.toNat (IntKind.u64.wrap (32 - (s:Int)))) IntKind.u32.bits)=((dg N (i+k+1)*2 ^ (32 - s) % 4294967296:Nat):Int):=by
    rw [e5];exact mG _ (32 - s) (by omega)
   have hd1:dg N (i+k) / 2 ^ s < 4294967296:=Nat.lt_of_le_of_lt (Nat.div_le_self _ _) hx
   have ev:=Bv (A:=dg N (i+k) / 2 ^ s) (B:=dg N (i+k+1)*2 ^ (32 - s) % 4294967296) hd1 (Nat.mod_lt _ (by omega))
   rw [<- e6] at ev
   refine ⟨by omega,by show (i:Int) < 32;omega,_,ge,by rw [e2];omega,by rw [e2];show ((i+k+1:Nat):Int) < 32;omega,_,gz,by rw [e5];omega,by omega,by show (i:Int) < 32;omega,by show i < 32;omega,rfl,_,cG (i:=i) (x:=(i:Int)) rfl ev,by kernel_rfl,?_⟩
   refine ⟨32 - (i+1+k),_,_,by omega,⟨i+1,_,rfl,by omega,fun j hj=>?_,rfl,rfl⟩,⟨rfl,rfl,rfl,rfl,rfl,am (by rw [i64_in (by omega)];rfl),trivial⟩,⟨rfl,rfl,rfl,trivial⟩,rfl⟩
   by_cases e:j=i
   ·subst e
    rw [if_pos rfl,if_pos (show j < j+1 by omega),hsh,if_pos h2]
   ·rw [if_neg e,if_neg e,hg j hj]
    by_cases e2:j < i
    ·rw [if_pos e2,if_pos (show j < i+1 by omega)]
    ·rw [if_neg e2,if_neg (show ¬ j < i+1 by omega)]
  ·have h2:0 < s:=by have:=af h2;omega
   have h3:¬ i+k+1 < 32:=by have:=ag h3;rw [e2] at this;omega
   refine ⟨32 - (i+1+k),_,_,by omega,⟨i+1,_,rfl,by omega,fun j hj=>?_,rfl,rfl⟩,⟨rfl,rfl,rfl,rfl,rfl,am (by rw [i64_in (by omega)];rfl),trivial⟩,⟨rfl,rfl,rfl,trivial⟩,rfl⟩
   by_cases e:j=i
   ·subst e
    rw [if_pos rfl,if_pos (show j < j+1 by omega),hsh,if_pos h2,cw hN (show 32<=j+k+1 by omega)];simp
   ·rw [if_neg e,hg j hj]
    by_cases e2:j < i
    ·rw [if_pos e2,if_pos (show j < i+1 by omega)]
    ·rw [if_neg e2,if_neg (show ¬ j < i+1 by omega)]
  ·have h2:s=0:=by have:=ag h2;omega
   refine ⟨32 - (i+1+k),_,_,by omega,⟨i+1,_,rfl,by omega,fun j hj=>?_,rfl,rfl⟩,⟨rfl,rfl,rfl,rfl,rfl,am (by rw [i64_in (by omega)];rfl),trivial⟩,⟨rfl,rfl,rfl,trivial⟩,rfl⟩
   by_cases e:j=i
   ·subst e
    rw [if_pos rfl,if_pos (show j < j+1 by omega),hsh,if_neg (show ¬ 0 < s by omega)];simp
   ·rw [if_neg e,hg j hj]
    by_cases e2:j < i
    ·rw [if_pos e2,if_pos (show j < i+1 by omega)]
    ·rw [if_neg e2,if_neg (show ¬ j < i+1 by omega)]
 ·have h1:¬ i+k < 32:=by have:=ag h;rw [e1] at this;omega
  have hA:lA g 32=mA (N / 2 ^ (32*k+s)):=aV fun j hj=>by
   rw [hg j hj]
   by_cases e:j < i
   ·rw [if_pos e]
   ·rw [if_neg e,yE N k s j hs,cw hN (show 32<=j+k by omega),cw hN (show 32<=j+k+1 by omega)]
    simp
  exact ⟨eL _ _,by rw [hA];rfl,trivial⟩
end Go.Proofs.YtklehfchdoikeaaGreatDoor
