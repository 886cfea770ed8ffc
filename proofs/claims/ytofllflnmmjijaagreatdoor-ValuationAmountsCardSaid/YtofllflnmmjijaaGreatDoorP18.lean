/- walks: texts of decimals. walks: prices, actions in memory. walks: actions. walks: what actions do. walks: the reference, magnitudes. walks: the reference, whole numbers; no condition. -/
import Derived.Laws.Slices
import Derived.Laws.Strings3
import Derived.Test.YtofllflnmmjijaaGreatDoorP16
set_option maxRecDepth 100000
set_option maxHeartbeats 4000000
namespace Go.Proofs.YtofllflnmmjijaaGreatDoor
open Go Go.RowKit Go.SX
def S (l:List UInt8):ByteArray:=⟨l.toArray⟩
theorem S_size (l:List UInt8):(S l).size=l.length:=by show l.toArray.size=_;simp
theorem S_of (s:ByteArray):s=S s.data.toList:=by simp [S]
theorem S_beq (a b:List UInt8):((S a).toList == (S b).toList)=decide (a=b):=by
 rw [ByteArray.toList_eq,ByteArray.toList_eq]
 show (a == b)=_
 rw [Bool.eq_iff_iff];simp
theorem S_add (a b:List UInt8):S a++S b=S (a++b):=by
 apply ByteArray.ext
 show (S a++S b).data=_
 rw [ByteArray.data_append]
 simp [S]
theorem S_ext (l:List UInt8) (a b:Nat):(S l).extract a b=S ((l.take b).drop a):=by
 apply ByteArray.ext
 rw [ByteArray.data_extract]
 apply Array.ext'
 simp [S,List.drop_take]
theorem run_len_S {P:Program} {t ty:TypeId} (hu:P.underlying t=some .string) {cs:Array Bool} {l:List UInt8} (w:World):(builtin .len #[t] ty cs #[.string (S l)]).run P w=.ok (.value (.int .i64 (l.length:Nat))) w:=by
 simp [builtin,Builtin.len_,Sem.run_bind,run_underlying hu,goInt,S_size]
theorem runs_hi {E:Env} {t:TypeId} (hu:E.P.underlying t=some .string) {l:List UInt8} {k:IntKind} {x:Int} (n:Nat) (hx:x=n) (hn:n≤l.length):Runs E (Instr.sliceAt t (.string (S l)) none (some (.int k x)) none) (.string (S (l.take n))):=fun w _=>by
 subst hx
 have h:=run_slice_string_h (P:=E.P) w t (S l) hu k n (by omega) (by rw [S_size];omega)
 simp only [Instr.sliceAt,Sem.run_bind,run_underlying hu,Result.andThen_ok]
 rw [h,S_ext]
 simp
theorem runs_lo {E:Env} {t:TypeId} (hu:E.P.underlying t=some .string) {l:List UInt8} {k:IntKind} {x:Int} (n:Nat) (hx:x=n) (hn:n≤l.length):Runs E (Instr.sliceAt t (.string (S l)) (some (.int k x)) none none) (.string (S (l.drop n))):=fun w _=>by
 subst hx
 have h:=run_slice_string_l (P:=E.P) w t (S l) hu k n (by omega) (by rw [S_size];omega)
 simp only [Instr.sliceAt,Sem.run_bind,run_underlying hu,Result.andThen_ok]
 rw [h,S_ext,S_size]
 simp
theorem runs_idx {E:Env} {t:TypeId} (hu:E.P.underlying t=some .string) {l:List UInt8} {k:IntKind} {x:Int} (n:Nat) (hx:x=n) (hn:n < l.length):Runs E (Instr.index t (.string (S l)) (.int k x)) (.int .u8 ((l.getD n 0).toNat:Nat)):=by
 subst hx
 refine runs_index hu (by omega) (b:=l.getD n 0) ?_
 show l.toArray[(n:Int).toNat]? = _
 rw [Int.toNat_natCast,List.getElem?_toArray,List.getD_eq_getElem?_getD,List.getElem?_eq_getElem hn]
 rfl
theorem run_lenE {P:Program} {t ty:TypeId} (hu:P.underlying t=some .string) {cs:Array Bool} {s:ByteArray} {l:List UInt8} (hs:s=S l) (w:World):(builtin .len #[t] ty cs #[.string s]).run P w=.ok (.value (.int .i64 (l.length:Nat))) w:=by subst hs;exact run_len_S hu w
theorem runs_hiE {E:Env} {t:TypeId} (hu:E.P.underlying t=some .string) {s:ByteArray} {l:List UInt8} (hs:s=S l) {k:IntKind} {x:Int} (n:Nat) (hx:x=n) (hn:n≤l.length):Runs E (Instr.sliceAt t (.string s) none (some (.int k x)) none) (.string (S (l.take n))):=by subst hs;exact runs_hi hu n hx hn
theorem runs_loE {E:Env} {t:TypeId} (hu:E.P.underlying t=some .string) {s:ByteArray} {l:List UInt8} (hs:s=S l) {k:IntKind} {x:Int} (n:Nat) (hx:x=n) (hn:n≤l.length):Runs E (Instr.sliceAt t (.string s) (some (.int k x)) none none) (.string (S (l.drop n))):=by subst hs;exact runs_lo hu n hx hn
theorem sv {a b:ByteArray} (h:a=b):Value.string a=.string b:=by rw [h]
theorem hasPre_z (l p:List UInt8):Pure Tryz.prog 244 [SV.c (.string (S l)),SV.c (.string (S p))] (.bool (decide (p.length≤l.length∧l.take p.length=p))):=by
 refine sx_pure tt_ok mixed at244 _ _ rfl rfl fun w=>?_
 refine ⟨_,fun w _=>run_len_S Tryz.underlying9 w,_,fun w _=>run_len_S Tryz.underlying9 w,fun h=>?_,fun h=>?_⟩
 ·have h:p.length≤l.length:=by have:=of_decide_eq_true h;omega
  refine ⟨_,fun w _=>run_len_S Tryz.underlying9 w,_,runs_hi Tryz.underlying9 p.length rfl h,bv ?_,trivial⟩
  rw [S_beq,Bool.eq_iff_iff]
  simp [h]
 ·have h:¬ (p.length≤l.length):=by have:=of_decide_eq_false h;omega
  refine ⟨bv ?_,trivial⟩
  rw [Bool.eq_iff_iff]
  simp [h]
theorem hasPre2_z (l p:List UInt8):Pure Tryz.prog 246 [SV.c (.string (S l)),SV.c (.string (S p))] (.bool (decide (p.length≤l.length∧l.take p.length=p))):=by
 refine sx_pure tt_ok mixed at246 _ _ rfl rfl fun w=>?_
 exact .inl ⟨_,hasPre_z l p,rfl,trivial⟩
def cutP (l p:List UInt8):List UInt8×Bool:=if p.length≤l.length∧l.take p.length=p then (l.drop p.length,true) else (l,false)
theorem cutPre_z (l p:List UInt8):Pure Tryz.prog 218 [SV.c (.string (S l)),SV.c (.string (S p))] (.tuple #[.string (S (cutP l p).1),.bool (cutP l p).2]):=by
 refine sx_pure tt_ok mixed at218 _ _ rfl rfl fun w=>?_
 refine .inl ⟨_,hasPre_z l p,fun h=>?_,fun h=>?_⟩
 ·have h:=of_decide_eq_false (bnt h)
  refine ⟨?_,trivial⟩
  rw [cutP,if_neg h];rfl
 ·have h:=of_decide_eq_true (bnf h)
  refine ⟨_,fun w _=>run_len_S Tryz.underlying9 w,_,runs_lo Tryz.underlying9 p.length rfl h.1,?_,trivial⟩
  rw [cutP,if_pos h];rfl
theorem cutPre2_z (l p:List UInt8):Pure Tryz.prog 176 [SV.c (.string (S l)),SV.c (.string (S p))] (.tuple #[.string (S (cutP l p).1),.bool (cutP l p).2]):=by
 refine sx_pure tt_ok mixed at176 _ _ rfl rfl fun w=>?_
 exact .inl ⟨_,cutPre_z l p,rfl,trivial⟩
def trimR (c:UInt8) (l:List UInt8):List UInt8:=(l.reverse.dropWhile (· == c)).reverse
theorem trimR_snoc (c x:UInt8) (l:List UInt8):trimR c (l++[x])=if x=c then trimR c l else l++[x]:=by
 unfold trimR
 by_cases h:x=c
 ·simp [h]
 ·simp [h]
theorem trimR_len (c:UInt8) (l:List UInt8):(trimR c l).length≤l.length:=by
 unfold trimR
 rw [List.length_reverse]
 have:=(List.dropWhile_sublist (· == c) (l:=l.reverse)).length_le
 simpa using this
theorem snoc_of {l:List UInt8} (h:0 < l.length):l=l.take (l.length - 1)++[l.getD (l.length - 1) 0]:=by
 rw [List.getD_eq_getElem?_getD,List.getElem?_eq_getElem (by omega)]
 simp only [Option.getD_some]
 rw [List.take_append_getElem (by omega),Nat.sub_add_cancel h,List.take_length]
theorem trimB_z (l:List UInt8) (c:UInt8) (hl:l.length≤9223372036854775807):Pure Tryz.prog 220 [SV.c (.string (S l)),SV.c (.int .u8 (c.toNat:Nat))] (.string (S (trimR c l))):=by
 refine sx_pure tt_ok mixed at220 _ _ rfl rfl fun w=>?_
 refine ⟨fun q f m=>∃ k:List UInt8,q=k.length∧k.length≤9223372036854775807∧trimR c k=trimR c l∧f=[(0,SV.c (.string (S k))),(1,SV.c (.int .u8 (c.toNat:Nat)))]∧m=[],l.length,⟨_,_,⟨l,rfl,hl,rfl,rfl,rfl⟩,⟨rfl,rfl,trivial⟩,trivial,rfl⟩,?_⟩
 rintro q f m ⟨k,rfl,h63,hk,rfl,rfl⟩
 have hn:0 < k.length→IntKind.i64.wrap ((k.length:Int) - 1)=((k.length - 1:Nat):Int):=fun h=>by rw [i64_in (by omega)];omega
 refine ⟨_,fun w _=>run_len_S Tryz.underlying9 w,fun h=>?_,fun h=>?_⟩
 ·have h:0 < k.length:=by have:=of_decide_eq_true h;omega
  have hs:=snoc_of h
  refine ⟨_,fun w _=>run_len_S Tryz.underlying9 w,_,runs_idx Tryz.underlying9 (k.length - 1) (hn h) (by omega),fun h2=>?_,fun h2=>?_⟩
  ·have h2:k.getD (k.length - 1) 0=c:=by
     have:(((k.getD (k.length - 1) 0).toNat:Nat):Int)=(c.toNat:Nat):=by simpa using h2
     exact UInt8.toNat_inj.1 (by omega)
   refine ⟨_,fun w _=>run_len_S Tryz.underlying9 w,_,runs_hi Tryz.underlying9 (k.length - 1) (hn h) (by omega),?_⟩
   refine ⟨k.length - 1,_,_,by omega,⟨k.take (k.length - 1),by simp,by simp;omega,?_,rfl,rfl⟩,⟨rfl,rfl,trivial⟩,trivial,rfl⟩
   rw [hs,trimR_snoc,if_pos h2] at hk
   exact hk
  ·have h2:k.getD (k.length - 1) 0≠c:=by
     intro e
     rw [e] at h2;simp at h2
   refine ⟨?_,trivial⟩
   rw [hs,trimR_snoc,if_neg h2,← hs] at hk
   rw [← hk];rfl
 ·have h:k.length=0:=by have:=of_decide_eq_false h;omega
  have h:k=[]:=List.length_eq_zero_iff.1 h
  subst h
  refine ⟨nofun,fun _=>⟨?_,trivial⟩⟩
  rw [← hk];rfl
theorem trim_z (l:List UInt8) (c:UInt8) (hl:l.length≤9223372036854775807) (hc:c.toNat < 128):Pure Tryz.prog 179 [SV.c (.string (S l)),SV.c (.string (S [c]))] (.string (S (trimR c l))):=by
 refine sx_pure tt_ok mixed at179 _ _ rfl rfl fun w=>?_
 have e1:((S l).toList == (S []).toList)=decide (l=[]):=S_beq l []
 have e2:((S [c]).toList == (S []).toList)=false:=by rw [S_beq];simp
 refine ⟨fun h=>⟨fun h2=>?_,fun h2=>?_⟩,fun h=>?_⟩
 ·exact absurd (e2.symm.trans h2) (by simp)
 ·refine ⟨_,fun w _=>run_len_S Tryz.underlying9 w,fun _=>⟨_,runs_idx Tryz.underlying9 0 rfl (by simp),fun h3=>⟨_,runs_idx Tryz.underlying9 0 rfl (by simp),.inl ⟨_,trimB_z l c hl,rfl,trivial⟩⟩,fun h3=>?_⟩,nofun⟩
  exfalso
  have h3:=of_decide_eq_false h3
  apply h3
  show ((c.toNat:Nat):Int) < 128
  omega
 ·have h:l=[]:=of_decide_eq_true (e1.symm.trans h)
  subst h
  exact ⟨fun _=>⟨rfl,trivial⟩,nofun⟩
theorem mul64_z (n:Nat) (h:n≤10):Pure Tryz.prog 264 [SV.c (.int .u64 1),SV.c (.int .u64 (n:Nat))] (.tuple #[.int .u64 0,.int .u64 (n:Nat)]):=by
 obtain rfl | rfl | rfl | rfl | rfl | rfl | rfl | rfl | rfl | rfl | rfl:n=0∨n=1∨n=2∨n=3∨n=4∨n=5∨n=6∨n=7∨n=8∨n=9∨n=10:=by omega
 all_goals
  refine sx_pure tt_ok mixed at264 _ _ rfl rfl fun w=>?_
  exact ⟨by decide,by decide,by decide,by decide,by decide,by kernel_rfl,trivial⟩
theorem mulU_z (n:Nat) (h:n≤10):Pure Tryz.prog 245 [SV.c (.int .u64 1),SV.c (.int .u64 (n:Nat))] (.tuple #[.int .u64 0,.int .u64 (n:Nat)]):=by
 refine sx_pure tt_ok mixed at245 _ _ rfl rfl fun w=>?_
 exact ⟨nofun,fun _=>.inl ⟨_,mul64_z n h,rfl,trivial⟩⟩
def zeros64:List UInt8:=List.replicate 64 48
theorem repeat_z (n:Nat) (h0:0 < n) (h:n≤10):Pure Tryz.prog 219 [SV.c (.string (S [48])),SV.c (.int .i64 (n:Nat))] (.string (S (List.replicate n 48))):=by
 refine sx_pure tt_ok mixed at219 _ _ rfl rfl fun w=>?_
 have hp:Pure Tryz.prog 246 [SV.c (.string (S zeros64)),SV.c (.string (S [48]))] (.bool true):=hasPre2_z zeros64 [48]
 have e1:IntKind.u64.wrap ((n:Nat):Int)=(n:Nat):=u64_in (by omega)
 have hm:=mulU_z n h
 have ht:zeros64.take n=List.replicate n 48:=by rw [zeros64,List.take_replicate];congr 1;omega
 refine ⟨fun h1=>?_,fun h1=>⟨fun h2=>?_,fun h2=>⟨fun h3=>?_,fun h3=>⟨_,fun w _=>run_len_S Tryz.underlying9 w,?_⟩⟩⟩⟩
 ·exfalso
  have:(n:Int)=0:=by simpa using h1
  omega
 ·have h2:n=1:=by have:(n:Int)=1:=by simpa using h2
                  omega
  subst h2
  exact ⟨rfl,trivial⟩
 ·exfalso
  have:=of_decide_eq_true h3
  omega
 ·have hm':Pure Tryz.prog 245 [SV.c (.int .u64 1),SV.c (.int .u64 (IntKind.u64.wrap ((n:Nat):Int)))] (.tuple #[.int .u64 0,.int .u64 (n:Nat)]):=by rw [e1];exact hm
  have e2:IntKind.i64.wrap ((n:Nat):Int)=(n:Nat):=i64_in (by omega)
  refine .inl ⟨_,hm',fun _=>⟨fun h4=>?_,fun h4=>?_⟩,nofun⟩
  ·exfalso
   have:=of_decide_eq_true h4
   have:((n:Nat):Int) > 9223372036854775807:=this
   omega
  ·refine ⟨_,fun w _=>run_len_S Tryz.underlying9 w,nofun,fun _=>⟨_,runs_idx Tryz.underlying9 0 rfl (by decide),nofun,fun _=>⟨nofun,fun _=>⟨fun _=>?_,nofun⟩⟩⟩⟩
   refine ⟨fun _=>⟨fun h5=>.inl ⟨_,hasPre2_z _ [48],fun h6=>absurd h6 (by decide),fun _=>⟨fun h7=>.inl ⟨_,hasPre2_z _ [48],fun h6=>absurd h6 (by decide),fun _=>⟨fun h8=>?_,fun h8=>?_⟩⟩,fun h7=>?_⟩⟩,fun h5=>?_⟩,nofun⟩
   ·refine .inl ⟨_,hasPre2_z zeros64 [48],fun _=>⟨_,runs_hi (l:=zeros64) Tryz.underlying9 n e2 (by show n≤64;omega),?_,trivial⟩,fun h6=>absurd h6 (by decide)⟩
    rw [ht];rfl
   ·exfalso
    have h8:=of_decide_eq_false h8
    rw [e2] at h8;omega
   ·exfalso
    have h7:=of_decide_eq_false h7
    rw [e2] at h7;omega
   ·exfalso
    have h5:=of_decide_eq_false h5
    rw [e2] at h5;omega
def padZ (k:Nat) (l:List UInt8):List UInt8:=if l.length≤k then List.replicate (k+1 - l.length) 48++l else l
theorem padZ_len (k:Nat) (l:List UInt8):k < (padZ k l).length:=by
 unfold padZ;split
 ·simp;omega
 ·omega
theorem point_z (l:List UInt8) (k:Nat) (hk:k≤9) (h0:0 < l.length) (hl:l.length≤1000):Pure Tryz.prog 178 [SV.c (.string (S l)),SV.c (.int .i64 (k:Nat))] (.tuple #[.string (S ((padZ k l).take ((padZ k l).length - k))),.string (S ((padZ k l).drop ((padZ k l).length - k)))]):=by
 refine sx_pure tt_ok mixed at178 _ _ rfl rfl fun w=>?_
 refine ⟨_,fun w _=>run_len_S Tryz.underlying9 w,fun h=>?_,fun h=>?_⟩
 ·have h:l.length≤k:=by have:=of_decide_eq_true h;omega
  have ep:padZ k l=List.replicate (k+1 - l.length) 48++l:=if_pos h
  have e1:IntKind.i64.wrap (IntKind.i64.wrap ((k:Int)+1) - (l.length:Nat))=((k+1 - l.length:Nat):Int):=by rw [i64_in (x:=(k:Int)+1) (by omega),i64_in (by omega)];omega
  have hr:=repeat_z (k+1 - l.length) (by omega) (by omega)
  rw [← e1] at hr
  have es:S (List.replicate (k+1 - l.length) 48)++S l=S (padZ k l):=by rw [S_add,ep]
  have el:=padZ_len k l
  have el2:(padZ k l).length≤1000:=by rw [ep];simp;omega
  have e2:IntKind.i64.wrap (((padZ k l).length:Int) - (k:Nat))=(((padZ k l).length - k:Nat):Int):=by rw [i64_in (by omega)];omega
  exact ⟨_,fun w _=>run_len_S Tryz.underlying9 w,.inl ⟨_,hr,by rw [S_size,S_size];simp;omega,_,fun w _=>run_lenE Tryz.underlying9 es w,_,runs_hiE Tryz.underlying9 es _ e2 (by omega),_,fun w _=>run_lenE Tryz.underlying9 es w,_,runs_loE Tryz.underlying9 es _ e2 (by omega),by kernel_rfl,rfl,trivial⟩⟩
 ·have h:¬ l.length≤k:=by have:=of_decide_eq_false h;omega
  have ep:padZ k l=l:=if_neg h
  rw [ep]
  have e1:IntKind.i64.wrap ((l.length:Int) - (k:Nat))=((l.length - k:Nat):Int):=by rw [i64_in (by omega)];omega
  exact ⟨_,fun w _=>run_len_S Tryz.underlying9 w,_,runs_hi Tryz.underlying9 (l.length - k) e1 (by omega),_,fun w _=>run_len_S Tryz.underlying9 w,_,runs_lo Tryz.underlying9 (l.length - k) e1 (by omega),by kernel_rfl,rfl,trivial⟩
def txtZ (z:Int) (k:Nat):List UInt8×Int :=
 let s:=padZ k (fmtN z.natAbs)
 let p:=trimR 48 (s.drop (s.length - k))
 if 15 < s.length - k then ([],32) else ((if z < 0 then [45] else [])++s.take (s.length - k)++(if p=[] then [] else 46 :: p),0)
def txtQ (r:RQ) (n:Int):List UInt8×Int:=if !r.ok then ([],20) else if n < 0∨n > 9 then ([],30) else if r.p*(tp n.toNat:Nat) % r.q≠0 then ([],32) else txtZ (r.p*(tp n.toNat:Nat) / r.q) n.toNat
def resS (x:List UInt8×Int):Value:=.tuple #[.string (S x.1),.int .i64 x.2]
theorem fmtN_dig {N:Nat}:∀ b∈fmtN N,48≤b.toNat∧b.toNat≤57:=by
 intro b hb
 unfold fmtN at hb
 split at hb
 ·simp at hb;subst hb;decide
 ·exact rdig_isdig b (List.mem_reverse.1 hb)
theorem fmtN_pos (N:Nat):0 < (fmtN N).length:=by
 unfold fmtN
 split
 ·simp
 ·rename_i h;rw [rdig_pos h];simp
theorem fmtN_len {k N:Nat} (hk:0 < k) (h:N < 10 ^ k):(fmtN N).length≤k:=by
 unfold fmtN
 split
 ·simp;omega
 ·rw [List.length_reverse];exact rdig_len k N h
theorem cut_minus (z:Int):cutP (fmtZ z) [45]=(fmtN z.natAbs,decide (z < 0)):=by
 unfold fmtZ cutP
 by_cases h:z < 0
 ·simp [h]
 ·rw [if_neg h]
  have h0:=fmtN_pos z.natAbs
  cases hl:fmtN z.natAbs with
  | nil=>rw [hl] at h0;simp at h0
  | cons a r =>
   have:=fmtN_dig a (by rw [hl];simp)
   rw [if_neg]
   ·simp [h]
   ·rintro ⟨-,h2⟩
    simp at h2
    subst h2
    simp at this
theorem bits_dec {N:Nat} (h:N < 2 ^ e960):N < 10 ^ e309:=Nat.lt_trans h (by decide +kernel)
theorem text_z {r:RQ} (hr:r.In) (n:Int):Pure Tryz.prog 125 [SV.c (.agg r.A),SV.c (.int .i64 n)] (resS (txtQ r n)):=by
 refine sx_pure tt_ok mixed at125 _ _ rfl rfl fun w=>?_
 have hc:=check_z hr n
 rcases Decidable.em (r.ok=true) with hk | hk
 case inr =>
  have hk:r.ok=false:=by simpa using hk
  rw [hk,Bool.not_false,if_pos rfl] at hc
  refine ⟨r.A_size,.inl ⟨_,hc,fun _=>⟨?_,trivial⟩,nofun⟩⟩
  rw [txtQ,hk,Bool.not_false,if_pos rfl];rfl
 rw [hk] at hc
 rcases Decidable.em (n < 0∨n > 9) with hn | hn
 ·rw [Bool.not_true,if_neg Bool.false_ne_true,if_pos hn] at hc
  refine ⟨r.A_size,.inl ⟨_,hc,fun _=>⟨?_,trivial⟩,nofun⟩⟩
  rw [txtQ,hk,Bool.not_true,if_neg Bool.false_ne_true,if_pos hn];rfl
 rw [Bool.not_true,if_neg Bool.false_ne_true,if_neg hn] at hc
 obtain ⟨k,rfl⟩:∃ k:Nat,n=k:=⟨n.toNat,by omega⟩
 have hk9:k≤9:=by omega
 obtain ⟨k1,k2,k3,k4,k5⟩:=RQ.ok_bits hk
 have hs:=scaled_z hr hk hk9
 have hl:=scale_lt2 k1 hk9
 have hrl:(r.p*((tp k:Nat):Int) % r.q).natAbs < BB ^ 32:=by
  have h1:=Int.emod_lt_of_pos (r.p*((tp k:Nat):Int)) k3
  have h2:=Int.emod_nonneg (r.p*((tp k:Nat):Int)) (show r.q≠0 by omega)
  have h3:r.q.natAbs < 2 ^ e480:=Nat.lt_of_lt_of_le (bl_bits _).1 (Nat.pow_le_pow_right (by omega) k2)
  have:=hp480
  omega
 have hlow:(r.p*((tp k:Nat):Int) / r.q).natAbs < 2 ^ e960:=Nat.lt_of_le_of_lt (Int.natAbs_ediv_le_natAbs _ _) hl
 rw [txtQ,hk,Bool.not_true,if_neg Bool.false_ne_true,if_neg hn,Int.toNat_natCast]
 generalize r.p*((tp k:Nat):Int) / r.q=low at *
 generalize r.p*((tp k:Nat):Int) % r.q=rest at *
 have hlb:low.natAbs < BB ^ 32:=Nat.lt_trans hlow hp960
 have hlen:(fmtN low.natAbs).length≤309:=fmtN_len (k:=e309) (by decide) (bits_dec hlow)
 have hfmt:Pure Tryz.prog 177 [SV.c (.agg (eA low))] (.string (S (fmtZ low))):=format_z (isI_e hlb)
 have hcut:=cutPre2_z (fmtZ low) [45]
 rw [cut_minus] at hcut
 have hpt:=point_z (fmtN low.natAbs) k hk9 (fmtN_pos _) (by omega)
 unfold txtZ
 dsimp only
 have hpl:=padZ_len k (fmtN low.natAbs)
 have hpl2:(padZ k (fmtN low.natAbs)).length≤1000:=by
  unfold padZ;split
  ·simp only [List.length_append,List.length_replicate];omega
  ·omega
 generalize padZ k (fmtN low.natAbs)=s at *
 have htr:=trim_z (s.drop (s.length - k)) 48 (by simp;omega) (by decide)
 have hpz:(trimR 48 (s.drop (s.length - k))).length≤1000:=Nat.le_trans (trimR_len _ _) (by simp;omega)
 have ht:(s.take (s.length - k)).length≤1000:=by simp;omega
 have hemp:((S (trimR 48 (s.drop (s.length - k)))).toList == (S []).toList)=decide (trimR 48 (s.drop (s.length - k))=[]):=S_beq _ []
 generalize trimR 48 (s.drop (s.length - k))=p at *
 have s1:(S [46]:ByteArray).size+(S p).size≤9223372036854775807:=by rw [S_size,S_size];simp;omega
 have s2:(S (s.take (s.length - k))).size+(S [46]++S p).size≤9223372036854775807:=by rw [S_add,S_size,S_size];simp only [List.length_append,List.length_cons,List.length_nil];omega
 have s3:(S [45]:ByteArray).size+(S (s.take (s.length - k))++(S [46]++S p)).size≤9223372036854775807:=by rw [S_add,S_add,S_size,S_size];simp only [List.length_append,List.length_cons,List.length_nil];omega
 have s4:(S [45]:ByteArray).size+(S (s.take (s.length - k))).size≤9223372036854775807:=by rw [S_size,S_size];simp only [List.length_cons,List.length_nil];omega
 have htl:(s.take (s.length - k)).length=s.length - k:=by simp
 refine ⟨r.A_size,.inl ⟨_,hc,nofun,fun _=>.inl ⟨_,hs,eA_fits _,eA_fits _,.inl ⟨_,sign_z (isI_e hrl),fun h1=>?_,fun h1=>.inl ⟨_,hfmt,.inl ⟨_,hcut,.inl ⟨_,hpt,_,fun w _=>run_len_S Tryz.underlying9 w,fun h2=>?_,fun h2=>.inl ⟨_,htr,fun h3=>⟨s1,s2,fun h4=>⟨s3,?_,trivial⟩,fun h4=>⟨?_,trivial⟩⟩,fun h3=>⟨fun h4=>⟨s4,?_,trivial⟩,fun h4=>⟨?_,trivial⟩⟩⟩⟩⟩⟩⟩⟩⟩⟩
 ·have h1:rest≠0:=by
    intro e;subst e;simp [sgn] at h1
  refine ⟨?_,trivial⟩
  rw [if_pos h1];rfl
 all_goals
  have h1:¬ (rest≠0):=by
   intro e
   have e2:=sgn_zero (y:=rest)
   rw [decide_eq_false e] at e2
   have:(!(sgn rest == 0))=false:=h1
   rw [e2] at this
   cases this
  rw [if_neg h1]
 ·have h2:=of_decide_eq_true h2
  refine ⟨?_,trivial⟩
  rw [if_pos (by omega)];rfl
 all_goals
  have h2:=of_decide_eq_false h2
  have h4:decide (low < 0)=_:=h4
  rw [if_neg (by omega)]
 ·have h3:=bnt (hemp ▸ h3)
  rw [if_pos (of_decide_eq_true h4),if_neg (of_decide_eq_false h3)]
  refine tup2 (sv ?_) rfl
  show S [45]++(S (s.take (s.length - k))++(S [46]++S p))=_
  rw [S_add,S_add,S_add,List.append_assoc];rfl
 ·have h3:=bnt (hemp ▸ h3)
  rw [if_neg (of_decide_eq_false h4),if_neg (of_decide_eq_false h3)]
  refine tup2 (sv ?_) rfl
  show (S (s.take (s.length - k))++(S [46]++S p))=_
  rw [S_add,S_add];rfl
 ·have h3:=of_bnf (hemp ▸ h3)
  rw [if_pos (of_decide_eq_true h4),if_pos (of_decide_eq_true h3)]
  refine tup2 (sv ?_) rfl
  show S [45]++S (s.take (s.length - k))=_
  rw [S_add,List.append_nil]
 ·have h3:=of_bnf (hemp ▸ h3)
  rw [if_neg (of_decide_eq_false h4),if_pos (of_decide_eq_true h3)]
  refine tup2 (sv ?_) rfl
  rw [List.append_nil];rfl
def capAt (dg:Bool) (l:List UInt8) (j:Nat):Bool:=(decide (65≤(l.getD j 0).toNat) && decide ((l.getD j 0).toNat≤90)) || (dg && !decide (j=0) && decide (48≤(l.getD j 0).toNat) && decide ((l.getD j 0).toNat≤57))
def capAll (dg:Bool) (l:List UInt8):Bool:=(List.range l.length).all (capAt dg l)
theorem capAll_false {dg:Bool} {l:List UInt8} {j:Nat} (hj:j < l.length) (h:capAt dg l j=false):capAll dg l=false:=by
 unfold capAll
 rw [List.all_eq_false]
 exact ⟨j,by simpa using hj,by simp [h]⟩
theorem capAll_true {dg:Bool} {l:List UInt8} (h:∀ j,j < l.length→capAt dg l j=true):capAll dg l=true:=by
 unfold capAll
 rw [List.all_eq_true]
 intro j hj
 exact h j (by simpa using hj)
def payOk (r:RQ):Bool:=r.ok && (decide (r.p*1000000 % r.q=0) && (decide (0≤r.p) && decide (r.p≤1000000000*r.q)))
theorem bil_ok:(RQ.of 1000000000 1).ok=true:=by decide
theorem bil_in:(RQ.of 1000000000 1).In:=⟨Nat.lt_of_lt_of_le (by decide:1000000000 < 18446744073709551616) two64,Nat.lt_of_lt_of_le (by decide:1 < 18446744073709551616) two64⟩
theorem sgn_ge (x:Int):decide (sgn x ≥ 0)=decide (0≤x):=by
 rw [Bool.eq_iff_iff];simp only [decide_eq_true_eq];unfold sgn;split
 ·omega
 ·split<;>omega
theorem cmpI_le (x y:Int):decide (cmpI x y≤0)=decide (x≤y):=by
 rw [Bool.eq_iff_iff];simp only [decide_eq_true_eq];unfold cmpI;split
 ·omega
 ·split<;>omega
theorem txt_small {z:Int} (h:z.natAbs≤1000000000000000):(txtZ z 6).2=0:=by
 have h1:=fmtN_len (k:=16) (N:=z.natAbs) (by omega) (by show z.natAbs < 10000000000000000;omega)
 unfold txtZ
 dsimp only
 have h2:(padZ 6 (fmtN z.natAbs)).length≤16:=by
  unfold padZ;split
  ·simp only [List.length_append,List.length_replicate];omega
  ·omega
 rw [if_neg (by omega)]
theorem pay_txt {r:RQ} (hk:r.ok=true) (h0:0≤r.p) (h1:r.p≤1000000000*r.q):(txtQ r 6).2=if r.p*1000000 % r.q=0 then 0 else 32:=by
 unfold txtQ
 rw [hk,Bool.not_true,if_neg Bool.false_ne_true,if_neg (by omega)]
 rw [show ((tp (Int.toNat 6):Nat):Int)=1000000 from rfl,show Int.toNat 6=6 from rfl]
 by_cases h:r.p*1000000 % r.q=0
 ·rw [if_neg (by simpa using h),if_pos h]
  obtain ⟨k1,k2,k3,k4,k5⟩:=RQ.ok_bits hk
  apply txt_small
  have h3:0≤r.p*1000000 / r.q:=Int.ediv_nonneg (by omega) (by omega)
  have h4:r.p*1000000 / r.q≤1000000000000000:=by
   apply Int.ediv_le_of_le_mul k3
   omega
  omega
 ·rw [if_pos h,if_neg h]
theorem txt_inv {r:RQ} (hk:r.ok=false):(txtQ r 6).2=20:=by
 unfold txtQ
 rw [hk,Bool.not_false,if_pos rfl]
theorem pay_eq (r:RQ):((txtQ r 6).2 == 0 && (decide ((if r.ok then sgn r.p else 0) ≥ 0) && decide ((if r.ok && (RQ.of 1000000000 1).ok then cmpI (r.p*(RQ.of 1000000000 1).q) ((RQ.of 1000000000 1).p*r.q) else 0)≤0)))=payOk r:=by
 unfold payOk
 by_cases hk:r.ok=true
 ·rw [hk,bil_ok,RQ.of_p,RQ.of_q]
  simp only [Bool.and_true,if_true,Bool.true_and,sgn_ge,cmpI_le,Int.mul_one]
  by_cases h0:0≤r.p
  ·by_cases h1:r.p≤1000000000*r.q
   ·rw [pay_txt hk h0 h1]
    by_cases h:r.p*1000000 % r.q=0
    ·rw [if_pos h];simp [h]
    ·rw [if_neg h];simp [h]
   ·simp [h1]
  ·simp [h0]
 ·have hk:r.ok=false:=by simpa using hk
  rw [txt_inv hk,hk];rfl
structure AC where
 kind:Int
 key:List UInt8
 ins:List UInt8
 into:List UInt8
 day:Int
 num:Int
 den:Int
 cash:RQ
 cur:List UInt8
 known:Int
 void:Bool
def AC.pre (a:AC):Array Value:=#[.int .i64 a.kind,.string (S a.key),.string (S a.ins),.string (S a.into),.int .i64 a.day,.int .i64 a.num,.int .i64 a.den]
def AC.post (a:AC):Array Value:=#[.string (S a.cur),.int .i64 a.known,.bool a.void]
def AC.A (a:AC):Array Value:=a.pre++(a.cash.A++a.post)
structure AC.In (a:AC):Prop where
 cash:a.cash.In
 key:a.key.length≤9223372036854775807
 ins:a.ins.length≤9223372036854775807
 into:a.into.length≤9223372036854775807
 cur:a.cur.length≤9223372036854775807
 num : -9223372036854775808≤a.num∧a.num≤9223372036854775807
 den : -9223372036854775808≤a.den∧a.den≤9223372036854775807
theorem AC.size (a:AC):a.A.size=76:=by simp [AC.A,AC.pre,AC.post,RQ.A_size]
theorem AC.fits (a:AC):Fits a.A 76:=⟨a.size,by
 rw [AC.A,Array.all_append,Array.all_append,a.cash.A_fits.one]
 simp [AC.pre,AC.post,Value.oneCell']⟩
theorem AC.at_pre (a:AC) {i:Nat} (h:i < 7):a.A[i]? = a.pre[i]?:=by
 rw [AC.A,Array.getElem?_append_left (by simpa [AC.pre] using h)]
theorem AC.at_post (a:AC) {i:Nat} (h:73≤i):a.A[i]? = a.post[i - 73]?:=by
 rw [AC.A,Array.getElem?_append_right (by simp [AC.pre];omega),Array.getElem?_append_right (by simp [AC.pre,RQ.A_size];omega)]
 simp only [AC.pre,RQ.A_size]
 congr 1
theorem AC.g0 (a:AC):a.A[0]? = some (.int .i64 a.kind):=(a.at_pre (by omega)).trans rfl
theorem AC.g1 (a:AC):a.A[1]? = some (.string (S a.key)):=(a.at_pre (by omega)).trans rfl
theorem AC.g2 (a:AC):a.A[2]? = some (.string (S a.ins)):=(a.at_pre (by omega)).trans rfl
theorem AC.g3 (a:AC):a.A[3]? = some (.string (S a.into)):=(a.at_pre (by omega)).trans rfl
theorem AC.g4 (a:AC):a.A[4]? = some (.int .i64 a.day):=(a.at_pre (by omega)).trans rfl
def RQ.beq (r s:RQ):Bool:=(r.a == s.a && (decide (r.N=s.N) && true)) && ((r.b == s.b && (decide (r.D=s.D) && true)) && true)
theorem RQ.beq_iff (r s:RQ):r.beq s=true↔r=s:=by
 obtain ⟨a,N,b,D⟩:=r
 obtain ⟨a',N',b',D'⟩:=s
 simp [RQ.beq]
 constructor
 ·rintro ⟨⟨h1,h2⟩,h3,h4⟩;exact ⟨h1,h2,h3,h4⟩
 ·rintro ⟨h1,h2,h3,h4⟩;exact ⟨⟨h1,h2⟩,h3,h4⟩
theorem eq_ratio_raw {d:Nat} {r s:RQ} (hr:r.In) (hs:s.In) (w:World):(Op.equalIn (d+1+1+1+1) 33 (.agg r.A) (.agg s.A)).run Tryz.prog w=.ok (r.beq s) w:=by
 rw [run_equalIn_struct w (d+1+1+1) 33 _ _ (by simp only [Program.fieldsOf,Tryz.underlying33]) (by kernel_rfl)]
 rw [show (Tryz.prog.fieldsOf 33).toList=[⟨ "Num",31,0,false,"","",0⟩,⟨ "Den",31,33,false,"","",132⟩] from by simp only [Program.fieldsOf,Tryz.underlying33]]
 refine eqF_cons (a:=.agg (iA r.a r.N)) (b:=.agg (iA s.a s.N)) (by decide) ?_ ?_ (eq_int_raw hr.N hs.N w) fun _=>?_
 ·rw [part_agg tok31 rfl _ _ w];exact congrArg (fun x=>Result.ok (Value.agg x) w) r.cat_l
 ·rw [part_agg tok31 rfl _ _ w];exact congrArg (fun x=>Result.ok (Value.agg x) w) s.cat_l
 refine eqF_cons (a:=.agg (iA r.b r.D)) (b:=.agg (iA s.b s.D)) (by decide) ?_ ?_ (eq_int_raw hr.D hs.D w) fun _=>eqF_nil
 ·rw [part_agg tok31 rfl _ _ w];exact congrArg (fun x=>Result.ok (Value.agg x) w) r.cat_r
 ·rw [part_agg tok31 rfl _ _ w];exact congrArg (fun x=>Result.ok (Value.agg x) w) s.cat_r
theorem guard_ratio:Tryz.prog.eqGuardType Tryz.prog.depth 33=false:=by kernel_rfl
theorem eql_ratio {E:Env} (hE:E.P=Tryz.prog) {r s:RQ} (hr:r.In) (hs:s.In) {u v:Operand}:Runs E (do eqGuard .eql 33 u v (.agg r.A) (.agg s.A);binOp .eql 33 (.agg r.A) (.agg s.A)) (.bool (r.beq s)) :=
 runs_eql (by rw [hE];exact guard_ratio) fun w=>by rw [hE];exact eq_ratio_raw hr hs w
def AC.beq (a b:AC):Bool:=(a.kind == b.kind) && (decide (a.key=b.key) && (decide (a.ins=b.ins) && (decide (a.into=b.into) && ((a.day == b.day) && ((a.num == b.num) && ((a.den == b.den) && (a.cash.beq b.cash && (decide (a.cur=b.cur) && ((a.known == b.known) && ((a.void == b.void) && true))))))))))
theorem eq_int64 {d:Nat} (t:TypeId) (ht:Tryz.prog.underlying t=some (.int .i64)) (x y:Int) (w:World):(Op.equalIn (d+1) t (.int .i64 x) (.int .i64 y)).run Tryz.prog w=.ok (x == y) w:=run_equalIn_int w d t _ _ _ _ ht
theorem eq_str {d:Nat} (x y:List UInt8) (w:World):(Op.equalIn (d+1) 9 (.string (S x)) (.string (S y))).run Tryz.prog w=.ok (decide (x=y)) w:=by
 rw [← S_beq];exact run_equalIn_string w d 9 _ _ Tryz.underlying9
def AC.nil (key:List UInt8) (known:Int):AC:=⟨0,key,[],[],0,0,0,⟨false,0,false,0⟩,[],known,true⟩
def insOk (l:List UInt8):Bool:=capAll true l && (decide (1≤l.length) && decide (l.length≤12))
def curOk (l:List UInt8):Bool:=capAll false l && (decide ((3:Int)≤l.length) && decide ((l.length:Int)≤3))
def AC.zero:AC:=⟨0,[],[],[],0,0,0,⟨false,0,false,0⟩,[],0,false⟩
structure EF where
 ins:List UInt8
 qty:Int
 cash:Int
def EF.A (x:EF):Array Value:=#[.string (S x.ins),.int .i64 x.qty,.int .i64 x.cash]
theorem EF.fits (x:EF):Fits x.A 3:=⟨rfl,by simp [EF.A,Value.oneCell']⟩
def EF.zero:EF:=⟨[],0,0⟩
theorem limbs_r {N n:Nat} (hu:IsUsed N n) (hN:N < BB ^ 32):Pure Tryz.prog 103 [SV.c (.agg (mA N))] (.int .i64 n):=by
 refine sx_pure tt_ok mixed at103 _ _ rfl rfl fun w=>?_
 refine ⟨mA_size _,fun k f m=>k≤32∧N < BB ^ k∧f=[(1,SV.ptr 1 0),(3,SV.c (.int .i64 k))]∧m=[(1,Blk.row 29 32 (mA N))],32,⟨_,_,⟨by omega,hN,rfl,rfl⟩,⟨rfl,rfl,trivial⟩,⟨rfl,trivial⟩,rfl⟩,?_⟩
 rintro k f m ⟨hk,hlt,rfl,rfl⟩
 refine ⟨fun h=>?_,fun h=>?_⟩
 ·have h1:(0:Int) < k:=of_decide_eq_true h
  have e:IntKind.i64.wrap ((k:Int) - 1)=((k - 1:Nat):Int):=by rw [i64_in (by omega)];omega
  have hg:(mA N)[(IntKind.i64.wrap ((k:Int) - 1)).toNat]? = some (.int .u32 ((dg N (k - 1):Nat):Int)):=by rw [e];exact mA_get (by omega)
  refine ⟨by rw [e];omega,by rw [e];show ((k - 1:Nat):Int) < 32;omega,_,hg,fun h2=>?_,fun h2=>?_⟩
  ·have h3:dg N (k - 1)=0:=by have:((dg N (k - 1):Nat):Int)=0:=by simpa using h2
                              omega
   exact ⟨k - 1,_,_,by omega,⟨by omega,lt_of_top (by rw [show k - 1+1=k by omega];exact hlt) h3,rfl,rfl⟩,⟨rfl,c_int e,trivial⟩,⟨rfl,trivial⟩,rfl⟩
  ·have h3:dg N (k - 1)≠0:=by intro h;rw [h] at h2;simp at h2
   have:k=n:=IsUsed.unique (used_of hlt (.inr h3)) hu
   exact ⟨by rw [this];rfl,trivial⟩
 ·refine ⟨nofun,fun _=>?_⟩
  have h1:¬ ((k:Int) > 0):=of_decide_eq_false h
  have:k=n:=IsUsed.unique ⟨hlt,fun hk=>absurd hk (by omega)⟩ hu
  exact ⟨by rw [this];rfl,trivial⟩
theorem used_zero {N n:Nat} (hu:IsUsed N n):decide (N=0)=(((n:Nat):Int) == 0):=by
 rw [Bool.eq_iff_iff]
 simp only [decide_eq_true_eq,beq_iff_eq]
 constructor
 ·intro h;subst h
  rcases Nat.eq_zero_or_pos n with e | e
  ·rw [e];rfl
  ·have h2:=hu.2 e
   have:=pow_pos' (n - 1)
   omega
 ·intro h
  have:n=0:=by omega
  subst this
  have:=hu.1;simp at this;omega
theorem zero_r {N:Nat} (hN:N < BB ^ 32):Pure Tryz.prog 153 [SV.c (.agg (mA N))] (.bool (decide (N=0))):=by
 obtain ⟨n,hn,hu⟩:=used_ex hN
 refine sx_pure tt_ok mixed at153 _ _ rfl rfl fun w=>?_
 rw [used_zero hu]
 exact ⟨mA_size _,.inl ⟨_,limbs_r hu hN,rfl,trivial⟩⟩
theorem canon_r (neg:Bool) {N:Nat} (hN:N < BB ^ 32):Pure Tryz.prog 104 [SV.c (.bool neg),SV.c (.agg (mA N))] (.agg (eA (zN neg N))):=by
 have e:eA (zN neg N)=iA (neg && !decide (N=0)) N:=by unfold eA;rw [zN_abs,zN_neg]
 rw [e]
 refine sx_pure tt_ok mixed at104 _ _ rfl rfl fun w=>?_
 refine ⟨mA_size _,fun h=>.inl ⟨_,zero_r hN,_,fill_int rfl rfl,iA_fits _ _,by kernel_rfl,?_,trivial⟩,fun h=>⟨_,fill_int rfl rfl,iA_fits _ _,by kernel_rfl,?_,trivial⟩⟩
 ·have h:neg=true:=h
  rw [h];rfl
 ·have h:neg=false:=h
  rw [h];rfl
theorem compare_r {N M:Nat} (hN:N < BB ^ 32) (hM:M < BB ^ 32):Pure Tryz.prog 207 [SV.c (.agg (mA N)),SV.c (.agg (mA M))] (.int .i64 (cmpS N M)):=by
 refine sx_pure tt_ok mixed at207 _ _ rfl rfl fun w=>?_
 refine ⟨mA_size _,mA_size _,fun k f m=>k≤32∧N / BB ^ k=M / BB ^ k∧f=[(2,SV.ptr 2 0),(3,SV.ptr 3 0),(5,SV.c (.int .i64 ((k:Int) - 1)))]∧m=[(2,Blk.row 29 32 (mA N)),(3,Blk.row 29 32 (mA M))],32,⟨_,_,⟨by omega,by rw [Nat.div_eq_of_lt hN,Nat.div_eq_of_lt hM],rfl,rfl⟩,⟨rfl,rfl,rfl,trivial⟩,⟨rfl,rfl,trivial⟩,rfl⟩,?_⟩
 rintro k f m ⟨hk,heq,rfl,rfl⟩
 refine ⟨fun h=>?_,fun h=>?_⟩
 ·have h1:(k:Int) - 1 ≥ 0:=of_decide_eq_true h
  have e:((k:Int) - 1).toNat=k - 1:=by omega
  have hn:(mA N)[((k:Int) - 1).toNat]? = some (.int .u32 ((dg N (k - 1):Nat):Int)):=by rw [e];exact mA_get (by omega)
  have hm:(mA M)[((k:Int) - 1).toNat]? = some (.int .u32 ((dg M (k - 1):Nat):Int)):=by rw [e];exact mA_get (by omega)
  have hb:(k:Int) - 1 < 32:=by omega
  have hs:N / BB ^ (k - 1+1)=M / BB ^ (k - 1+1):=by rw [show k - 1+1=k by omega];exact heq
  refine ⟨h1,hb,_,hn,h1,hb,_,hm,by kernel_rfl,fun h2=>?_,fun h2=>⟨h1,hb,_,hn,h1,hb,_,hm,by kernel_rfl,fun h3=>?_,fun h3=>?_⟩⟩
  ·have h3:dg N (k - 1) < dg M (k - 1):=by have:=of_decide_eq_true h2;omega
   have:=cmp_lt hs h3
   exact ⟨by simp only [cmpS,if_pos this];rfl,trivial⟩
  ·have h4:dg M (k - 1) < dg N (k - 1):=by have:=of_decide_eq_true h3;omega
   have:=cmp_lt hs.symm h4
   exact ⟨by simp only [cmpS,if_neg (show ¬ N < M by omega),if_pos this];rfl,trivial⟩
  ·have h4:dg N (k - 1)=dg M (k - 1):=by
     have:=of_decide_eq_false h2
     have:=of_decide_eq_false h3
     omega
   exact ⟨k - 1,_,_,by omega,⟨by omega,cmp_step hs h4,rfl,rfl⟩,⟨rfl,rfl,c_int (by rw [i64_in (by omega)];omega),trivial⟩,⟨rfl,rfl,trivial⟩,rfl⟩
 ·have h1:¬ ((k:Int) - 1 ≥ 0):=of_decide_eq_false h
  obtain rfl:k=0:=by omega
  simp only [Nat.pow_zero,Nat.div_one] at heq
  exact ⟨by simp only [cmpS,heq,Nat.lt_irrefl,if_false];rfl,trivial⟩
theorem sum_r {N M:Nat} (hN:N < BB ^ 32) (hM:M < BB ^ 32):Pure Tryz.prog 156 [SV.c (.agg (mA N)),SV.c (.agg (mA M))] (.tuple #[.agg (mA ((N+M) % BB ^ 32)),.bool (decide (N+M < BB ^ 32))]):=by
 refine sx_pure tt_ok mixed at156 _ _ rfl rfl fun w=>?_
 refine ⟨mA_size _,mA_size _,fun q f m=>∃ (k c:Nat) (g:Nat→Nat),q=32 - k∧k≤32∧c≤1∧(∀ j,j < k→g j < BB)∧nv g k+c*BB ^ k=nv (dg N) k+nv (dg M) k∧f=[(2,SV.ptr 2 0),(3,SV.ptr 3 0),(4,SV.ptr 4 0),(6,SV.ptr 6 0),(7,SV.c (.int .u64 c)),(8,SV.c (.int .i64 k))]∧m=[(2,Blk.row 29 32 (mA N)),(3,Blk.row 29 32 (mA M)),(4,Blk.row 29 32 (lA (fun _=>0) 32)),(6,Blk.row 29 32 (lA g 32))],32,⟨_,_,⟨0,0,fun _=>0,rfl,by omega,by omega,fun j hj=>absurd hj (by omega),nv_start _ _ _,rfl,rfl⟩,⟨rfl,rfl,rfl,rfl,rfl,rfl,trivial⟩,⟨rfl,rfl,rfl,rfl,trivial⟩,rfl⟩,?_⟩
 rintro q f m ⟨k,c,g,rfl,hk,hc,hg,hn,rfl,rfl⟩
 refine ⟨fun h=>?_,fun h=>?_⟩
 ·have h1:(k:Int) < 32:=of_decide_eq_true h
  have h0:(0:Int)≤k:=by omega
  have gN:=mA_get (N:=N) (show k < 32 by omega)
  have gM:=mA_get (N:=M) (show k < 32 by omega)
  have hx:=dg_lt N k
  have hy:=dg_lt M k
  rw [BB_eq] at hx hy
  have ev:IntKind.u64.wrap (IntKind.u64.wrap (IntKind.u64.wrap (dg N k:Nat)+IntKind.u64.wrap (dg M k:Nat))+(c:Nat))=((dg N k+dg M k+c:Nat):Int):=by simp only [u64_wrap];omega
  refine ⟨h0,h1,_,gN,h0,h1,_,gM,by kernel_rfl,h0,h1,by show k < 32;omega,rfl,_,lA_put (i:=k) (x:=(k:Int)) (v:=(dg N k+dg M k+c) % BB) rfl (by rw [ev,u32_wrap,BB_eq];rfl),by decide,?_⟩
  refine ⟨32 - (k+1),_,_,by omega,⟨k+1,(dg N k+dg M k+c) / BB,_,rfl,by omega,by rw [BB_eq];omega,fun j hj=>?_,add_step (k:=c) ?_ ?_,rfl,rfl⟩,⟨rfl,rfl,rfl,rfl,c_int (by rw [ev];exact shr32 _),c_int (by rw [i64_in (by omega)];rfl),trivial⟩,⟨rfl,rfl,rfl,rfl,trivial⟩,rfl⟩
  ·by_cases e:j=k
   ·subst e;simp only [if_true];exact Nat.mod_lt _ BB_pos
   ·simp only [if_neg e];exact hg j (by omega)
  ·rw [nv_set_lt];exact hn
  ·simp only [if_true];rw [Nat.mul_comm];exact Nat.mod_add_div _ _
 ·have h1:¬ ((k:Int) < 32):=of_decide_eq_false h
  obtain rfl:k=32:=by omega
  obtain ⟨hs1,hs2⟩:=plus_end hN hM hg hn
  have hA:=mA_of hg hs1
  refine ⟨lA_fits _ _,tup2 (by rw [hA]) (bv ?_),trivial⟩
  rw [hs2,Bool.eq_iff_iff];simp
theorem diff_end {N M c:Nat} {f:Nat→Nat} (hN:N < BB ^ 32) (hM:M < BB ^ 32) (hf:∀ j,j < 32→f j < BB) (h:nv f 32+nv (dg M) 32=nv (dg N) 32+c*BB ^ 32) (hc:c≤1):nv f 32=(N+BB ^ 32 - M) % BB ^ 32:=by
 rw [nv_dg_full hN,nv_dg_full hM] at h
 have hl:=nv_lt hf
 generalize BB ^ 32=P at *
 have:c=0∨c=1:=by omega
 rcases this with rfl | rfl
 ·rw [show N+P - M=(N - M)+P by omega,Nat.add_mod_right,Nat.mod_eq_of_lt (by omega)];omega
 ·rw [show N+P - M=nv f 32 by omega,Nat.mod_eq_of_lt hl]
theorem diff_sub {N M:Nat} (hN:N < BB ^ 32) (h:M≤N):(N+BB ^ 32 - M) % BB ^ 32=N - M:=by
 rw [show N+BB ^ 32 - M=(N - M)+BB ^ 32 by omega,Nat.add_mod_right,Nat.mod_eq_of_lt (by omega)]
theorem difference_r {N M:Nat} (hN:N < BB ^ 32) (hM:M < BB ^ 32):Pure Tryz.prog 155 [SV.c (.agg (mA N)),SV.c (.agg (mA M))] (.agg (mA ((N+BB ^ 32 - M) % BB ^ 32))):=by
 refine sx_pure tt_ok mixed at155 _ _ rfl rfl fun w=>?_
 refine ⟨mA_size _,mA_size _,fun q f m=>∃ (k c:Nat) (g:Nat→Nat),q=32 - k∧k≤32∧c≤1∧(∀ j,j < k→g j < BB)∧nv g k+nv (dg M) k=nv (dg N) k+c*BB ^ k∧f=[(2,SV.ptr 2 0),(3,SV.ptr 3 0),(4,SV.ptr 4 0),(5,SV.ptr 5 0),(6,SV.c (.int .u64 c)),(7,SV.c (.int .i64 k))]∧m=[(2,Blk.row 29 32 (mA N)),(3,Blk.row 29 32 (mA M)),(4,Blk.row 29 32 (lA (fun _=>0) 32)),(5,Blk.row 29 32 (lA g 32))],32,⟨_,_,⟨0,0,fun _=>0,rfl,by omega,by omega,fun j hj=>absurd hj (by omega),nv_start2 _ _ _,rfl,rfl⟩,⟨rfl,rfl,rfl,rfl,rfl,rfl,trivial⟩,⟨rfl,rfl,rfl,rfl,trivial⟩,rfl⟩,?_⟩
 rintro q f m ⟨k,c,g,rfl,hk,hc,hg,hn,rfl,rfl⟩
 refine ⟨fun h=>?_,fun h=>?_⟩
 ·have h1:(k:Int) < 32:=of_decide_eq_true h
  have h0:(0:Int)≤k:=by omega
  have gN:=mA_get (N:=N) (show k < 32 by omega)
  have gM:=mA_get (N:=M) (show k < 32 by omega)
  have hx:=dg_lt N k
  have hy:=dg_lt M k
  rw [BB_eq] at hx hy
  have ev:IntKind.u64.wrap (IntKind.u64.wrap (IntKind.u64.wrap (dg N k:Nat) - IntKind.u64.wrap (dg M k:Nat)) - (c:Nat))=((dg N k:Int) - dg M k - c) % 18446744073709551616:=by simp only [u64_wrap];omega
  refine ⟨h0,h1,_,gN,h0,h1,_,gM,by kernel_rfl,h0,h1,by show k < 32;omega,rfl,_,lA_put (i:=k) (x:=(k:Int)) (v:=(dg N k+BB - (dg M k+c)) % BB) rfl (by rw [ev,u32_wrap,BB_eq];omega),by decide,?_⟩
  refine ⟨32 - (k+1),_,_,by omega,⟨k+1,(if dg N k < dg M k+c then 1 else 0:Nat),_,rfl,by omega,by split<;>omega,fun j hj=>?_,sub_step (k:=c) ?_ ?_,rfl,rfl⟩,⟨rfl,rfl,rfl,rfl,c_int ?_,c_int (by rw [i64_in (by omega)];rfl),trivial⟩,⟨rfl,rfl,rfl,rfl,trivial⟩,rfl⟩
  ·by_cases e:j=k
   ·subst e;simp only [if_true];exact Nat.mod_lt _ BB_pos
   ·simp only [if_neg e];exact hg j (by omega)
  ·rw [nv_set_lt];exact hn
  ·simp only [if_true];rw [BB_eq] at *;split<;>omega
  ·rw [ev,shr_div]
   show ((dg N k:Int) - dg M k - c) % 18446744073709551616 / 9223372036854775808=_
   split<;>omega
 ·have h1:¬ ((k:Int) < 32):=of_decide_eq_false h
  obtain rfl:k=32:=by omega
  have hA:=mA_of hg (diff_end hN hM hg hn hc)
  exact ⟨lA_fits _ _,by rw [← hA];rfl,trivial⟩
theorem IsI.raw {A:Array Value} {z:Int} (h:IsI A z):∃ neg N,N < BB ^ 32∧A=iA neg N∧z=zN neg N:=h.ex
theorem iA_lim {neg:Bool} {N i:Nat} (h:i < 32):(iA neg N)[1+i]? = some (.int .u32 (dg N i:Nat)):=by
 rw [iA,Array.getElem?_append_right (by simp)]
 have e:1+i - (#[Value.bool neg]:Array Value).size=i:=by simp
 rw [e];exact mA_get h
def iB (neg:Bool) (f:Nat→Nat):Array Value:=#[.bool neg]++lA f 32
theorem iB_set (neg:Bool) (f:Nat→Nat) (i v:Nat):(iB neg f).setIfInBounds (1+i) (.int .u32 (v:Nat))=iB neg (fun k=>if k=i then v else f k):=by
 unfold iB
 rw [← lA_set]
 apply Array.ext_getElem?
 intro j
 by_cases h:j=1+i
 ·subst h
  rw [Array.getElem?_setIfInBounds_self,Array.getElem?_append_right (by simp)]
  have e:1+i - (#[Value.bool neg]:Array Value).size=i:=by simp
  rw [e,Array.getElem?_setIfInBounds_self]
  simp [lA_size]
  by_cases h2:i < 32
  ·rw [if_pos h2,if_pos (by omega)]
  ·rw [if_neg h2,if_neg (by omega)]
 ·rw [Array.getElem?_setIfInBounds_ne (fun e=>h e.symm)]
  by_cases h0:j < 1
  ·rw [Array.getElem?_append_left (by simpa using h0),Array.getElem?_append_left (by simpa using h0)]
  ·rw [Array.getElem?_append_right (by simp;omega),Array.getElem?_append_right (by simp;omega)]
   rw [Array.getElem?_setIfInBounds_ne (by simp;omega)]
theorem iB_of {neg:Bool} {f:Nat→Nat} {N:Nat} (h:∀ i,i < 32→f i=dg N i):iB neg f=iA neg N:=by
 unfold iB iA mA
 rw [lA_congr h]
theorem sign_r {A:Array Value} {z:Int} (h:IsI A z):Pure Tryz.prog 100 [SV.c (.agg A)] (.int .i64 (sgn z)):=by
 obtain ⟨neg,N,hN,rfl,rfl⟩:=h.raw
 refine sx_pure tt_ok mixed at100 _ _ rfl rfl fun w=>?_
 refine ⟨iA_size _ _,by decide,_,iA_mag,.inl ⟨_,zero_r hN,fun h1=>⟨iv ?_,trivial⟩,fun h1=>⟨_,iA_neg,fun h2=>⟨iv ?_,trivial⟩,fun h2=>⟨iv ?_,trivial⟩⟩⟩⟩
 ·have h1:N=0:=of_decide_eq_true h1
  subst h1
  cases neg<;>rfl
 ·have h1:¬ N=0:=of_decide_eq_false h1
  have h2:neg=true:=h2
  subst h2
  unfold sgn zN;rw [if_pos rfl,if_pos (by omega)]
 ·have h1:¬ N=0:=of_decide_eq_false h1
  have h2:neg=false:=h2
  subst h2
  unfold sgn zN;rw [if_neg Bool.false_ne_true,if_neg (by omega),if_neg (by omega)]
theorem neg_r {A:Array Value} {z:Int} (h:IsI A z):Pure Tryz.prog 106 [SV.c (.agg A)] (.agg (eA (-z))):=by
 obtain ⟨neg,N,hN,rfl,rfl⟩:=h.raw
 refine sx_pure tt_ok mixed at106 _ _ rfl rfl fun w=>?_
 have e:zN (!neg) N=-zN neg N:=by cases neg<;>simp [zN]
 rw [← e]
 exact ⟨iA_size _ _,_,iA_neg,by decide,_,iA_mag,.inl ⟨_,canon_r _ hN,eA_fits _,rfl,trivial⟩⟩
theorem abs_r {A:Array Value} {z:Int} (h:IsI A z):Pure Tryz.prog 240 [SV.c (.agg A)] (.agg (eA (z.natAbs:Int))):=by
 obtain ⟨neg,N,hN,rfl,rfl⟩:=h.raw
 refine sx_pure tt_ok mixed at240 _ _ rfl rfl fun w=>?_
 have e:((zN neg N).natAbs:Int)=zN false N:=by rw [zN_abs];rfl
 rw [e]
 exact ⟨iA_size _ _,by decide,_,iA_mag,.inl ⟨_,canon_r _ hN,eA_fits _,rfl,trivial⟩⟩
theorem cmp_r {A B:Array Value} {x y:Int} (hA:IsI A x) (hB:IsI B y):Pure Tryz.prog 161 [SV.c (.agg A),SV.c (.agg B)] (.int .i64 (cmpI x y)):=by
 have s1:=sign_r hA
 have s2:=sign_r hB
 have hx:=hA.lt
 have hy:=hB.lt
 obtain ⟨a,N,hN,rfl,ex⟩:=hA.raw
 obtain ⟨b,M,hM,rfl,ey⟩:=hB.raw
 refine sx_pure tt_ok mixed at161 _ _ rfl rfl fun w=>?_
 have eN:x.natAbs=N:=by rw [ex,zN_abs]
 have eM:y.natAbs=M:=by rw [ey,zN_abs]
 refine ⟨iA_size _ _,iA_size _ _,.inl ⟨_,s1,.inl ⟨_,s2,by kernel_rfl,fun h=>⟨?_,trivial⟩,fun h=>⟨fun h2=>⟨?_,trivial⟩,fun h2=>⟨by decide,_,iA_mag,by decide,_,iA_mag,.inl ⟨_,compare_r hN hM,iv ?_,trivial⟩⟩⟩⟩⟩⟩
 ·have h:=of_decide_eq_true h
  rw [cmpI_ne (by omega),if_pos h];rfl
 ·have h:=of_decide_eq_false h
  have h2:=of_decide_eq_true h2
  rw [cmpI_ne (by omega),if_neg h];rfl
 ·have h:=of_decide_eq_false h
  have h2:=of_decide_eq_false h2
  rw [cmpI_eq (by omega),eN,eM]
  have:=sgn_bd x
  rcases cmpS_bd N M with h1 | h1 | h1<;>rw [h1]<;>exact i64_in (by omega)
theorem bl_half {v:Nat} (h:0 < v):bl v=bl (v / 2)+1:=by
 rcases Nat.lt_or_ge v 2 with h2 | h2
 ·have:v=1:=by omega
  subst this;rfl
 ·rw [bl_shift (s:=1) (by omega),Nat.pow_one];omega
theorem bits_r {A:Array Value} {z:Int} (h:IsI A z):Pure Tryz.prog 101 [SV.c (.agg A)] (.int .i64 (bl z.natAbs)):=by
 obtain ⟨neg,N,hN,rfl,rfl⟩:=h.raw
 obtain ⟨n,hn,hu⟩:=used_ex hN
 rw [zN_abs]
 refine sx_pure tt_ok mixed at101 _ _ rfl rfl fun w=>?_
 refine ⟨iA_size _ _,by decide,_,iA_mag,.inl ⟨_,limbs_r hu hN,fun h=>?_,fun h=>?_⟩⟩
 ·have h0:n=0:=by have:(n:Int)=0:=by simpa using h
                  omega
  subst h0
  have:N=0:=by have:=hu.1;simp at this;omega
  subst this
  exact ⟨rfl,trivial⟩
 ·have h0:0 < n:=by
    rcases Nat.eq_zero_or_pos n with e | e
    ·subst e;simp at h
    ·exact e
  have e1:IntKind.i64.wrap ((n:Int) - 1)=((n - 1:Nat):Int):=by rw [i64_in (by omega)];omega
  have e2:IntKind.i64.wrap (32*IntKind.i64.wrap ((n:Int) - 1))=((32*(n - 1):Nat):Int):=by rw [e1,i64_in (by omega)];omega
  obtain ⟨hb,hb0⟩:=bl_limbs hu h0
  have hb2:bl (dg N (n - 1))≤32:=bl_le (dg_lt _ _)
  have hg:(iA neg N)[1+(IntKind.i64.wrap ((n:Int) - 1)).toNat]? = some (.int .u32 ((dg N (n - 1):Nat):Int)):=by rw [e1];exact iA_lim (by omega)
  refine ⟨by rw [e1];omega,by rw [e1];show ((n - 1:Nat):Int) < 32;omega,_,hg,?_⟩
  refine ⟨fun q f m=>∃ k:Nat,q < BB∧k+bl q=bl N∧f=[(4,SV.c (.int .i64 k)),(5,SV.c (.int .u32 q))]∧m=[],dg N (n - 1),⟨_,_,⟨32*(n - 1),dg_lt _ _,hb.symm,rfl,rfl⟩,⟨c_int e2,rfl,trivial⟩,trivial,rfl⟩,?_⟩
  rintro q f m ⟨k,hq,hk,rfl,rfl⟩
  refine ⟨fun h1=>?_,fun h1=>?_⟩
  ·have h1:0 < q:=by have:=of_decide_eq_true h1;omega
   have hh:=bl_half h1
   have hbn:bl N≤1024:=by omega
   exact ⟨by decide,q / 2,_,_,by omega,⟨k+1,by omega,by omega,rfl,rfl⟩,⟨c_int (by rw [i64_in (by omega)];rfl),c_int (sh_nat q 1),trivial⟩,trivial,rfl⟩
  ·have h1:q=0:=by have:=of_decide_eq_false h1;omega
   subst h1
   have:bl 0=0:=rfl
   exact ⟨iv (by omega),trivial⟩
theorem iB_neg0 (b:Bool) (f:Nat→Nat):(iB false f).setIfInBounds 0 (.bool b)=iB b f:=by
 unfold iB
 apply Array.ext_getElem?
 intro j
 by_cases h:j=0
 ·subst h
  rw [Array.getElem?_setIfInBounds_self,Array.getElem?_append_left (by simp)]
  simp
 ·rw [Array.getElem?_setIfInBounds_ne (fun e=>h e.symm),Array.getElem?_append_right (by simp;omega),Array.getElem?_append_right (by simp;omega)]
  rfl
theorem fromInt_r (n:Int) (h1 : -9223372036854775808≤n) (h2:n≤9223372036854775807):Pure Tryz.prog 48 [SV.c (.int .i64 n)] (.agg (eA n)):=by
 refine sx_pureC [4] tt_ok mixed at48 _ _ rfl rfl fun w=>?_
 have hN:n.natAbs < 18446744073709551616:=by omega
 refine ⟨fun f m=>f=[(0,SV.c (.int .i64 n)),(2,SV.ptr 2 0),(3,SV.c (.int .u64 (n.natAbs:Nat)))]∧m=[(2,Blk.row 31 33 ti31.zero)],⟨fun h=>?_,fun h=>?_⟩,?_⟩
 ·have hn:=of_decide_eq_true h
  have e:IntKind.u64.wrap (0 - IntKind.u64.wrap n)=((n.natAbs:Nat):Int):=by simp only [u64_wrap];omega
  exact ⟨_,_,⟨rfl,rfl⟩,⟨rfl,rfl,c_int e,trivial⟩,⟨rfl,trivial⟩,rfl⟩
 ·have hn:=of_decide_eq_false h
  have e:IntKind.u64.wrap n=((n.natAbs:Nat):Int):=by simp only [u64_wrap];omega
  exact ⟨_,_,⟨rfl,rfl⟩,⟨rfl,rfl,c_int e,trivial⟩,⟨rfl,trivial⟩,rfl⟩
 rintro f m ⟨rfl,rfl⟩
 have e0:IntKind.u32.wrap ((n.natAbs:Nat):Int)=((n.natAbs % 4294967296:Nat):Int):=by rw [u32_wrap];omega
 have e1:IntKind.u32.wrap (((n.natAbs:Nat):Int).fdiv (2 ^ min (Int.toNat 32) IntKind.u64.bits))=((n.natAbs / 4294967296:Nat):Int):=by
  rw [show ((n.natAbs:Nat):Int).fdiv (2 ^ min (Int.toNat 32) IntKind.u64.bits)=((n.natAbs / 4294967296:Nat):Int) from sh_nat _ 32]
  exact u32_in (by omega)
 refine ⟨by decide,rfl,_,iB_neg0 (decide (n < 0)) (fun _=>0),by decide,by decide,by decide,by decide,rfl,iB (decide (n < 0)) (fun k=>if k=0 then n.natAbs % 4294967296 else 0),?_,by decide,by decide,by decide,rfl,eA n,?_,?_⟩
 ·rw [e0]
  exact iB_set (decide (n < 0)) (fun _=>0) 0 (n.natAbs % 4294967296)
 ·rw [e1]
  refine Eq.trans (iB_set (decide (n < 0)) _ 1 (n.natAbs / 4294967296)) (iB_of fun i hi=>?_)
  by_cases h1:i=1
  ·subst h1
   rw [if_pos rfl]
   simp only [dg,BB_eq,Nat.pow_one];omega
  ·rw [if_neg h1]
   by_cases h0:i=0
   ·subst h0
    rw [if_pos rfl]
    simp only [dg,BB_eq,Nat.pow_zero,Nat.div_one]
   ·rw [if_neg h0,dg_hi hN (by omega)]
 ·exact ⟨eA_fits _,rfl,trivial⟩
theorem toInt_r {A:Array Value} {z:Int} (hA:IsI A z):Pure Tryz.prog 108 [SV.c (.agg A)] (toIntR z):=by
 have hzl:=hA.lt
 obtain ⟨neg,N,hN,rfl,rfl⟩:=hA.raw
 obtain ⟨n,hn,hu⟩:=used_ex hN
 have hab:=zN_abs neg N
 have hlim:∀ i,i < 32→(eA (zN neg N))[1+i]? = some (.int .u32 (dg N i:Nat)):=fun i hi=>by unfold eA;rw [hab];exact iA_lim hi
 have hmag:(eA (zN neg N)).extract 1 33=mA N:=by unfold eA;rw [hab];exact iA_mag
 have hneg:(eA (zN neg N))[0]? = some (.bool (decide (zN neg N < 0))):=iA_neg
 have hc:=canon_r neg hN
 generalize zN neg N=z at *
 refine sx_pure tt_ok mixed at108 _ _ rfl rfl fun w=>?_
 have h64:(n:Int) > 2↔¬ N < 18446744073709551616:=by
  constructor
  ·intro h h2
   have h3:=hu.2 (by omega)
   have h4:BB ^ 2≤BB ^ (n - 1):=Nat.pow_le_pow_right BB_pos (by omega)
   rw [show BB ^ 2=18446744073709551616 from by decide] at h4
   omega
  ·intro h
   rcases Nat.lt_or_ge 2 n with h2 | h2
   ·omega
   ·exfalso
    have h4:BB ^ n≤BB ^ 2:=Nat.pow_le_pow_right BB_pos h2
    rw [show BB ^ 2=18446744073709551616 from by decide] at h4
    have:=hu.1
    omega
 refine ⟨iA_size _ _,_,iA_neg,by decide,_,iA_mag,.inl ⟨_,hc,eA_fits _,by decide,_,hmag,.inl ⟨_,limbs_r hu hN,fun h=>?_,fun h=>?_⟩⟩⟩
 ·have h:=h64.1 (of_decide_eq_true h)
  refine ⟨?_,trivial⟩
  rw [toIntR,if_neg (by omega)];rfl
 ·have h:N < 18446744073709551616:=by
    have:=of_decide_eq_false h
    rw [h64] at this;omega
  have eu:=hilo (dg_lt N 1) (dg_lt N 0) rfl rfl
  have ed:dg N 1*BB+dg N 0=N:=by
   simp only [dg,BB_eq,Nat.pow_one,Nat.pow_zero,Nat.div_one];omega
  rw [ed] at eu
  have g1:=hlim 1 (by omega)
  have g0:=hlim 0 (by omega)
  refine ⟨by decide,by decide,_,g1,by decide,by decide,by decide,_,g0,_,hneg,fun h1=>⟨fun h2=>?_,fun h2=>⟨_,hneg,?_⟩⟩,fun h1=>⟨nofun,fun _=>⟨_,hneg,?_⟩⟩⟩
  ·rw [eu] at h2
   have h1:=of_decide_eq_false (bnt h1)
   have h2:=of_decide_eq_true h2
   refine ⟨?_,trivial⟩
   rw [toIntR,if_pos (by omega)]
   refine tup2 (iv ?_) rfl
   rw [eu,IntKind.wrap_i64]
   omega
  ·rw [eu] at h2
   have h1:=of_decide_eq_false (bnt h1)
   have h2:=of_decide_eq_false h2
   refine ⟨fun h3=>absurd (of_decide_eq_true h3) h1,fun _=>⟨nofun,fun _=>⟨?_,trivial⟩⟩⟩
   rw [toIntR,if_neg (by omega)];rfl
  ·have h1:=of_decide_eq_true (bnf h1)
   refine ⟨fun _=>⟨fun h2=>⟨?_,trivial⟩,fun h2=>⟨?_,trivial⟩⟩,fun h3=>absurd h1 (of_decide_eq_false h3)⟩
   ·rw [eu] at h2
    have h2:=of_decide_eq_true h2
    rw [toIntR,if_pos (by omega)]
    refine tup2 (iv ?_) rfl
    rw [eu,u64_wrap,IntKind.wrap_i64]
    omega
   ·rw [eu] at h2
    have h2:=of_decide_eq_false h2
    rw [toIntR,if_neg (by omega)];rfl
theorem add_r {A B:Array Value} {x y:Int} (hA:IsI A x) (hB:IsI B y):Pure Tryz.prog 159 [SV.c (.agg A),SV.c (.agg B)] (fitR (x+y)):=by
 have hx:=hA.lt
 have hy:=hB.lt
 obtain ⟨a,N,hN,rfl,ex⟩:=hA.raw
 obtain ⟨b,M,hM,rfl,ey⟩:=hB.raw
 have eN:x.natAbs=N:=by rw [ex,zN_abs]
 have eM:y.natAbs=M:=by rw [ey,zN_abs]
 have c1:=canon_r a hN
 have c2:=canon_r b hM
 rw [← ex] at c1
 rw [← ey] at c2
 refine sx_pureC [9] tt_ok mixed at159 _ _ rfl rfl fun w=>?_
 have mag:∀ z:Int,(eA z).extract 1 33=mA z.natAbs:=fun z=>iA_mag
 have ng:∀ z:Int,(eA z)[0]? = some (.bool (decide (z < 0))):=fun z=>iA_neg
 refine ⟨iA_size _ _,iA_size _ _,_,iA_neg,by decide,_,iA_mag,.inl ⟨_,c1,_,iA_neg,by decide,_,iA_mag,.inl ⟨_,c2,eA_fits _,eA_fits _,by kernel_rfl,_,ng x,_,ng y,fun h=>?_,fun h=>?_⟩⟩⟩
 ·have h:decide (x < 0)=decide (y < 0):=by simpa using h
  refine ⟨by decide,_,mag x,by decide,_,mag y,.inl ⟨_,sum_r hx hy,mA_fits _,fun h2=>?_,fun h2=>?_⟩⟩
  ·have h2:¬ (x.natAbs+y.natAbs < BB ^ 32):=of_decide_eq_false (bnt h2)
   refine ⟨ti31.zero,rfl,eA_fits 0,?_,trivial⟩
   rw [fitR,if_neg (by rw [(add_near h).1];exact h2)];rfl
  ·have h2:x.natAbs+y.natAbs < BB ^ 32:=of_decide_eq_true (bnf h2)
   have cc:=canon_r (decide (x < 0)) h2
   rw [(add_near h).2] at cc
   rw [Nat.mod_eq_of_lt h2]
   refine ⟨_,ng x,.inl ⟨_,cc,eA_fits _,?_,trivial⟩⟩
   rw [fitR,if_pos (by rw [(add_near h).1];exact h2)];rfl
 ·have hne:decide (x < 0)=!decide (y < 0):=neq_true (by simpa using h)
  refine ⟨fun f mm=>∃ u v:Int,v.natAbs≤u.natAbs∧u.natAbs < BB ^ 32∧decide (u < 0)=(!decide (v < 0))∧u+v=x+y∧f=[(2,SV.ptr 2 0),(3,SV.ptr 3 0),(4,SV.ptr 4 0)]∧mm=[(2,Blk.row 31 33 (eA u)),(3,Blk.row 31 33 (eA v)),(4,Blk.row 31 33 ti31.zero)],⟨by decide,_,mag x,by decide,_,mag y,.inl ⟨_,compare_r hx hy,fun h2=>?_,fun h2=>?_⟩⟩,?_⟩
  ·rw [cmpS_neg] at h2
   have hlt:=of_decide_eq_true h2
   exact ⟨eA_fits _,eA_fits _,_,_,⟨y,x,by omega,hy,by rw [hne];simp,Int.add_comm _ _,rfl,rfl⟩,⟨rfl,rfl,rfl,trivial⟩,⟨rfl,rfl,rfl,trivial⟩,rfl⟩
  ·rw [cmpS_neg] at h2
   have hlt:=of_decide_eq_false h2
   exact ⟨_,_,⟨x,y,by omega,hx,hne,rfl,rfl,rfl⟩,⟨rfl,rfl,rfl,trivial⟩,⟨rfl,rfl,rfl,trivial⟩,rfl⟩
  rintro f mm ⟨u,v,huv,hu,hs,e,rfl,rfl⟩
  have hd:=difference_r hu (Nat.lt_of_le_of_lt huv hu)
  rw [diff_sub hu huv] at hd
  have hl:u.natAbs - v.natAbs < BB ^ 32:=Nat.lt_of_le_of_lt (Nat.sub_le _ _) hu
  have cc:=canon_r (decide (u < 0)) hl
  rw [(add_far hs).2 (by omega),e] at cc
  have hb:(x+y).natAbs < BB ^ 32:=by rw [← e,← (add_far hs).2 (by omega),zN_abs];exact hl
  refine ⟨_,ng u,by decide,_,mag u,by decide,_,mag v,.inl ⟨_,hd,.inl ⟨_,cc,eA_fits _,by kernel_rfl,?_,trivial⟩⟩⟩
  rw [fitR,if_pos hb];rfl
end Go.Proofs.YtofllflnmmjijaaGreatDoor
