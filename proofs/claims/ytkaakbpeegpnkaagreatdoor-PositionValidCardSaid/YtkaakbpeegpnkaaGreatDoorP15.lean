/- walks: texts of decimals. walks: prices, actions in memory. walks: actions; no condition. -/
import Derived.Laws.Slices
import Derived.Laws.Strings3
import Derived.Test.YtkaakbpeegpnkaaGreatDoorP13
set_option maxRecDepth 100000
set_option maxHeartbeats 4000000
namespace Go.Proofs.YtkaakbpeegpnkaaGreatDoor
open Go Go.RowKit Go.SX
def S (l:List UInt8):ByteArray:=⟨l.toArray⟩
theorem S_size (l:List UInt8):(S l).size=l.length:=by show l.toArray.size=_;simp
theorem S_of (s:ByteArray):s=S s.data.toList:=by simp [S]
theorem S_beq (a b:List UInt8):((S a).toList == (S b).toList)=decide (a=b):=by
 rw [ByteArray.toList_eq,ByteArray.toList_eq]
 show (a == b)=_
 rw [Bool.eq_iff_iff];simp
theorem S_add (a b:List UInt8):S a++S b=S (a++b):=by
 apply ByteArray.ext
 show (S a++S b).data=_
 rw [ByteArray.data_append]
 simp [S]
theorem S_ext (l:List UInt8) (a b:Nat):(S l).extract a b=S ((l.take b).drop a):=by
 apply ByteArray.ext
 rw [ByteArray.data_extract]
 apply Array.ext'
 simp [S,List.drop_take]
theorem run_len_S {P:Program} {t ty:TypeId} (hu:P.underlying t=some .string) {cs:Array Bool} {l:List UInt8} (w:World):(builtin .len #[t] ty cs #[.string (S l)]).run P w=.ok (.value (.int .i64 (l.length:Nat))) w:=by
 simp [builtin,Builtin.len_,Sem.run_bind,run_underlying hu,goInt,S_size]
theorem runs_hi {E:Env} {t:TypeId} (hu:E.P.underlying t=some .string) {l:List UInt8} {k:IntKind} {x:Int} (n:Nat) (hx:x=n) (hn:n≤l.length):Runs E (Instr.sliceAt t (.string (S l)) none (some (.int k x)) none) (.string (S (l.take n))):=fun w _=>by
 subst hx
 have h:=run_slice_string_h (P:=E.P) w t (S l) hu k n (by omega) (by rw [S_size];omega)
 simp only [Instr.sliceAt,Sem.run_bind,run_underlying hu,Result.andThen_ok]
 rw [h,S_ext]
 simp
theorem runs_lo {E:Env} {t:TypeId} (hu:E.P.underlying t=some .string) {l:List UInt8} {k:IntKind} {x:Int} (n:Nat) (hx:x=n) (hn:n≤l.length):Runs E (Instr.sliceAt t (.string (S l)) (some (.int k x)) none none) (.string (S (l.drop n))):=fun w _=>by
 subst hx
 have h:=run_slice_string_l (P:=E.P) w t (S l) hu k n (by omega) (by rw [S_size];omega)
 simp only [Instr.sliceAt,Sem.run_bind,run_underlying hu,Result.andThen_ok]
 rw [h,S_ext,S_size]
 simp
theorem runs_idx {E:Env} {t:TypeId} (hu:E.P.underlying t=some .string) {l:List UInt8} {k:IntKind} {x:Int} (n:Nat) (hx:x=n) (hn:n < l.length):Runs E (Instr.index t (.string (S l)) (.int k x)) (.int .u8 ((l.getD n 0).toNat:Nat)):=by
 subst hx
 refine runs_index hu (by omega) (b:=l.getD n 0) ?_
 show l.toArray[(n:Int).toNat]? = _
 rw [Int.toNat_natCast,List.getElem?_toArray,List.getD_eq_getElem?_getD,List.getElem?_eq_getElem hn]
 rfl
theorem run_lenE {P:Program} {t ty:TypeId} (hu:P.underlying t=some .string) {cs:Array Bool} {s:ByteArray} {l:List UInt8} (hs:s=S l) (w:World):(builtin .len #[t] ty cs #[.string s]).run P w=.ok (.value (.int .i64 (l.length:Nat))) w:=by subst hs;exact run_len_S hu w
theorem runs_hiE {E:Env} {t:TypeId} (hu:E.P.underlying t=some .string) {s:ByteArray} {l:List UInt8} (hs:s=S l) {k:IntKind} {x:Int} (n:Nat) (hx:x=n) (hn:n≤l.length):Runs E (Instr.sliceAt t (.string s) none (some (.int k x)) none) (.string (S (l.take n))):=by subst hs;exact runs_hi hu n hx hn
theorem runs_loE {E:Env} {t:TypeId} (hu:E.P.underlying t=some .string) {s:ByteArray} {l:List UInt8} (hs:s=S l) {k:IntKind} {x:Int} (n:Nat) (hx:x=n) (hn:n≤l.length):Runs E (Instr.sliceAt t (.string s) (some (.int k x)) none none) (.string (S (l.drop n))):=by subst hs;exact runs_lo hu n hx hn
theorem sv {a b:ByteArray} (h:a=b):Value.string a=.string b:=by rw [h]
theorem c_str {a b:ByteArray} (h:a=b):SV.c (.string a)=SV.c (.string b):=by rw [h]
theorem hasPre_z (l p:List UInt8):Pure Tryz.prog 243 [SV.c (.string (S l)),SV.c (.string (S p))] (.bool (decide (p.length≤l.length∧l.take p.length=p))):=by
 refine sx_pure tt_ok mixed at243 _ _ rfl rfl fun w=>?_
 refine ⟨_,fun w _=>run_len_S Tryz.underlying9 w,_,fun w _=>run_len_S Tryz.underlying9 w,fun h=>?_,fun h=>?_⟩
 ·have h:p.length≤l.length:=by have:=of_decide_eq_true h;omega
  refine ⟨_,fun w _=>run_len_S Tryz.underlying9 w,_,runs_hi Tryz.underlying9 p.length rfl h,bv ?_,trivial⟩
  rw [S_beq,Bool.eq_iff_iff]
  simp [h]
 ·have h:¬ (p.length≤l.length):=by have:=of_decide_eq_false h;omega
  refine ⟨bv ?_,trivial⟩
  rw [Bool.eq_iff_iff]
  simp [h]
theorem hasPre2_z (l p:List UInt8):Pure Tryz.prog 245 [SV.c (.string (S l)),SV.c (.string (S p))] (.bool (decide (p.length≤l.length∧l.take p.length=p))):=by
 refine sx_pure tt_ok mixed at245 _ _ rfl rfl fun w=>?_
 exact .inl ⟨_,hasPre_z l p,rfl,trivial⟩
def cutP (l p:List UInt8):List UInt8×Bool:=if p.length≤l.length∧l.take p.length=p then (l.drop p.length,true) else (l,false)
theorem cutPre_z (l p:List UInt8):Pure Tryz.prog 233 [SV.c (.string (S l)),SV.c (.string (S p))] (.tuple #[.string (S (cutP l p).1),.bool (cutP l p).2]):=by
 refine sx_pure tt_ok mixed at233 _ _ rfl rfl fun w=>?_
 refine .inl ⟨_,hasPre_z l p,fun h=>?_,fun h=>?_⟩
 ·have h:=of_decide_eq_false (bnt h)
  refine ⟨?_,trivial⟩
  rw [cutP,if_neg h];rfl
 ·have h:=of_decide_eq_true (bnf h)
  refine ⟨_,fun w _=>run_len_S Tryz.underlying9 w,_,runs_lo Tryz.underlying9 p.length rfl h.1,?_,trivial⟩
  rw [cutP,if_pos h];rfl
theorem cutPre2_z (l p:List UInt8):Pure Tryz.prog 208 [SV.c (.string (S l)),SV.c (.string (S p))] (.tuple #[.string (S (cutP l p).1),.bool (cutP l p).2]):=by
 refine sx_pure tt_ok mixed at208 _ _ rfl rfl fun w=>?_
 exact .inl ⟨_,cutPre_z l p,rfl,trivial⟩
def trimR (c:UInt8) (l:List UInt8):List UInt8:=(l.reverse.dropWhile (· == c)).reverse
theorem trimR_snoc (c x:UInt8) (l:List UInt8):trimR c (l++[x])=if x=c then trimR c l else l++[x]:=by
 unfold trimR
 by_cases h:x=c
 ·simp [h]
 ·simp [h]
theorem trimR_len (c:UInt8) (l:List UInt8):(trimR c l).length≤l.length:=by
 unfold trimR
 rw [List.length_reverse]
 have:=(List.dropWhile_sublist (· == c) (l:=l.reverse)).length_le
 simpa using this
theorem snoc_of {l:List UInt8} (h:0 < l.length):l=l.take (l.length - 1)++[l.getD (l.length - 1) 0]:=by
 rw [List.getD_eq_getElem?_getD,List.getElem?_eq_getElem (by omega)]
 simp only [Option.getD_some]
 rw [List.take_append_getElem (by omega),Nat.sub_add_cancel h,List.take_length]
theorem trimB_z (l:List UInt8) (c:UInt8) (hl:l.length≤9223372036854775807):Pure Tryz.prog 235 [SV.c (.string (S l)),SV.c (.int .u8 (c.toNat:Nat))] (.string (S (trimR c l))):=by
 refine sx_pure tt_ok mixed at235 _ _ rfl rfl fun w=>?_
 refine ⟨fun q f m=>∃ k:List UInt8,q=k.length∧k.length≤9223372036854775807∧trimR c k=trimR c l∧f=[(0,SV.c (.string (S k))),(1,SV.c (.int .u8 (c.toNat:Nat)))]∧m=[],l.length,⟨_,_,⟨l,rfl,hl,rfl,rfl,rfl⟩,⟨rfl,rfl,trivial⟩,trivial,rfl⟩,?_⟩
 rintro q f m ⟨k,rfl,h63,hk,rfl,rfl⟩
 have hn:0 < k.length→IntKind.i64.wrap ((k.length:Int) - 1)=((k.length - 1:Nat):Int):=fun h=>by rw [i64_in (by omega)];omega
 refine ⟨_,fun w _=>run_len_S Tryz.underlying9 w,fun h=>?_,fun h=>?_⟩
 ·have h:0 < k.length:=by have:=of_decide_eq_true h;omega
  have hs:=snoc_of h
  refine ⟨_,fun w _=>run_len_S Tryz.underlying9 w,_,runs_idx Tryz.underlying9 (k.length - 1) (hn h) (by omega),fun h2=>?_,fun h2=>?_⟩
  ·have h2:k.getD (k.length - 1) 0=c:=by
     have:(((k.getD (k.length - 1) 0).toNat:Nat):Int)=(c.toNat:Nat):=by simpa using h2
     exact UInt8.toNat_inj.1 (by omega)
   refine ⟨_,fun w _=>run_len_S Tryz.underlying9 w,_,runs_hi Tryz.underlying9 (k.length - 1) (hn h) (by omega),?_⟩
   refine ⟨k.length - 1,_,_,by omega,⟨k.take (k.length - 1),by simp,by simp;omega,?_,rfl,rfl⟩,⟨rfl,rfl,trivial⟩,trivial,rfl⟩
   rw [hs,trimR_snoc,if_pos h2] at hk
   exact hk
  ·have h2:k.getD (k.length - 1) 0≠c:=by
     intro e
     rw [e] at h2;simp at h2
   refine ⟨?_,trivial⟩
   rw [hs,trimR_snoc,if_neg h2,← hs] at hk
   rw [← hk];rfl
 ·have h:k.length=0:=by have:=of_decide_eq_false h;omega
  have h:k=[]:=List.length_eq_zero_iff.1 h
  subst h
  refine ⟨nofun,fun _=>⟨?_,trivial⟩⟩
  rw [← hk];rfl
theorem trim_z (l:List UInt8) (c:UInt8) (hl:l.length≤9223372036854775807) (hc:c.toNat < 128):Pure Tryz.prog 211 [SV.c (.string (S l)),SV.c (.string (S [c]))] (.string (S (trimR c l))):=by
 refine sx_pure tt_ok mixed at211 _ _ rfl rfl fun w=>?_
 have e1:((S l).toList == (S []).toList)=decide (l=[]):=S_beq l []
 have e2:((S [c]).toList == (S []).toList)=false:=by rw [S_beq];simp
 refine ⟨fun h=>⟨fun h2=>?_,fun h2=>?_⟩,fun h=>?_⟩
 ·exact absurd (e2.symm.trans h2) (by simp)
 ·refine ⟨_,fun w _=>run_len_S Tryz.underlying9 w,fun _=>⟨_,runs_idx Tryz.underlying9 0 rfl (by simp),fun h3=>⟨_,runs_idx Tryz.underlying9 0 rfl (by simp),.inl ⟨_,trimB_z l c hl,rfl,trivial⟩⟩,fun h3=>?_⟩,nofun⟩
  exfalso
  have h3:=of_decide_eq_false h3
  apply h3
  show ((c.toNat:Nat):Int) < 128
  omega
 ·have h:l=[]:=of_decide_eq_true (e1.symm.trans h)
  subst h
  exact ⟨fun _=>⟨rfl,trivial⟩,nofun⟩
theorem mul64_z (n:Nat) (h:n≤10):Pure Tryz.prog 254 [SV.c (.int .u64 1),SV.c (.int .u64 (n:Nat))] (.tuple #[.int .u64 0,.int .u64 (n:Nat)]):=by
 obtain rfl | rfl | rfl | rfl | rfl | rfl | rfl | rfl | rfl | rfl | rfl:n=0∨n=1∨n=2∨n=3∨n=4∨n=5∨n=6∨n=7∨n=8∨n=9∨n=10:=by omega
 all_goals
  refine sx_pure tt_ok mixed at254 _ _ rfl rfl fun w=>?_
  exact ⟨by decide,by decide,by decide,by decide,by decide,by kernel_rfl,trivial⟩
theorem mulU_z (n:Nat) (h:n≤10):Pure Tryz.prog 244 [SV.c (.int .u64 1),SV.c (.int .u64 (n:Nat))] (.tuple #[.int .u64 0,.int .u64 (n:Nat)]):=by
 refine sx_pure tt_ok mixed at244 _ _ rfl rfl fun w=>?_
 exact ⟨nofun,fun _=>.inl ⟨_,mul64_z n h,rfl,trivial⟩⟩
def zeros64:List UInt8:=List.replicate 64 48
theorem repeat_z (n:Nat) (h0:0 < n) (h:n≤10):Pure Tryz.prog 234 [SV.c (.string (S [48])),SV.c (.int .i64 (n:Nat))] (.string (S (List.replicate n 48))):=by
 refine sx_pure tt_ok mixed at234 _ _ rfl rfl fun w=>?_
 have hp:Pure Tryz.prog 245 [SV.c (.string (S zeros64)),SV.c (.string (S [48]))] (.bool true):=hasPre2_z zeros64 [48]
 have e1:IntKind.u64.wrap ((n:Nat):Int)=(n:Nat):=u64_in (by omega)
 have hm:=mulU_z n h
 have ht:zeros64.take n=List.replicate n 48:=by rw [zeros64,List.take_replicate];congr 1;omega
 refine ⟨fun h1=>?_,fun h1=>⟨fun h2=>?_,fun h2=>⟨fun h3=>?_,fun h3=>⟨_,fun w _=>run_len_S Tryz.underlying9 w,?_⟩⟩⟩⟩
 ·exfalso
  have:(n:Int)=0:=by simpa using h1
  omega
 ·have h2:n=1:=by have:(n:Int)=1:=by simpa using h2
                  omega
  subst h2
  exact ⟨rfl,trivial⟩
 ·exfalso
  have:=of_decide_eq_true h3
  omega
 ·have hm':Pure Tryz.prog 244 [SV.c (.int .u64 1),SV.c (.int .u64 (IntKind.u64.wrap ((n:Nat):Int)))] (.tuple #[.int .u64 0,.int .u64 (n:Nat)]):=by rw [e1];exact hm
  have e2:IntKind.i64.wrap ((n:Nat):Int)=(n:Nat):=i64_in (by omega)
  refine .inl ⟨_,hm',fun _=>⟨fun h4=>?_,fun h4=>?_⟩,nofun⟩
  ·exfalso
   have:=of_decide_eq_true h4
   have:((n:Nat):Int) > 9223372036854775807:=this
   omega
  ·refine ⟨_,fun w _=>run_len_S Tryz.underlying9 w,nofun,fun _=>⟨_,runs_idx Tryz.underlying9 0 rfl (by decide),nofun,fun _=>⟨nofun,fun _=>⟨fun _=>?_,nofun⟩⟩⟩⟩
   refine ⟨fun _=>⟨fun h5=>.inl ⟨_,hasPre2_z _ [48],fun h6=>absurd h6 (by decide),fun _=>⟨fun h7=>.inl ⟨_,hasPre2_z _ [48],fun h6=>absurd h6 (by decide),fun _=>⟨fun h8=>?_,fun h8=>?_⟩⟩,fun h7=>?_⟩⟩,fun h5=>?_⟩,nofun⟩
   ·refine .inl ⟨_,hasPre2_z zeros64 [48],fun _=>⟨_,runs_hi (l:=zeros64) Tryz.underlying9 n e2 (by show n≤64;omega),?_,trivial⟩,fun h6=>absurd h6 (by decide)⟩
    rw [ht];rfl
   ·exfalso
    have h8:=of_decide_eq_false h8
    rw [e2] at h8;omega
   ·exfalso
    have h7:=of_decide_eq_false h7
    rw [e2] at h7;omega
   ·exfalso
    have h5:=of_decide_eq_false h5
    rw [e2] at h5;omega
def padZ (k:Nat) (l:List UInt8):List UInt8:=if l.length≤k then List.replicate (k+1 - l.length) 48++l else l
theorem padZ_len (k:Nat) (l:List UInt8):k < (padZ k l).length:=by
 unfold padZ;split
 ·simp;omega
 ·omega
theorem point_z (l:List UInt8) (k:Nat) (hk:k≤9) (h0:0 < l.length) (hl:l.length≤1000):Pure Tryz.prog 210 [SV.c (.string (S l)),SV.c (.int .i64 (k:Nat))] (.tuple #[.string (S ((padZ k l).take ((padZ k l).length - k))),.string (S ((padZ k l).drop ((padZ k l).length - k)))]):=by
 refine sx_pure tt_ok mixed at210 _ _ rfl rfl fun w=>?_
 refine ⟨_,fun w _=>run_len_S Tryz.underlying9 w,fun h=>?_,fun h=>?_⟩
 ·have h:l.length≤k:=by have:=of_decide_eq_true h;omega
  have ep:padZ k l=List.replicate (k+1 - l.length) 48++l:=if_pos h
  have e1:IntKind.i64.wrap (IntKind.i64.wrap ((k:Int)+1) - (l.length:Nat))=((k+1 - l.length:Nat):Int):=by rw [i64_in (x:=(k:Int)+1) (by omega),i64_in (by omega)];omega
  have hr:=repeat_z (k+1 - l.length) (by omega) (by omega)
  rw [← e1] at hr
  have es:S (List.replicate (k+1 - l.length) 48)++S l=S (padZ k l):=by rw [S_add,ep]
  have el:=padZ_len k l
  have el2:(padZ k l).length≤1000:=by rw [ep];simp;omega
  have e2:IntKind.i64.wrap (((padZ k l).length:Int) - (k:Nat))=(((padZ k l).length - k:Nat):Int):=by rw [i64_in (by omega)];omega
  exact ⟨_,fun w _=>run_len_S Tryz.underlying9 w,.inl ⟨_,hr,by rw [S_size,S_size];simp;omega,_,fun w _=>run_lenE Tryz.underlying9 es w,_,runs_hiE Tryz.underlying9 es _ e2 (by omega),_,fun w _=>run_lenE Tryz.underlying9 es w,_,runs_loE Tryz.underlying9 es _ e2 (by omega),by kernel_rfl,rfl,trivial⟩⟩
 ·have h:¬ l.length≤k:=by have:=of_decide_eq_false h;omega
  have ep:padZ k l=l:=if_neg h
  rw [ep]
  have e1:IntKind.i64.wrap ((l.length:Int) - (k:Nat))=((l.length - k:Nat):Int):=by rw [i64_in (by omega)];omega
  exact ⟨_,fun w _=>run_len_S Tryz.underlying9 w,_,runs_hi Tryz.underlying9 (l.length - k) e1 (by omega),_,fun w _=>run_len_S Tryz.underlying9 w,_,runs_lo Tryz.underlying9 (l.length - k) e1 (by omega),by kernel_rfl,rfl,trivial⟩
def txtZ (z:Int) (k:Nat):List UInt8×Int :=
 let s:=padZ k (fmtN z.natAbs)
 let p:=trimR 48 (s.drop (s.length - k))
 if 15 < s.length - k then ([],32) else ((if z < 0 then [45] else [])++s.take (s.length - k)++(if p=[] then [] else 46 :: p),0)
def txtQ (r:RQ) (n:Int):List UInt8×Int:=if !r.ok then ([],20) else if n < 0∨n > 9 then ([],30) else if r.p*(tp n.toNat:Nat) % r.q≠0 then ([],32) else txtZ (r.p*(tp n.toNat:Nat) / r.q) n.toNat
def resS (x:List UInt8×Int):Value:=.tuple #[.string (S x.1),.int .i64 x.2]
theorem fmtN_dig {N:Nat}:∀ b∈fmtN N,48≤b.toNat∧b.toNat≤57:=by
 intro b hb
 unfold fmtN at hb
 split at hb
 ·simp at hb;subst hb;decide
 ·exact rdig_isdig b (List.mem_reverse.1 hb)
theorem fmtN_pos (N:Nat):0 < (fmtN N).length:=by
 unfold fmtN
 split
 ·simp
 ·rename_i h;rw [rdig_pos h];simp
theorem fmtN_len {k N:Nat} (hk:0 < k) (h:N < 10 ^ k):(fmtN N).length≤k:=by
 unfold fmtN
 split
 ·simp;omega
 ·rw [List.length_reverse];exact rdig_len k N h
theorem cut_minus (z:Int):cutP (fmtZ z) [45]=(fmtN z.natAbs,decide (z < 0)):=by
 unfold fmtZ cutP
 by_cases h:z < 0
 ·simp [h]
 ·rw [if_neg h]
  have h0:=fmtN_pos z.natAbs
  cases hl:fmtN z.natAbs with
  | nil=>rw [hl] at h0;simp at h0
  | cons a r =>
   have:=fmtN_dig a (by rw [hl];simp)
   rw [if_neg]
   ·simp [h]
   ·rintro ⟨-,h2⟩
    simp at h2
    subst h2
    simp at this
theorem bits_dec {N:Nat} (h:N < 2 ^ e960):N < 10 ^ e309:=Nat.lt_trans h (by decide +kernel)
theorem text_z {r:RQ} (hr:r.In) (n:Int):Pure Tryz.prog 172 [SV.c (.agg r.A),SV.c (.int .i64 n)] (resS (txtQ r n)):=by
 refine sx_pure tt_ok mixed at172 _ _ rfl rfl fun w=>?_
 have hc:=check_z hr n
 rcases Decidable.em (r.ok=true) with hk | hk
 case inr =>
  have hk:r.ok=false:=by simpa using hk
  rw [hk,Bool.not_false,if_pos rfl] at hc
  refine ⟨r.A_size,.inl ⟨_,hc,fun _=>⟨?_,trivial⟩,nofun⟩⟩
  rw [txtQ,hk,Bool.not_false,if_pos rfl];rfl
 rw [hk] at hc
 rcases Decidable.em (n < 0∨n > 9) with hn | hn
 ·rw [Bool.not_true,if_neg Bool.false_ne_true,if_pos hn] at hc
  refine ⟨r.A_size,.inl ⟨_,hc,fun _=>⟨?_,trivial⟩,nofun⟩⟩
  rw [txtQ,hk,Bool.not_true,if_neg Bool.false_ne_true,if_pos hn];rfl
 rw [Bool.not_true,if_neg Bool.false_ne_true,if_neg hn] at hc
 obtain ⟨k,rfl⟩:∃ k:Nat,n=k:=⟨n.toNat,by omega⟩
 have hk9:k≤9:=by omega
 obtain ⟨k1,k2,k3,k4,k5⟩:=RQ.ok_bits hk
 have hs:=scaled_z hr hk hk9
 have hl:=scale_lt2 k1 hk9
 have hrl:(r.p*((tp k:Nat):Int) % r.q).natAbs < BB ^ 32:=by
  have h1:=Int.emod_lt_of_pos (r.p*((tp k:Nat):Int)) k3
  have h2:=Int.emod_nonneg (r.p*((tp k:Nat):Int)) (show r.q≠0 by omega)
  have h3:r.q.natAbs < 2 ^ e480:=Nat.lt_of_lt_of_le (bl_bits _).1 (Nat.pow_le_pow_right (by omega) k2)
  have:=hp480
  omega
 have hlow:(r.p*((tp k:Nat):Int) / r.q).natAbs < 2 ^ e960:=Nat.lt_of_le_of_lt (Int.natAbs_ediv_le_natAbs _ _) hl
 rw [txtQ,hk,Bool.not_true,if_neg Bool.false_ne_true,if_neg hn,Int.toNat_natCast]
 generalize r.p*((tp k:Nat):Int) / r.q=low at *
 generalize r.p*((tp k:Nat):Int) % r.q=rest at *
 have hlb:low.natAbs < BB ^ 32:=Nat.lt_trans hlow hp960
 have hlen:(fmtN low.natAbs).length≤309:=fmtN_len (k:=e309) (by decide) (bits_dec hlow)
 have hfmt:Pure Tryz.prog 209 [SV.c (.agg (eA low))] (.string (S (fmtZ low))):=format_z (isI_e hlb)
 have hcut:=cutPre2_z (fmtZ low) [45]
 rw [cut_minus] at hcut
 have hpt:=point_z (fmtN low.natAbs) k hk9 (fmtN_pos _) (by omega)
 unfold txtZ
 dsimp only
 have hpl:=padZ_len k (fmtN low.natAbs)
 have hpl2:(padZ k (fmtN low.natAbs)).length≤1000:=by
  unfold padZ;split
  ·simp only [List.length_append,List.length_replicate];omega
  ·omega
 generalize padZ k (fmtN low.natAbs)=s at *
 have htr:=trim_z (s.drop (s.length - k)) 48 (by simp;omega) (by decide)
 have hpz:(trimR 48 (s.drop (s.length - k))).length≤1000:=Nat.le_trans (trimR_len _ _) (by simp;omega)
 have ht:(s.take (s.length - k)).length≤1000:=by simp;omega
 have hemp:((S (trimR 48 (s.drop (s.length - k)))).toList == (S []).toList)=decide (trimR 48 (s.drop (s.length - k))=[]):=S_beq _ []
 generalize trimR 48 (s.drop (s.length - k))=p at *
 have s1:(S [46]:ByteArray).size+(S p).size≤9223372036854775807:=by rw [S_size,S_size];simp;omega
 have s2:(S (s.take (s.length - k))).size+(S [46]++S p).size≤9223372036854775807:=by rw [S_add,S_size,S_size];simp only [List.length_append,List.length_cons,List.length_nil];omega
 have s3:(S [45]:ByteArray).size+(S (s.take (s.length - k))++(S [46]++S p)).size≤9223372036854775807:=by rw [S_add,S_add,S_size,S_size];simp only [List.length_append,List.length_cons,List.length_nil];omega
 have s4:(S [45]:ByteArray).size+(S (s.take (s.length - k))).size≤9223372036854775807:=by rw [S_size,S_size];simp only [List.length_cons,List.length_nil];omega
 have htl:(s.take (s.length - k)).length=s.length - k:=by simp
 refine ⟨r.A_size,.inl ⟨_,hc,nofun,fun _=>.inl ⟨_,hs,eA_fits _,eA_fits _,.inl ⟨_,sign_z (isI_e hrl),fun h1=>?_,fun h1=>.inl ⟨_,hfmt,.inl ⟨_,hcut,.inl ⟨_,hpt,_,fun w _=>run_len_S Tryz.underlying9 w,fun h2=>?_,fun h2=>.inl ⟨_,htr,fun h3=>⟨s1,s2,fun h4=>⟨s3,?_,trivial⟩,fun h4=>⟨?_,trivial⟩⟩,fun h3=>⟨fun h4=>⟨s4,?_,trivial⟩,fun h4=>⟨?_,trivial⟩⟩⟩⟩⟩⟩⟩⟩⟩⟩
 ·have h1:rest≠0:=by
    intro e;subst e;simp [sgn] at h1
  refine ⟨?_,trivial⟩
  rw [if_pos h1];rfl
 all_goals
  have h1:¬ (rest≠0):=by
   intro e
   have e2:=sgn_zero (y:=rest)
   rw [decide_eq_false e] at e2
   have:(!(sgn rest == 0))=false:=h1
   rw [e2] at this
   cases this
  rw [if_neg h1]
 ·have h2:=of_decide_eq_true h2
  refine ⟨?_,trivial⟩
  rw [if_pos (by omega)];rfl
 all_goals
  have h2:=of_decide_eq_false h2
  have h4:decide (low < 0)=_:=h4
  rw [if_neg (by omega)]
 ·have h3:=bnt (hemp ▸ h3)
  rw [if_pos (of_decide_eq_true h4),if_neg (of_decide_eq_false h3)]
  refine tup2 (sv ?_) rfl
  show S [45]++(S (s.take (s.length - k))++(S [46]++S p))=_
  rw [S_add,S_add,S_add,List.append_assoc];rfl
 ·have h3:=bnt (hemp ▸ h3)
  rw [if_neg (of_decide_eq_false h4),if_neg (of_decide_eq_false h3)]
  refine tup2 (sv ?_) rfl
  show (S (s.take (s.length - k))++(S [46]++S p))=_
  rw [S_add,S_add];rfl
 ·have h3:=of_bnf (hemp ▸ h3)
  rw [if_pos (of_decide_eq_true h4),if_pos (of_decide_eq_true h3)]
  refine tup2 (sv ?_) rfl
  show S [45]++S (s.take (s.length - k))=_
  rw [S_add,List.append_nil]
 ·have h3:=of_bnf (hemp ▸ h3)
  rw [if_neg (of_decide_eq_false h4),if_pos (of_decide_eq_true h3)]
  refine tup2 (sv ?_) rfl
  rw [List.append_nil];rfl
def capAt (dg:Bool) (l:List UInt8) (j:Nat):Bool:=(decide (65≤(l.getD j 0).toNat) && decide ((l.getD j 0).toNat≤90)) || (dg && !decide (j=0) && decide (48≤(l.getD j 0).toNat) && decide ((l.getD j 0).toNat≤57))
def capAll (dg:Bool) (l:List UInt8):Bool:=(List.range l.length).all (capAt dg l)
theorem capAll_false {dg:Bool} {l:List UInt8} {j:Nat} (hj:j < l.length) (h:capAt dg l j=false):capAll dg l=false:=by
 unfold capAll
 rw [List.all_eq_false]
 exact ⟨j,by simpa using hj,by simp [h]⟩
theorem capAll_true {dg:Bool} {l:List UInt8} (h:∀ j,j < l.length→capAt dg l j=true):capAll dg l=true:=by
 unfold capAll
 rw [List.all_eq_true]
 intro j hj
 exact h j (by simpa using hj)
theorem capitals_z (l:List UInt8) (lo hi:Int) (dg:Bool) (hl:l.length≤9223372036854775807):Pure Tryz.prog 127 [SV.c (.string (S l)),SV.c (.int .i64 lo),SV.c (.int .i64 hi),SV.c (.bool dg)] (.bool (capAll dg l && (decide (lo≤l.length) && decide ((l.length:Int)≤hi)))):=by
 refine sx_pure tt_ok mixed at127 _ _ rfl rfl fun w=>?_
 refine ⟨_,fun w _=>run_len_S Tryz.underlying9 w,?_⟩
 refine ⟨fun q f m=>∃ i:Nat,q=l.length - i∧i≤l.length∧(∀ j,j < i→capAt dg l j=true)∧f=[(0,SV.c (.string (S l))),(1,SV.c (.int .i64 lo)),(2,SV.c (.int .i64 hi)),(3,SV.c (.bool dg)),(11,SV.c (.int .i64 (l.length:Nat))),(12,SV.c (.int .i64 i))]∧m=[],l.length,⟨_,_,⟨0,rfl,Nat.zero_le _,fun j hj=>absurd hj (by omega),rfl,rfl⟩,⟨rfl,rfl,rfl,rfl,rfl,rfl,trivial⟩,trivial,rfl⟩,?_⟩
 rintro q f m ⟨i,rfl,hi1,hall,rfl,rfl⟩
 refine ⟨fun h=>?_,fun h=>?_⟩
 ·have h:i < l.length:=by have:=of_decide_eq_true h;omega
  have hx:=runs_idx (E:=(envP Tryz.prog tt Tryz.f127.ntmps w).toEnv) Tryz.underlying9 (k:=.i64) i rfl h
  have hc:capAt dg l i=((decide (65≤(l.getD i 0).toNat) && decide ((l.getD i 0).toNat≤90)) || (dg && !decide (i=0) && decide (48≤(l.getD i 0).toNat) && decide ((l.getD i 0).toNat≤57))):=rfl
  generalize (l.getD i 0).toNat=x at *
  have stop:capAt dg l i=false→mkRes [.bool false]=.bool (capAll dg l && (decide (lo≤l.length) && decide ((l.length:Int)≤hi))):=fun e=>by rw [capAll_false h e];rfl
  have hnext:capAt dg l i=true→∀ j,j < i+1→capAt dg l j=true:=fun e j hj=>by
   by_cases e2:j=i
   ·rw [e2];exact e
   ·exact hall j (by omega)
  refine ⟨_,hx,fun h1=>⟨_,hx,fun h2=>?_,fun h2=>?_⟩,fun h1=>⟨fun h2=>?_,nofun⟩⟩
  ·have h1:=of_decide_eq_false h1
   have h2:=of_decide_eq_true h2
   have hlow:(decide (65≤x) && decide (x≤90))=false:=by rw [decide_eq_false (by omega:¬ x≤90),Bool.and_false]
   rw [hlow,Bool.false_or] at hc
   refine ⟨fun h3=>⟨fun h4=>⟨_,hx,fun h5=>⟨_,hx,fun h6=>⟨stop ?_,trivial⟩,fun h6=>?_⟩,fun h5=>⟨fun _=>⟨stop ?_,trivial⟩,nofun⟩⟩,fun h4=>⟨nofun,fun _=>⟨fun _=>⟨stop ?_,trivial⟩,nofun⟩⟩⟩,fun h3=>⟨nofun,fun _=>⟨nofun,fun _=>⟨fun _=>⟨stop ?_,trivial⟩,nofun⟩⟩⟩⟩
   ·have h6:=of_decide_eq_true h6
    rw [hc,decide_eq_false (by omega:¬ x≤57),Bool.and_false]
   ·have h3:dg=true:=of_bnf h3
    have h4:¬ i=0:=by intro e;subst e;simp at h4
    have h5:=of_decide_eq_false h5
    have h6:=of_decide_eq_false h6
    exact ⟨l.length - (i+1),_,_,by omega,⟨i+1,rfl,by omega,hnext (by rw [hc,h3,decide_eq_false h4,decide_eq_true (by omega:48≤x),decide_eq_true (by omega:x≤57)];rfl),rfl,rfl⟩,⟨rfl,rfl,rfl,rfl,rfl,c_int (by rw [i64_in (by omega)];rfl),trivial⟩,trivial,rfl⟩
   ·have h5:=of_decide_eq_true h5
    rw [hc,decide_eq_false (by omega:¬ 48≤x),Bool.and_false,Bool.false_and]
   ·have h4:i=0:=by have:(i:Int)=0:=by simpa using h4
                    omega
    rw [hc,decide_eq_true h4,Bool.not_true,Bool.and_false,Bool.false_and,Bool.false_and]
   ·have h3:dg=false:=bnt h3
    rw [hc,h3];rfl
  ·have h1:=of_decide_eq_false h1
   have h2:=of_decide_eq_false h2
   refine ⟨nofun,fun _=>?_⟩
   exact ⟨l.length - (i+1),_,_,by omega,⟨i+1,rfl,by omega,hnext (by rw [hc,decide_eq_true (by omega:65≤x),decide_eq_true (by omega:x≤90)];rfl),rfl,rfl⟩,⟨rfl,rfl,rfl,rfl,rfl,c_int (by rw [i64_in (by omega)];rfl),trivial⟩,trivial,rfl⟩
  ·have h1:=of_decide_eq_true h1
   have hlow:(decide (65≤x) && decide (x≤90))=false:=by rw [decide_eq_false (by omega:¬ 65≤x),Bool.false_and]
   rw [hlow,Bool.false_or] at hc
   refine ⟨fun h3=>⟨fun h4=>⟨_,hx,fun h5=>⟨_,hx,fun h6=>⟨stop ?_,trivial⟩,fun h6=>?_⟩,fun h5=>⟨fun _=>⟨stop ?_,trivial⟩,nofun⟩⟩,fun h4=>⟨nofun,fun _=>⟨fun _=>⟨stop ?_,trivial⟩,nofun⟩⟩⟩,fun h3=>⟨nofun,fun _=>⟨nofun,fun _=>⟨fun _=>⟨stop ?_,trivial⟩,nofun⟩⟩⟩⟩
   ·have h6:=of_decide_eq_true h6
    rw [hc,decide_eq_false (by omega:¬ x≤57),Bool.and_false]
   ·have h3:dg=true:=of_bnf h3
    have h4:¬ i=0:=by intro e;subst e;simp at h4
    have h5:=of_decide_eq_false h5
    have h6:=of_decide_eq_false h6
    exact ⟨l.length - (i+1),_,_,by omega,⟨i+1,rfl,by omega,hnext (by rw [hc,h3,decide_eq_false h4,decide_eq_true (by omega:48≤x),decide_eq_true (by omega:x≤57)];rfl),rfl,rfl⟩,⟨rfl,rfl,rfl,rfl,rfl,c_int (by rw [i64_in (by omega)];rfl),trivial⟩,trivial,rfl⟩
   ·have h5:=of_decide_eq_true h5
    rw [hc,decide_eq_false (by omega:¬ 48≤x),Bool.and_false,Bool.false_and]
   ·have h4:i=0:=by have:(i:Int)=0:=by simpa using h4
                    omega
    rw [hc,decide_eq_true h4,Bool.not_true,Bool.and_false,Bool.false_and,Bool.false_and]
   ·have h3:dg=false:=bnt h3
    rw [hc,h3];rfl
 ·have h:i=l.length:=by have:=of_decide_eq_false h;omega
  subst h
  rw [capAll_true hall,Bool.true_and]
  refine ⟨_,fun w _=>run_len_S Tryz.underlying9 w,fun h2=>⟨_,fun w _=>run_len_S Tryz.underlying9 w,bv ?_,trivial⟩,fun h2=>⟨bv ?_,trivial⟩⟩
  ·rw [decide_eq_true (of_decide_eq_true h2:lo≤(l.length:Int)),Bool.true_and]
  ·rw [decide_eq_false (of_decide_eq_false h2:¬ lo≤(l.length:Int)),Bool.false_and]
theorem instrument_z (l:List UInt8) (hl:l.length≤9223372036854775807):Pure Tryz.prog 125 [SV.c (.string (S l))] (.bool (capAll true l && (decide (1≤l.length) && decide (l.length≤12)))):=by
 refine sx_pure tt_ok mixed at125 _ _ rfl rfl fun w=>?_
 refine .inl ⟨_,capitals_z l 1 12 true hl,bv ?_,trivial⟩
 congr 2
 ·rw [Bool.eq_iff_iff];simp only [decide_eq_true_eq];omega
 ·rw [Bool.eq_iff_iff];simp only [decide_eq_true_eq];omega
def facOk (n:Int):Bool:=decide (1≤n) && decide (n≤1000000)
theorem factor_z (n:Int):Pure Tryz.prog 128 [SV.c (.int .i64 n)] (.bool (facOk n)):=by
 refine sx_pure tt_ok mixed at128 _ _ rfl rfl fun w=>?_
 refine ⟨fun h=>⟨bv ?_,trivial⟩,fun h=>⟨bv ?_,trivial⟩⟩
 ·rw [facOk,decide_eq_true (of_decide_eq_true h:n ≥ 1),Bool.true_and]
 ·rw [facOk,decide_eq_false (of_decide_eq_false h:¬ n ≥ 1),Bool.false_and]
def payOk (r:RQ):Bool:=r.ok && (decide (r.p*1000000 % r.q=0) && (decide (0≤r.p) && decide (r.p≤1000000000*r.q)))
theorem bil_ok:(RQ.of 1000000000 1).ok=true:=by decide
theorem bil_in:(RQ.of 1000000000 1).In:=⟨Nat.lt_of_lt_of_le (by decide:1000000000 < 18446744073709551616) two64,Nat.lt_of_lt_of_le (by decide:1 < 18446744073709551616) two64⟩
theorem sgn_ge (x:Int):decide (sgn x ≥ 0)=decide (0≤x):=by
 rw [Bool.eq_iff_iff];simp only [decide_eq_true_eq];unfold sgn;split
 ·omega
 ·split<;>omega
theorem cmpI_le (x y:Int):decide (cmpI x y≤0)=decide (x≤y):=by
 rw [Bool.eq_iff_iff];simp only [decide_eq_true_eq];unfold cmpI;split
 ·omega
 ·split<;>omega
theorem txt_small {z:Int} (h:z.natAbs≤1000000000000000):(txtZ z 6).2=0:=by
 have h1:=fmtN_len (k:=16) (N:=z.natAbs) (by omega) (by show z.natAbs < 10000000000000000;omega)
 unfold txtZ
 dsimp only
 have h2:(padZ 6 (fmtN z.natAbs)).length≤16:=by
  unfold padZ;split
  ·simp only [List.length_append,List.length_replicate];omega
  ·omega
 rw [if_neg (by omega)]
theorem pay_txt {r:RQ} (hk:r.ok=true) (h0:0≤r.p) (h1:r.p≤1000000000*r.q):(txtQ r 6).2=if r.p*1000000 % r.q=0 then 0 else 32:=by
 unfold txtQ
 rw [hk,Bool.not_true,if_neg Bool.false_ne_true,if_neg (by omega)]
 rw [show ((tp (Int.toNat 6):Nat):Int)=1000000 from rfl,show Int.toNat 6=6 from rfl]
 by_cases h:r.p*1000000 % r.q=0
 ·rw [if_neg (by simpa using h),if_pos h]
  obtain ⟨k1,k2,k3,k4,k5⟩:=RQ.ok_bits hk
  apply txt_small
  have h3:0≤r.p*1000000 / r.q:=Int.ediv_nonneg (by omega) (by omega)
  have h4:r.p*1000000 / r.q≤1000000000000000:=by
   apply Int.ediv_le_of_le_mul k3
   omega
  omega
 ·rw [if_pos h,if_neg h]
theorem txt_inv {r:RQ} (hk:r.ok=false):(txtQ r 6).2=20:=by
 unfold txtQ
 rw [hk,Bool.not_false,if_pos rfl]
theorem pay_eq (r:RQ):((txtQ r 6).2 == 0 && (decide ((if r.ok then sgn r.p else 0) ≥ 0) && decide ((if r.ok && (RQ.of 1000000000 1).ok then cmpI (r.p*(RQ.of 1000000000 1).q) ((RQ.of 1000000000 1).p*r.q) else 0)≤0)))=payOk r:=by
 unfold payOk
 by_cases hk:r.ok=true
 ·rw [hk,bil_ok,RQ.of_p,RQ.of_q]
  simp only [Bool.and_true,if_true,Bool.true_and,sgn_ge,cmpI_le,Int.mul_one]
  by_cases h0:0≤r.p
  ·by_cases h1:r.p≤1000000000*r.q
   ·rw [pay_txt hk h0 h1]
    by_cases h:r.p*1000000 % r.q=0
    ·rw [if_pos h];simp [h]
    ·rw [if_neg h];simp [h]
   ·simp [h1]
  ·simp [h0]
 ·have hk:r.ok=false:=by simpa using hk
  rw [txt_inv hk,hk];rfl
theorem payment_z {r:RQ} (hr:r.In):Pure Tryz.prog 126 [SV.c (.agg r.A)] (.bool (payOk r)):=by
 refine sx_pure tt_ok mixed at126 _ _ rfl rfl fun w=>?_
 have hc:=cmpR_z hr bil_in
 have hw:Pure Tryz.prog 135 [SV.c (.int .i64 1000000000)] (.agg (RQ.of 1000000000 1).A):=whole1_z (by omega) (by omega)
 rw [← pay_eq]
 generalize (if r.ok && (RQ.of 1000000000 1).ok then cmpI (r.p*(RQ.of 1000000000 1).q) ((RQ.of 1000000000 1).p*r.q) else 0)=hi at *
 refine ⟨r.A_size,.inl ⟨_,text_z hr 6,.inl ⟨_,signR_z hr,.inl ⟨_,hw,.inl ⟨_,hc,by kernel_rfl,fun h=>⟨fun h2=>⟨bv ?_,trivial⟩,fun h2=>⟨bv ?_,trivial⟩⟩,fun h=>⟨nofun,fun _=>⟨bv ?_,trivial⟩⟩⟩⟩⟩⟩⟩
 ·have h:((txtQ r 6).2 == 0)=true:=h
  have h2:decide ((if r.ok then sgn r.p else 0) ≥ 0)=true:=h2
  rw [h,h2,Bool.true_and,Bool.true_and]
 ·have h2:decide ((if r.ok then sgn r.p else 0) ≥ 0)=false:=h2
  rw [h2,Bool.false_and,Bool.and_false]
 ·have h:((txtQ r 6).2 == 0)=false:=h
  rw [h,Bool.false_and]
structure AC where
 kind:Int
 key:List UInt8
 ins:List UInt8
 into:List UInt8
 day:Int
 num:Int
 den:Int
 cash:RQ
 cur:List UInt8
 known:Int
 void:Bool
def AC.pre (a:AC):Array Value:=#[.int .i64 a.kind,.string (S a.key),.string (S a.ins),.string (S a.into),.int .i64 a.day,.int .i64 a.num,.int .i64 a.den]
def AC.post (a:AC):Array Value:=#[.string (S a.cur),.int .i64 a.known,.bool a.void]
def AC.A (a:AC):Array Value:=a.pre++(a.cash.A++a.post)
structure AC.In (a:AC):Prop where
 cash:a.cash.In
 key:a.key.length≤9223372036854775807
 ins:a.ins.length≤9223372036854775807
 into:a.into.length≤9223372036854775807
 cur:a.cur.length≤9223372036854775807
 num : -9223372036854775808≤a.num∧a.num≤9223372036854775807
 den : -9223372036854775808≤a.den∧a.den≤9223372036854775807
theorem AC.size (a:AC):a.A.size=76:=by simp [AC.A,AC.pre,AC.post,RQ.A_size]
theorem AC.fits (a:AC):Fits a.A 76:=⟨a.size,by
 rw [AC.A,Array.all_append,Array.all_append,a.cash.A_fits.one]
 simp [AC.pre,AC.post,Value.oneCell']⟩
theorem AC.at_pre (a:AC) {i:Nat} (h:i < 7):a.A[i]? = a.pre[i]?:=by
 rw [AC.A,Array.getElem?_append_left (by simpa [AC.pre] using h)]
theorem AC.at_post (a:AC) {i:Nat} (h:73≤i):a.A[i]? = a.post[i - 73]?:=by
 rw [AC.A,Array.getElem?_append_right (by simp [AC.pre];omega),Array.getElem?_append_right (by simp [AC.pre,RQ.A_size];omega)]
 simp only [AC.pre,RQ.A_size]
 congr 1
theorem AC.g0 (a:AC):a.A[0]? = some (.int .i64 a.kind):=(a.at_pre (by omega)).trans rfl
theorem AC.g1 (a:AC):a.A[1]? = some (.string (S a.key)):=(a.at_pre (by omega)).trans rfl
theorem AC.g2 (a:AC):a.A[2]? = some (.string (S a.ins)):=(a.at_pre (by omega)).trans rfl
theorem AC.g3 (a:AC):a.A[3]? = some (.string (S a.into)):=(a.at_pre (by omega)).trans rfl
theorem AC.g4 (a:AC):a.A[4]? = some (.int .i64 a.day):=(a.at_pre (by omega)).trans rfl
theorem AC.g5 (a:AC):a.A[5]? = some (.int .i64 a.num):=(a.at_pre (by omega)).trans rfl
theorem AC.g6 (a:AC):a.A[6]? = some (.int .i64 a.den):=(a.at_pre (by omega)).trans rfl
theorem AC.g73 (a:AC):a.A[73]? = some (.string (S a.cur)):=(a.at_post (by omega)).trans rfl
theorem AC.g74 (a:AC):a.A[74]? = some (.int .i64 a.known):=(a.at_post (by omega)).trans rfl
theorem AC.g75 (a:AC):a.A[75]? = some (.bool a.void):=(a.at_post (by omega)).trans rfl
theorem ext_mid {X Y Z:Array Value} {i n:Nat} (hX:X.size=i) (hY:Y.size=n):(X++(Y++Z)).extract i (i+n)=Y:=by
 apply Array.ext_getElem?
 intro j
 rw [Array.getElem?_extract]
 by_cases hj:j < n
 ·rw [if_pos (by simp;omega),Array.getElem?_append_right (by omega),Array.getElem?_append_left (by omega)]
  congr 1;omega
 ·rw [if_neg (by simp;omega),Array.getElem?_eq_none (by omega)]
theorem AC.gcash (a:AC):a.A.extract 7 (7+66)=a.cash.A:=ext_mid rfl a.cash.A_size
theorem AC.gnum (a:AC):a.A.extract 7 (7+33)=iA a.cash.a a.cash.N:=by
 rw [AC.A,RQ.A,Array.append_assoc]
 exact ext_mid rfl (iA_size _ _)
def RQ.beq (r s:RQ):Bool:=(r.a == s.a && (decide (r.N=s.N) && true)) && ((r.b == s.b && (decide (r.D=s.D) && true)) && true)
theorem RQ.beq_iff (r s:RQ):r.beq s=true↔r=s:=by
 obtain ⟨a,N,b,D⟩:=r
 obtain ⟨a',N',b',D'⟩:=s
 simp [RQ.beq]
 constructor
 ·rintro ⟨⟨h1,h2⟩,h3,h4⟩;exact ⟨h1,h2,h3,h4⟩
 ·rintro ⟨h1,h2,h3,h4⟩;exact ⟨⟨h1,h2⟩,h3,h4⟩
theorem eq_ratio_raw {d:Nat} {r s:RQ} (hr:r.In) (hs:s.In) (w:World):(Op.equalIn (d+1+1+1+1) 59 (.agg r.A) (.agg s.A)).run Tryz.prog w=.ok (r.beq s) w:=by
 rw [run_equalIn_struct w (d+1+1+1) 59 _ _ (by simp only [Program.fieldsOf,Tryz.underlying59]) (by kernel_rfl)]
 rw [show (Tryz.prog.fieldsOf 59).toList=[⟨ "Num",57,0,false,"","",0⟩,⟨ "Den",57,33,false,"","",132⟩] from by simp only [Program.fieldsOf,Tryz.underlying59]]
 refine eqF_cons (a:=.agg (iA r.a r.N)) (b:=.agg (iA s.a s.N)) (by decide) ?_ ?_ (eq_int_raw hr.N hs.N w) fun _=>?_
 ·rw [part_agg tok57 rfl _ _ w];exact congrArg (fun x=>Result.ok (Value.agg x) w) r.cat_l
 ·rw [part_agg tok57 rfl _ _ w];exact congrArg (fun x=>Result.ok (Value.agg x) w) s.cat_l
 refine eqF_cons (a:=.agg (iA r.b r.D)) (b:=.agg (iA s.b s.D)) (by decide) ?_ ?_ (eq_int_raw hr.D hs.D w) fun _=>eqF_nil
 ·rw [part_agg tok57 rfl _ _ w];exact congrArg (fun x=>Result.ok (Value.agg x) w) r.cat_r
 ·rw [part_agg tok57 rfl _ _ w];exact congrArg (fun x=>Result.ok (Value.agg x) w) s.cat_r
theorem guard_ratio:Tryz.prog.eqGuardType Tryz.prog.depth 59=false:=by kernel_rfl
theorem neq_ratio {E:Env} (hE:E.P=Tryz.prog) {r s:RQ} (hr:r.In) (hs:s.In) {u v:Operand}:Runs E (do eqGuard .neq 59 u v (.agg r.A) (.agg s.A);binOp .neq 59 (.agg r.A) (.agg s.A)) (.bool (!(r.beq s))) :=
 runs_neq (by rw [hE];exact guard_ratio) fun w=>by rw [hE];exact eq_ratio_raw hr hs w
def AC.beq (a b:AC):Bool:=(a.kind == b.kind) && (decide (a.key=b.key) && (decide (a.ins=b.ins) && (decide (a.into=b.into) && ((a.day == b.day) && ((a.num == b.num) && ((a.den == b.den) && (a.cash.beq b.cash && (decide (a.cur=b.cur) && ((a.known == b.known) && ((a.void == b.void) && true))))))))))
theorem eq_int64 {d:Nat} (t:TypeId) (ht:Tryz.prog.underlying t=some (.int .i64)) (x y:Int) (w:World):(Op.equalIn (d+1) t (.int .i64 x) (.int .i64 y)).run Tryz.prog w=.ok (x == y) w:=run_equalIn_int w d t _ _ _ _ ht
theorem eq_str {d:Nat} (x y:List UInt8) (w:World):(Op.equalIn (d+1) 9 (.string (S x)) (.string (S y))).run Tryz.prog w=.ok (decide (x=y)) w:=by
 rw [← S_beq];exact run_equalIn_string w d 9 _ _ Tryz.underlying9
theorem eq_action_raw {d:Nat} {a b:AC} (ha:a.cash.In) (hb:b.cash.In) (w:World):(Op.equalIn (d+1+1+1+1+1) 61 (.agg a.A) (.agg b.A)).run Tryz.prog w=.ok (a.beq b) w:=by
 rw [run_equalIn_struct w (d+1+1+1+1) 61 _ _ (by simp only [Program.fieldsOf,Tryz.underlying61]) (by kernel_rfl)]
 rw [show (Tryz.prog.fieldsOf 61).toList=[⟨ "Kind",3,0,false,"","",0⟩,⟨ "Key",9,1,false,"","",8⟩,⟨ "Instrument",9,2,false,"","",24⟩,⟨ "Into",9,3,false,"","",40⟩,⟨ "Day",3,4,false,"","",56⟩,⟨ "Num",3,5,false,"","",64⟩,⟨ "Den",3,6,false,"","",72⟩,⟨ "Cash",59,7,false,"","",80⟩,⟨ "Currency",9,73,false,"","",344⟩,⟨ "Known",3,74,false,"","",360⟩,⟨ "Void",4,75,false,"","",368⟩] from by simp only [Program.fieldsOf,Tryz.underlying61]]
 refine eqF_cons (by decide) (part_cell tok3 rfl a.g0 w) (part_cell tok3 rfl b.g0 w) (eq_int64 _ Tryz.underlying3 _ _ w) fun _=>?_
 refine eqF_cons (by decide) (part_cell tok9 rfl a.g1 w) (part_cell tok9 rfl b.g1 w) (eq_str _ _ w) fun _=>?_
 refine eqF_cons (by decide) (part_cell tok9 rfl a.g2 w) (part_cell tok9 rfl b.g2 w) (eq_str _ _ w) fun _=>?_
 refine eqF_cons (by decide) (part_cell tok9 rfl a.g3 w) (part_cell tok9 rfl b.g3 w) (eq_str _ _ w) fun _=>?_
 refine eqF_cons (by decide) (part_cell tok3 rfl a.g4 w) (part_cell tok3 rfl b.g4 w) (eq_int64 _ Tryz.underlying3 _ _ w) fun _=>?_
 refine eqF_cons (by decide) (part_cell tok3 rfl a.g5 w) (part_cell tok3 rfl b.g5 w) (eq_int64 _ Tryz.underlying3 _ _ w) fun _=>?_
 refine eqF_cons (by decide) (part_cell tok3 rfl a.g6 w) (part_cell tok3 rfl b.g6 w) (eq_int64 _ Tryz.underlying3 _ _ w) fun _=>?_
 refine eqF_cons (a:=.agg a.cash.A) (b:=.agg b.cash.A) (by decide) ?_ ?_ (eq_ratio_raw ha hb w) fun _=>?_
 ·rw [part_agg tok59 rfl _ _ w];exact congrArg (fun x=>Result.ok (Value.agg x) w) a.gcash
 ·rw [part_agg tok59 rfl _ _ w];exact congrArg (fun x=>Result.ok (Value.agg x) w) b.gcash
 refine eqF_cons (by decide) (part_cell tok9 rfl a.g73 w) (part_cell tok9 rfl b.g73 w) (eq_str _ _ w) fun _=>?_
 refine eqF_cons (by decide) (part_cell tok3 rfl a.g74 w) (part_cell tok3 rfl b.g74 w) (eq_int64 _ Tryz.underlying3 _ _ w) fun _=>?_
 refine eqF_cons (by decide) (part_cell tok4 rfl a.g75 w) (part_cell tok4 rfl b.g75 w) (run_equalIn_bool' w _ 4 _ _ Tryz.underlying4) fun _=>eqF_nil
theorem guard_action:Tryz.prog.eqGuardType Tryz.prog.depth 61=false:=by kernel_rfl
theorem eql_action {E:Env} (hE:E.P=Tryz.prog) {a b:AC} (ha:a.cash.In) (hb:b.cash.In) {u v:Operand}:Runs E (do eqGuard .eql 61 u v (.agg a.A) (.agg b.A);binOp .eql 61 (.agg a.A) (.agg b.A)) (.bool (a.beq b)) :=
 runs_eql (by rw [hE];exact guard_action) fun w=>by rw [hE];exact eq_action_raw ha hb w
def AC.nil (key:List UInt8) (known:Int):AC:=⟨0,key,[],[],0,0,0,⟨false,0,false,0⟩,[],known,true⟩
theorem fill_void (key:List UInt8) (known:Int) {pl:List (Nat×Nat)} (hpl:pl=[(0,1),(1,1),(2,1),(3,1),(4,1),(5,1),(6,1),(7,66),(73,1),(74,1),(75,1)]):Instr.fill (fun k=>pl[k]?) ti61.zero [(1,.string (S key)),(9,.int .i64 known),(10,.bool true)]=some (AC.nil key known).A:=by
 subst hpl
 kernel_rfl
theorem fill_one1 {A Z:Array Value} {n:Nat} (hA:A.size=n) (hZ:Z.size=n) {pl:List (Nat×Nat)} (hpl:pl=[(0,n)]):Instr.fill (fun k=>pl[k]?) Z [(0,.agg A)]=some A:=by
 subst hpl
 have:=fill_all (pl:=fun k=>[(0,n)][k]?) (vs:=[.agg A]) (Z:=Z) ⟨by simp [Value.cells,hA],trivial⟩ (by simp [catV,Value.cells,hA,hZ])
 rw [show catV [.agg A]=A by simp [catV,Value.cells]] at this
 exact this
def insOk (l:List UInt8):Bool:=capAll true l && (decide (1≤l.length) && decide (l.length≤12))
def curOk (l:List UInt8):Bool:=capAll false l && (decide ((3:Int)≤l.length) && decide ((l.length:Int)≤3))
def hdrOk (a:AC):Bool:=!(((a.key.length:Nat):Int) == 0) && (!decide (((a.key.length:Nat):Int) > 64) && (!decide (a.known < 1) && !decide (a.known > 2147483647)))
def bodyOk (a:AC):Bool:=insOk a.ins && (!decide (a.day < 0) && (!decide (a.day > 73048) && (payOk a.cash && curOk a.cur)))
def kindOk (a:AC):Bool :=
 if a.kind=1 then decide (a.into=[]) && (facOk a.num && facOk a.den)
 else if a.kind=2 then decide (a.into=[]) && ((a.num == 0) && ((a.den == 0) && decide (sgn a.cash.p > 0)))
 else if a.kind=3 then insOk a.into && (!decide (a.into=a.ins) && (facOk a.num && facOk a.den))
 else false
def validA (a:AC):Bool:=hdrOk a && (if a.void then a.beq (.nil a.key a.known) else bodyOk a && kindOk a)
theorem nil_in:(⟨false,0,false,0⟩:RQ).In:=⟨zero_lt,zero_lt⟩
theorem valid_z {a:AC} (ha:a.In):Pure Tryz.prog 86 [SV.c (.agg a.A)] (.bool (validA a)):=by
 refine sx_pure tt_ok mixed at86 _ _ rfl rfl fun w=>?_
 have no:hdrOk a=false→mkRes [.bool false]=.bool (validA a):=fun h=>by rw [validA,h];rfl
 have len:∀ (E:Env),E.P=Tryz.prog→∀ (ty:TypeId) (l:List UInt8) (cs:Array Bool) (w:World),OldW E w→(builtin .len #[9] ty cs #[.string (S l)]).run E.P w=.ok (.value (.int .i64 (l.length:Nat))) w:=fun E hE ty l cs w _=>by rw [hE];exact run_len_S Tryz.underlying9 w
 refine ⟨a.size,a.fits,_,a.g1,_,len _ rfl _ _ _,fun h1=>⟨_,a.g1,_,len _ rfl _ _ _,fun h2=>⟨_,a.g74,fun h3=>⟨_,a.g74,fun h4=>?_,fun h4=>?_⟩,fun h3=>?_⟩,fun h2=>?_⟩,fun h1=>?_⟩
 ·have h4:decide (a.known > 2147483647)=true:=h4
  refine ⟨no ?_,trivial⟩
  rw [hdrOk,h4];simp
 ·have h1:(((a.key.length:Nat):Int) == 0)=false:=h1
  have h2:decide (((a.key.length:Nat):Int) > 64)=false:=h2
  have h3:decide (a.known < 1)=false:=h3
  have h4:decide (a.known > 2147483647)=false:=h4
  have hh:hdrOk a=true:=by rw [hdrOk,h1,h2,h3,h4];rfl
  have va:validA a=(if a.void then a.beq (.nil a.key a.known) else bodyOk a && kindOk a):=by rw [validA,hh,Bool.true_and]
  rw [va]
  refine ⟨_,a.g75,fun h5=>?_,fun h5=>?_⟩
  ·have h5:a.void=true:=h5
   rw [if_pos h5]
   exact ⟨_,a.g1,_,a.g74,_,fill_void a.key a.known rfl,_,eql_action rfl ha.cash nil_in,rfl,trivial⟩
  ·have h5:¬ (a.void=true):=by intro e;rw [e] at h5;cases h5
   rw [if_neg h5]
   have nob:bodyOk a=false→mkRes [.bool false]=.bool (bodyOk a && kindOk a):=fun h=>by rw [h];rfl
   have hp:=payment_z ha.cash
   have hc:=capitals_z a.cur 3 3 false ha.cur
   have hi:Pure Tryz.prog 125 [SV.c (.string (S a.ins))] (.bool (insOk a.ins)):=instrument_z a.ins ha.ins
   have hi2:Pure Tryz.prog 125 [SV.c (.string (S a.into))] (.bool (insOk a.into)):=instrument_z a.into ha.into
   have hc:Pure Tryz.prog 127 [SV.c (.string (S a.cur)),SV.c (.int .i64 3),SV.c (.int .i64 3),SV.c (.bool false)] (.bool (curOk a.cur)):=hc
   have hs:=sign_z ha.cash.num
   refine ⟨_,a.g2,.inl ⟨_,hi,fun q1=>⟨_,a.g4,fun q2=>⟨_,a.g4,fun q3=>⟨by decide,_,a.gcash,.inl ⟨_,hp,fun q4=>⟨_,a.g73,.inl ⟨_,hc,fun q5=>?_,fun q5=>?_⟩⟩,fun q4=>?_⟩⟩,fun q3=>?_⟩,fun q2=>?_⟩,fun q1=>?_⟩⟩
   ·have q5:curOk a.cur=false:=bnt q5
    refine ⟨nob ?_,trivial⟩
    rw [bodyOk,q5];simp
   ·have q1:insOk a.ins=true:=of_bnf q1
    have q2:decide (a.day < 0)=false:=q2
    have q3:decide (a.day > 73048)=false:=q3
    have q4:payOk a.cash=true:=of_bnf q4
    have q5:curOk a.cur=true:=of_bnf q5
    have hb:bodyOk a=true:=by rw [bodyOk,q1,q2,q3,q4,q5];rfl
    rw [hb,Bool.true_and]
    have ein:((S a.into).toList == (S []).toList)=decide (a.into=[]):=S_beq _ []
    have ens:((S a.into).toList == (S a.ins).toList)=decide (a.into=a.ins):=S_beq _ _
    refine ⟨_,a.g0,fun k1=>⟨_,a.g3,fun k2=>⟨_,a.g5,.inl ⟨_,factor_z _,fun k3=>⟨_,a.g6,.inl ⟨_,factor_z _,bv ?_,trivial⟩⟩,fun k3=>⟨bv ?_,trivial⟩⟩⟩,fun k2=>⟨nofun,fun _=>⟨bv ?_,trivial⟩⟩⟩,fun k1=>⟨fun m1=>⟨_,a.g3,fun k2=>⟨_,a.g5,fun k3=>⟨_,a.g6,fun k4=>⟨by decide,_,a.gnum,.inl ⟨_,hs,bv ?_,trivial⟩⟩,fun k4=>⟨bv ?_,trivial⟩⟩,fun k3=>⟨nofun,fun _=>⟨bv ?_,trivial⟩⟩⟩,fun k2=>⟨nofun,fun _=>⟨nofun,fun _=>⟨bv ?_,trivial⟩⟩⟩⟩,fun m1=>⟨fun n1=>⟨_,a.g3,.inl ⟨_,hi2,fun k2=>⟨_,a.g3,_,a.g2,fun k3=>⟨_,a.g5,.inl ⟨_,factor_z _,fun k4=>⟨_,a.g6,.inl ⟨_,factor_z _,bv ?_,trivial⟩⟩,fun k4=>⟨bv ?_,trivial⟩⟩⟩,fun k3=>⟨nofun,fun _=>⟨bv ?_,trivial⟩⟩⟩,fun k2=>⟨nofun,fun _=>⟨nofun,fun _=>⟨bv ?_,trivial⟩⟩⟩⟩⟩,fun n1=>⟨bv ?_,trivial⟩⟩⟩⟩
    ·have k2:=ein.symm.trans k2
     have k1:a.kind=1:=by simpa using k1
     have k3:facOk a.num=true:=k3
     rw [kindOk,if_pos k1,k2,k3,Bool.true_and,Bool.true_and]
    ·have k2:=ein.symm.trans k2
     have k1:a.kind=1:=by simpa using k1
     have k3:facOk a.num=false:=k3
     rw [kindOk,if_pos k1,k3,Bool.false_and,Bool.and_false]
    ·have k2:=ein.symm.trans k2
     have k1:a.kind=1:=by simpa using k1
     rw [kindOk,if_pos k1,k2];rfl
    ·have k2:=ein.symm.trans k2
     have k1:¬ a.kind=1:=by intro e;rw [e] at k1;simp at k1
     have m1:a.kind=2:=by simpa using m1
     have k3:(a.num == 0)=true:=k3
     have k4:(a.den == 0)=true:=k4
     rw [kindOk,if_neg k1,if_pos m1,k2,k3,k4,Bool.true_and,Bool.true_and,Bool.true_and]
    ·have k1:¬ a.kind=1:=by intro e;rw [e] at k1;simp at k1
     have m1:a.kind=2:=by simpa using m1
     have k4:(a.den == 0)=false:=k4
     rw [kindOk,if_neg k1,if_pos m1,k4,Bool.false_and,Bool.and_false,Bool.and_false]
    ·have k1:¬ a.kind=1:=by intro e;rw [e] at k1;simp at k1
     have m1:a.kind=2:=by simpa using m1
     have k3:(a.num == 0)=false:=k3
     rw [kindOk,if_neg k1,if_pos m1,k3,Bool.false_and,Bool.and_false]
    ·have k2:=ein.symm.trans k2
     have k1:¬ a.kind=1:=by intro e;rw [e] at k1;simp at k1
     have m1:a.kind=2:=by simpa using m1
     rw [kindOk,if_neg k1,if_pos m1,k2];rfl
    ·have k1:¬ a.kind=1:=by intro e;rw [e] at k1;simp at k1
     have m1:¬ a.kind=2:=by intro e;rw [e] at m1;simp at m1
     have n1:a.kind=3:=by simpa using n1
     have k2:insOk a.into=true:=k2
     have k3:=bnt (ens ▸ k3)
     have k4:facOk a.num=true:=k4
     rw [kindOk,if_neg k1,if_neg m1,if_pos n1,k2,k3,k4];rfl
    ·have k1:¬ a.kind=1:=by intro e;rw [e] at k1;simp at k1
     have m1:¬ a.kind=2:=by intro e;rw [e] at m1;simp at m1
     have n1:a.kind=3:=by simpa using n1
     have k4:facOk a.num=false:=k4
     rw [kindOk,if_neg k1,if_neg m1,if_pos n1,k4,Bool.false_and,Bool.and_false,Bool.and_false]
    ·have k1:¬ a.kind=1:=by intro e;rw [e] at k1;simp at k1
     have m1:¬ a.kind=2:=by intro e;rw [e] at m1;simp at m1
     have n1:a.kind=3:=by simpa using n1
     have k3:=of_bnf (ens ▸ k3)
     rw [kindOk,if_neg k1,if_neg m1,if_pos n1,k3,Bool.not_true,Bool.false_and,Bool.and_false]
    ·have k1:¬ a.kind=1:=by intro e;rw [e] at k1;simp at k1
     have m1:¬ a.kind=2:=by intro e;rw [e] at m1;simp at m1
     have n1:a.kind=3:=by simpa using n1
     have k2:insOk a.into=false:=k2
     rw [kindOk,if_neg k1,if_neg m1,if_pos n1,k2];rfl
    ·have k1:¬ a.kind=1:=by intro e;rw [e] at k1;simp at k1
     have m1:¬ a.kind=2:=by intro e;rw [e] at m1;simp at m1
     have n1:¬ a.kind=3:=by intro e;rw [e] at n1;simp at n1
     rw [kindOk,if_neg k1,if_neg m1,if_neg n1]
   ·have q4:payOk a.cash=false:=bnt q4
    refine ⟨fun _=>⟨nob ?_,trivial⟩,nofun⟩
    rw [bodyOk,q4];simp
   ·have q3:decide (a.day > 73048)=true:=q3
    refine ⟨nofun,fun _=>⟨fun _=>⟨nob ?_,trivial⟩,nofun⟩⟩
    rw [bodyOk,q3];simp
   ·have q2:decide (a.day < 0)=true:=q2
    refine ⟨nofun,fun _=>⟨nofun,fun _=>⟨fun _=>⟨nob ?_,trivial⟩,nofun⟩⟩⟩
    rw [bodyOk,q2];simp
   ·have q1:insOk a.ins=false:=bnt q1
    refine ⟨nofun,fun _=>⟨nofun,fun _=>⟨nofun,fun _=>⟨fun _=>⟨nob ?_,trivial⟩,nofun⟩⟩⟩⟩
    rw [bodyOk,q1];rfl
 ·have h3:decide (a.known < 1)=true:=h3
  refine ⟨fun _=>⟨no ?_,trivial⟩,nofun⟩
  rw [hdrOk,h3];simp
 ·have h2:decide (((a.key.length:Nat):Int) > 64)=true:=h2
  refine ⟨nofun,fun _=>⟨fun _=>⟨no ?_,trivial⟩,nofun⟩⟩
  rw [hdrOk,h2];simp
 ·have h1:(((a.key.length:Nat):Int) == 0)=true:=h1
  refine ⟨nofun,fun _=>⟨nofun,fun _=>⟨fun _=>⟨no ?_,trivial⟩,nofun⟩⟩⟩
  rw [hdrOk,h1];simp
def AC.zero:AC:=⟨0,[],[],[],0,0,0,⟨false,0,false,0⟩,[],0,false⟩
def ofA (a:AC):AC×Int:=if a.void || !validA a then (.zero,170) else (a,0)
theorem zero_eff:ti147.zero=AC.zero.A:=by kernel_rfl
theorem zero_size:ti147.zero.size=76:=by kernel_rfl
theorem zero_size2:ti138.zero.size=76:=by kernel_rfl
theorem of_a {a:AC} (ha:a.In):Pure Tryz.prog 94 [SV.c (.agg a.A)] (.tuple #[.agg (ofA a).1.A,.int .i64 (ofA a).2]):=by
 refine sx_pure tt_ok mixed at94 _ _ rfl rfl fun w=>?_
 have bad:a.void=true∨validA a=false→mkRes [.agg ti147.zero,.int .i64 170]=.tuple #[.agg (ofA a).1.A,.int .i64 (ofA a).2]:=fun h=>by
  have:ofA a=(.zero,170):=by
   unfold ofA
   rcases h with h | h<;>rw [h]<;>simp
  rw [this,zero_eff];rfl
 refine ⟨a.size,_,fill_one1 a.size zero_size2 rfl,a.fits,_,a.g75,fun h1=>.inl ⟨_,valid_z ha,fun h2=>⟨ti147.zero,rfl,by rw [zero_eff];exact AC.zero.fits,bad (.inr (bnt h2)),trivial⟩,fun h2=>⟨_,fill_one1 a.size zero_size rfl,a.fits,?_,trivial⟩⟩,fun h1=>⟨fun _=>⟨ti147.zero,rfl,by rw [zero_eff];exact AC.zero.fits,bad (.inl h1),trivial⟩,nofun⟩⟩
 have h1:a.void=false:=h1
 have h2:=bnf h2
 have:ofA a=(a,0):=by unfold ofA;rw [h1,h2];simp
 rw [this];rfl
def intoA (a:AC):List UInt8:=if a.kind=3 then a.into else a.ins
theorem into_z (a:AC):Pure Tryz.prog 99 [SV.c (.agg a.A)] (.string (S (intoA a))):=by
 refine sx_pure tt_ok mixed at99 _ _ rfl rfl fun w=>?_
 refine ⟨a.size,_,a.g0,fun h=>⟨_,a.g3,?_,trivial⟩,fun h=>⟨_,a.g2,?_,trivial⟩⟩
 ·have h:a.kind=3:=by simpa using h
  rw [intoA,if_pos h];rfl
 ·have h:¬ a.kind=3:=by intro e;rw [e] at h;simp at h
  rw [intoA,if_neg h];rfl
def pieQ (a:AC) (q:Int):Int:=if a.kind=2 then q else q*a.num / a.den
def paidQ (a:AC) (q:Int):RQ:=if a.kind=2 then .of q 1 else (mkQ (q*a.num % a.den) a.den).1
theorem paidQ_in (a:AC) {q:Int} (h0:0≤q) (h1:q≤1000000000000000):(paidQ a q).In:=by
 unfold paidQ;split
 ·exact ⟨i64_lt (by omega) (by omega),i64_lt (n:=1) (by omega) (by omega)⟩
 ·exact mkQ_in _ _
theorem pieces_z {a:AC} {q:Int} (h0:0≤q) (h1:q≤1000000000000000) (hk:a.kind=2∨(1≤a.num∧a.num≤1000000∧1≤a.den∧a.den≤1000000)):Pure Tryz.prog 95 [SV.c (.agg a.A),SV.c (.int .i64 q)] (.tuple #[.agg (eA (pieQ a q)),.agg (paidQ a q).A]):=by
 refine sx_pure tt_ok mixed at95 _ _ rfl rfl fun w=>?_
 have hq:=fromInt_z q (by omega) (by omega)
 refine ⟨a.size,.inl ⟨_,hq,eA_fits _,_,a.g0,fun h=>?_,fun h=>?_⟩⟩
 ·have h:a.kind=2:=by simpa using h
  rw [pieQ,paidQ,if_pos h,if_pos h]
  exact .inl ⟨_,whole1_z (by omega) (by omega),eA_fits _,RQ.A_fits _,by kernel_rfl,rfl,trivial⟩
 ·have h:¬ a.kind=2:=by intro e;rw [e] at h;simp at h
  rw [pieQ,paidQ,if_neg h,if_neg h]
  obtain ⟨n1,n2,d1,d2⟩:=hk.resolve_left h
  have hn:=fromInt_z a.num (by omega) (by omega)
  have hd:=fromInt_z a.den (by omega) (by omega)
  have hb:0≤q*a.num∧q*a.num≤1000000000000000*1000000:=⟨Int.mul_nonneg h0 (by omega),Int.mul_le_mul h1 n2 (by omega) (by omega)⟩
  have big:1000000000000000000000 < BB ^ 32:=Nat.lt_of_lt_of_le (by decide:1000000000000000000000 < BB ^ 3) (Nat.pow_le_pow_right BB_pos (by omega))
  have hm:=mul_z (isI_e (i64_lt (n:=q) (by omega) (by omega))) (isI_e (i64_lt (n:=a.num) (by omega) (by omega)))
  rw [fitR,if_pos (by omega)] at hm
  have hdd:=isI_e (i64_lt (n:=a.den) (by omega) (by omega))
  have hdm:=divmod_z (isI_e (z:=q*a.num) (by omega)) hdd (by omega)
  have hr:(q*a.num % a.den).natAbs < BB ^ 32:=by
   have:=Int.emod_nonneg (q*a.num) (show a.den≠0 by omega)
   have:=Int.emod_lt_of_pos (q*a.num) (show 0 < a.den by omega)
   omega
  have hmk:=make_z (isI_e hr) hdd
  exact ⟨_,a.g5,.inl ⟨_,hn,.inl ⟨_,hm,eA_fits _,by kernel_rfl,_,a.g6,.inl ⟨_,hd,.inl ⟨_,hdm,eA_fits _,eA_fits _,by kernel_rfl,_,a.g6,.inl ⟨_,hd,.inl ⟨_,hmk,RQ.A_fits _,by kernel_rfl,eA_fits _,RQ.A_fits _,by kernel_rfl,rfl,trivial⟩⟩⟩⟩⟩⟩⟩
end Go.Proofs.YtkaakbpeegpnkaaGreatDoor
