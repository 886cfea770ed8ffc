/- walks: the text of a whole number; no condition. -/
import Derived.Test.YtofllflnmmjijaaGreatDoorP15
set_option maxRecDepth 100000
set_option maxHeartbeats 4000000
namespace Go.Proofs.YtofllflnmmjijaaGreatDoor
open Go Go.RowKit Go.SX
def bA (f:Nat→Nat) (n:Nat):Array Value:=((List.range n).map fun i=>Value.int .u8 ((f i:Nat):Int)).toArray
theorem bA_size (f:Nat→Nat) (n:Nat):(bA f n).size=n:=by simp [bA]
theorem bA_get (f:Nat→Nat) {n i:Nat} (h:i < n):(bA f n)[i]? = some (.int .u8 ((f i:Nat):Int)):=by simp [bA,h]
theorem bA_set (f:Nat→Nat) (n k v:Nat):(bA f n).setIfInBounds k (.int .u8 ((v:Nat):Int))=bA (fun x=>if x=k then v else f x) n:=by
 apply Array.ext_getElem?
 intro i
 by_cases hi:i < n
 ·rw [bA_get _ hi]
  by_cases e:i=k
  ·subst e;rw [Array.getElem?_setIfInBounds_self_of_lt (by rw [bA_size];exact hi)];simp
  ·rw [Array.getElem?_setIfInBounds_ne (fun h=>e h.symm),bA_get _ hi,if_neg e]
 ·rw [Array.getElem?_eq_none (by simp [bA_size];omega),Array.getElem?_eq_none (by simp [bA_size];omega)]
def Has (l:List UInt8) (f:Nat→Nat):Prop:=∀ i,i < l.length→f i=(l.getD i 0).toNat
theorem Has.push {l:List UInt8} {f:Nat→Nat} (h:Has l f) (b:UInt8):Has (l++[b]) (fun x=>if x=l.length then b.toNat else f x):=fun i hi=>by
 rw [List.length_append,List.length_singleton] at hi
 by_cases e:i=l.length
 ·subst e;simp
 ·simp only [if_neg e]
  rw [h i (by omega),List.getD_eq_getElem?_getD,List.getD_eq_getElem?_getD,List.getElem?_append_left (by omega)]
theorem bA_put {G:Nat→Nat} {n i v:Nat} {x y:Int} (hx:x=(i:Nat)) (hy:y=(v:Nat)):(bA G n).setIfInBounds x.toNat (.int .u8 y)=bA (fun k=>if k=i then v else G k) n:=by
 subst hx;subst hy;exact bA_set G n i v
theorem bA_push {f:Nat→Nat} {n k v:Nat} {x:Int} (hx:x=(v:Nat)):splice (bA f n) (0+k*1) ((#[Value.int .u8 x]:Array Value).extract 0 (0+1*1)).toList=bA (fun x=>if x=k then v else f x) n:=by
 subst hx
 have e:((#[Value.int .u8 ((v:Nat):Int)]:Array Value).extract 0 (0+1*1)).toList=[.int .u8 ((v:Nat):Int)]:=rfl
 rw [e,splice,splice,Nat.zero_add,Nat.mul_one,bA_set]
theorem made_bytes (n:Nat):madeCells ti5.zero n=bA (fun _=>0) n:=by
 apply Array.ext_getElem?
 intro i
 by_cases hi:i < n
 ·rw [bA_get _ hi]
  have hz:ti5.zero=#[.int .u8 0]:=rfl
  simp [madeCells,hz,hi,Nat.mod_one]
 ·rw [Array.getElem?_eq_none (by rw [size_madeCells];omega),Array.getElem?_eq_none (by rw [bA_size];omega)]
theorem sl_len {d o a b c:Nat} (h:a=b):SV.sl d o a c=SV.sl d o b c:=by rw [h]
theorem tmod10 (n:Nat):Int.tmod (n:Int) 10=((n % 10:Nat):Int):=(Int.ofNat_tmod n 10).symm
theorem tdiv10 (n:Nat):Int.tdiv (n:Int) 10=((n / 10:Nat):Int):=(Int.ofNat_tdiv n 10).symm
theorem fill_byte (v:Int):Instr.fill (fun k=>some (k*ti5.size,ti5.size)) (madeCells ti5.zero (1*ti5.size)) [(0,.int .u8 v)]=some #[.int .u8 v]:=by
 rw [made_bytes];rfl
theorem big309:BB ^ 32≤10 ^ e309:=by decide +kernel
theorem format_z {A:Array Value} {z:Int} (h:IsI A z):Pure Tryz.prog 177 [SV.c (.agg A)] (.string (fmtS z)):=by
 refine sx_pureC [14] tt_ok mixed at177 _ _ rfl rfl fun w=>?_
 have hl309:(rdig z.natAbs).length≤309:=rdig_len e309 _ (Nat.lt_of_lt_of_le h.lt big309)
 refine ⟨h.size,.inl ⟨_,split_z h,mA_fits _,by decide,by decide,by decide,⟨_,rfl,by show ((1:Nat):Int)*310≤281474976710656;decide⟩,_,made_bytes _,?_⟩⟩
 refine ⟨fun q f m=>∃ (M:Nat) (l:List UInt8) (g:Nat→Nat),q=M∧M < BB ^ 32∧l++rdig M=rdig z.natAbs∧Has l g∧f=[(3,SV.c (.bool (decide (z < 0)))),(4,SV.ptr 4 0),(5,SV.sl 15 0 l.length 310)]∧m=[(4,Blk.row 149 32 (mA M)),(15,Blk.row 5 310 (bA g 310))],z.natAbs,⟨_,_,⟨z.natAbs,[],fun _=>0,rfl,h.lt,by simp,fun i hi=>absurd hi (by simp),rfl,rfl⟩,⟨rfl,rfl,rfl,trivial⟩,⟨rfl,rfl,trivial⟩,rfl⟩,?_⟩
 rintro M f m ⟨_,l,g,rfl,hM,hd,hg,rfl,rfl⟩
 refine ⟨mA 0,some_eq mA_zero,_,neq_mag rfl hM zero_lt,fun h1=>?_,fun h1=>?_⟩
 ·have h1:M≠0:=by simpa using h1
  have hq:M / 1000000000 < BB ^ 32:=Nat.lt_of_le_of_lt (Nat.div_le_self _ _) hM
  refine .inr ⟨_,_,_,short_own (x:=1000000000) hM (by decide) (by decide) _ rfl 4,⟨rfl,trivial⟩,rfl,?_⟩
  refine ⟨fun q f m=>∃ (i R0:Nat) (l:List UInt8) (g:Nat→Nat),q=9 - i∧i≤9∧R0 < 10 ^ (9 - i)∧l++rdig (R0+M / 1000000000*10 ^ (9 - i))=rdig z.natAbs∧Has l g∧f=[(3,SV.c (.bool (decide (z < 0)))),(4,SV.ptr 4 0),(5,SV.sl 15 0 l.length 310),(6,SV.c (.int .u32 R0)),(7,SV.c (.int .i64 i))]∧m=[(4,Blk.row 149 32 (mA (M / 1000000000))),(15,Blk.row 5 310 (bA g 310))],9,⟨_,_,⟨0,M % 1000000000,l,g,rfl,by omega,by show M % 1000000000 < 1000000000;omega,by rw [← hd];congr 2;show M % 1000000000+M / 1000000000*1000000000=M;omega,hg,rfl,rfl⟩,⟨rfl,rfl,rfl,rfl,rfl,trivial⟩,⟨rfl,rfl,trivial⟩,rfl⟩,?_⟩
  rintro q f m ⟨i,R0,l,g,rfl,hi,hR,hd,hg,rfl,rfl⟩
  have hll:l.length+(rdig (R0+M / 1000000000*10 ^ (9 - i))).length≤309:=by rw [← List.length_append,hd];exact hl309
  have hpw0:0 < 10 ^ (9 - i):=Nat.pow_pos (by omega)
  have hR9:R0 < 1000000000:=Nat.lt_of_lt_of_le hR (Nat.pow_le_pow_right (show 0 < 10 by omega) (show 9 - i≤9 by omega))
  refine ⟨fun h2=>?_,fun h2=>⟨nofun,fun _=>?_⟩⟩
  ·have h2:i < 9:=by have:=of_decide_eq_true h2;omega
   have hpw:10 ^ (9 - i)=10 ^ (9 - (i+1))*10:=by rw [← Nat.pow_succ];congr 1;omega
   have hch:UInt8.ofNat (48+(R0+M / 1000000000*10 ^ (9 - i)) % 10) :: rdig ((R0+M / 1000000000*10 ^ (9 - i)) / 10)=UInt8.ofNat (48+R0 % 10) :: rdig (R0 / 10+M / 1000000000*10 ^ (9 - (i+1))):=by
    rw [hpw,← Nat.mul_assoc]
    congr 2
    ·congr 1;omega
    ·omega
   refine ⟨fun h3=>⟨mA 0,some_eq mA_zero,_,neq_mag rfl hq zero_lt,fun h4=>?_,fun h4=>?_⟩,fun h3=>⟨fun _=>?_,nofun⟩⟩
   ·have h4:M / 1000000000≠0:=by simpa using h4
    have hne:R0+M / 1000000000*10 ^ (9 - i)≠0:=by
     have:=hpw
     exact fun h0=>h4 (by have:=Nat.eq_zero_of_add_eq_zero_left h0;rcases Nat.mul_eq_zero.1 this with e | e<;>omega)
    rw [rdig_pos hne,hch] at hd hll
    rw [List.length_cons] at hll
    have hb:Int.tmod (R0:Int) 10=((R0 % 10:Nat):Int):=tmod10 R0
    have hc:IntKind.u8.wrap (IntKind.u32.wrap (48+Int.tmod (R0:Int) 10))=(((UInt8.ofNat (48+R0 % 10)).toNat:Nat):Int):=by rw [hb,digit_nat,u32_in (by omega),u8_wrap];omega
    refine ⟨by decide,by decide,by decide,_,fill_byte _,rfl,by omega,by decide,by decide,by simp [Value.oneCell'],_,bA_push hc,by decide,?_⟩
    exact ⟨9 - (i+1),_,_,by omega,⟨i+1,R0 / 10,l++[UInt8.ofNat (48+R0 % 10)],_,rfl,by omega,by rw [hpw] at hR;omega,by rw [← hd];simp,hg.push _,rfl,rfl⟩,⟨rfl,rfl,sl_len (by simp),c_int (by rw [tdiv10];exact u32_in (by omega)),c_int (by rw [i64_in (by omega)];rfl),trivial⟩,⟨rfl,rfl,trivial⟩,rfl⟩
   ·have h3:R0=0:=by have:=of_decide_eq_false h3;omega
    have h4:M / 1000000000=0:=by simpa using h4
    have hq0:R0+M / 1000000000*10 ^ (9 - i)=M / 1000000000:=by
     rw [h3,h4];simp
    rw [hq0] at hd
    exact ⟨M / 1000000000,_,_,by omega,⟨_,l,g,rfl,hq,hd,hg,rfl,rfl⟩,⟨rfl,rfl,rfl,trivial⟩,⟨rfl,rfl,trivial⟩,rfl⟩
   ·have h3:0 < R0:=by have:=of_decide_eq_true h3;omega
    have hne:R0+M / 1000000000*10 ^ (9 - i)≠0:=by
     have:=hpw
     omega
    rw [rdig_pos hne,hch] at hd hll
    rw [List.length_cons] at hll
    have hb:Int.tmod (R0:Int) 10=((R0 % 10:Nat):Int):=tmod10 R0
    have hc:IntKind.u8.wrap (IntKind.u32.wrap (48+Int.tmod (R0:Int) 10))=(((UInt8.ofNat (48+R0 % 10)).toNat:Nat):Int):=by rw [hb,digit_nat,u32_in (by omega),u8_wrap];omega
    refine ⟨by decide,by decide,by decide,_,fill_byte _,rfl,by omega,by decide,by decide,by simp [Value.oneCell'],_,bA_push hc,by decide,?_⟩
    exact ⟨9 - (i+1),_,_,by omega,⟨i+1,R0 / 10,l++[UInt8.ofNat (48+R0 % 10)],_,rfl,by omega,by rw [hpw] at hR;omega,by rw [← hd];simp,hg.push _,rfl,rfl⟩,⟨rfl,rfl,sl_len (by simp),c_int (by rw [tdiv10];exact u32_in (by omega)),c_int (by rw [i64_in (by omega)];rfl),trivial⟩,⟨rfl,rfl,trivial⟩,rfl⟩
  ·have h2:i=9:=by have:=of_decide_eq_false h2;omega
   have h3:R0=0:=by rw [h2] at hR;simp at hR;omega
   have hq0:R0+M / 1000000000*10 ^ (9 - i)=M / 1000000000:=by
    rw [h3,h2];simp
   rw [hq0] at hd
   exact ⟨M / 1000000000,_,_,by omega,⟨_,l,g,rfl,hq,hd,hg,rfl,rfl⟩,⟨rfl,rfl,rfl,trivial⟩,⟨rfl,rfl,trivial⟩,rfl⟩
 ·have h1:M=0:=by simpa using h1
  subst h1
  rw [rdig_zero,List.append_nil] at hd
  subst hd
  have hlz:(rdig z.natAbs).length=0↔z.natAbs=0:=by
   constructor
   ·intro h0
    rcases Nat.eq_zero_or_pos z.natAbs with e | e
    ·exact e
    ·rw [rdig_pos (by omega)] at h0;simp at h0
   ·intro h0;rw [h0,rdig_zero];rfl
  refine ⟨fun h2=>?_,fun h2=>?_⟩
  ·have h2:(rdig z.natAbs).length=0:=by have:(((rdig z.natAbs).length:Nat):Int)=0:=by simpa using h2
                                        omega
   have hz:z=0:=by have:=hlz.1 h2;omega
   subst hz
   exact ⟨rfl,trivial⟩
  have h2:(rdig z.natAbs).length≠0:=by
   intro h0
   rw [h0] at h2;simp at h2
  have hz:z.natAbs≠0:=fun h0=>h2 (hlz.2 h0)
  have hN:fmtN z.natAbs=(rdig z.natAbs).reverse:=by rw [fmtN,if_neg hz]
  refine ⟨fun f m=>∃ (l:List UInt8) (g:Nat→Nat),l.length≤310∧Has l g∧0 < l.length∧l.reverse=fmtZ z∧f=[(5,SV.sl 15 0 l.length 310)]∧m=[(15,Blk.row 5 310 (bA g 310))],⟨fun h3=>?_,fun h3=>?_⟩,?_⟩
  ·have h3:=of_decide_eq_true h3
   refine ⟨by decide,by decide,_,fill_byte _,rfl,by omega,by decide,by decide,by simp [Value.oneCell'],_,bA_push (v:=(45:UInt8).toNat) rfl,?_⟩
   exact ⟨_,_,⟨rdig z.natAbs++[45],_,by simp;omega,hg.push _,by simp,by rw [fmtZ,if_pos h3,hN];simp,rfl,rfl⟩,⟨sl_len (by simp),trivial⟩,⟨rfl,trivial⟩,rfl⟩
  ·have h3:=of_decide_eq_false h3
   exact ⟨_,_,⟨rdig z.natAbs,_,by omega,hg,by omega,by rw [fmtZ,if_neg h3,hN],rfl,rfl⟩,⟨rfl,trivial⟩,⟨rfl,trivial⟩,rfl⟩
  rintro f m ⟨l,g,hl,hg,h0,hr,rfl,rfl⟩
  have e1:IntKind.i64.wrap ((l.length:Int) - 1)=((l.length - 1:Nat):Int):=by rw [i64_in (by omega)];omega
  refine ⟨fun q f m=>∃ (i j:Nat) (g:Nat→Nat),q=l.length - i∧i+j=l.length - 1∧(∀ k,k < l.length→g k=if k < i∨j < k then (l.getD (l.length - 1 - k) 0).toNat else (l.getD k 0).toNat)∧f=[(5,SV.sl 15 0 l.length 310),(8,SV.c (.int .i64 i)),(9,SV.c (.int .i64 j))]∧m=[(15,Blk.row 5 310 (bA g 310))],l.length,⟨_,_,⟨0,l.length - 1,g,rfl,by omega,fun k hk=>by rw [if_neg (by omega)];exact hg k hk,rfl,rfl⟩,⟨rfl,rfl,c_int e1,trivial⟩,⟨rfl,trivial⟩,rfl⟩,?_⟩
  rintro q f m ⟨i,j,g,rfl,hij,hg,rfl,rfl⟩
  refine ⟨fun h3=>?_,fun h3=>?_⟩
  ·have h3:i < j:=by have:=of_decide_eq_true h3;omega
   have gi:=bA_get g (show i < 310 by omega)
   have gj:=bA_get g (show j < 310 by omega)
   refine ⟨by omega,by omega,_,gj,by omega,by omega,_,gi,by omega,by omega,by show i < 310;omega,rfl,_,bA_put (i:=i) (x:=(i:Int)) rfl rfl,by omega,by omega,by show j < 310;omega,rfl,_,bA_put (i:=j) (x:=(j:Int)) rfl rfl,by kernel_rfl,?_⟩
   refine ⟨l.length - (i+1),_,_,by omega,⟨i+1,j - 1,_,rfl,by omega,fun k hk=>?_,rfl,rfl⟩,⟨rfl,c_int (by rw [i64_in (by omega)];omega),c_int (by rw [i64_in (by omega)];omega),trivial⟩,⟨rfl,trivial⟩,rfl⟩
   have hi:=hg i (by omega)
   have hj:=hg j (by omega)
   rw [if_neg (by omega)] at hi hj
   have hk2:=hg k hk
   by_cases e1:k=j
   ·subst e1
    rw [if_pos rfl,hi,if_pos (by omega),show l.length - 1 - k=i by omega]
   ·rw [if_neg e1]
    by_cases e2:k=i
    ·subst e2
     rw [if_pos rfl,hj,if_pos (by omega),show l.length - 1 - k=j by omega]
    ·rw [if_neg e2,hk2]
     by_cases e3:k < i∨j < k
     ·rw [if_pos e3,if_pos (by omega)]
     ·rw [if_neg e3,if_neg (by omega)]
  ·have h3:¬ i < j:=by have:=of_decide_eq_false h3;omega
   refine ⟨rfl,rfl,fmtS z,⟨?_,fun k hk=>?_⟩,rfl,trivial⟩
   ·show (fmtZ z).toArray.size=_
    rw [← hr];simp
   ·have hk':=hg k hk
    rw [Nat.zero_add,bA_get g (by omega),hk']
    have e:((fmtS z).data.getD k 0)=(l.getD (l.length - 1 - k) 0):=by
     show ((fmtZ z).toArray.getD k 0)=_
     rw [← hr,Array.getD_eq_getD_getElem?,List.getElem?_toArray,List.getElem?_reverse hk,List.getD_eq_getElem?_getD]
    rw [e]
    by_cases e3:k < i∨j < k
    ·rw [if_pos e3]
    ·rw [if_neg e3,show l.length - 1 - k=k by omega]
end Go.Proofs.YtofllflnmmjijaaGreatDoor
