/- walks: the reference, shifts. walks: the reference, quotient; no condition. -/
import Derived.Test.YtklehfchdoikeaaGreatDoorP15
set_option maxRecDepth 100000
set_option maxHeartbeats 4000000
namespace Go.Proofs.YtklehfchdoikeaaGreatDoor
open Go Go.RowKit Go.SX
theorem AY {T j:Nat} (h:j < 32):dg (T % BB ^ 32) j=dg T j:=by
 rw [<- uE];exact tB (fun j _=>aL T j) h
theorem KO {N b:Nat} (hN:N < BB ^ 32) (hb:b<=1):((dg N 31 / 2147483648:Nat):Int)=1↔¬ 2*N+b < BB ^ 32:=by
 have h:=u5 N b 32 hb
 rw [ce hN (Nat.le_refl 32),if_neg (by omega)] at h
 simp only [Nat.zero_mul,Nat.zero_mod,Nat.zero_or] at h
 rw [show 32 - 1=31 from rfl] at h
 rw [<- h]
 unfold dg
 have hP:=bi 32
 have hlt:(2*N+b) / BB ^ 32 < 2:=by
  rw [Nat.div_lt_iff_lt_mul hP];omega
 have hlt2:(2*N+b) / BB ^ 32 < BB:=Nat.lt_trans hlt (by decide)
 rw [Nat.mod_eq_of_lt hlt2]
 constructor
 ·intro h1 h2
  rw [Nat.div_eq_of_lt h2] at h1;simp at h1
 ·intro h1
  have:1<=(2*N+b) / BB ^ 32:=(Nat.le_div_iff_mul_le hP).2 (by omega)
  omega
theorem H9 {N b:Nat} (hN:N < BB ^ 32) (hb:b<=1):ay Tryz.prog 248 [SV.c (.agg (mA N)),SV.c (.int .u32 (b:Nat))] (.tuple #[.agg (mA ((2*N+b) % BB ^ 32)),.bool (!decide (2*N+b < BB ^ 32))]):=by
 refine al ai ak QH _ _ rfl rfl fun w=>?_
 refine ⟨bU _,fun q f m=>∃ (k:Nat) (g:Nat->Nat),q=32 - k/\k<=32/\(∀ j,j < 32->g j=if j < k then dg (2*N+b) j else dg N j)/\f=[(1,SV.c (.int .u32 (if k=0 then b else dg N (k - 1) / 2147483648:Nat))),(2,SV.ptr 2 0),(4,SV.ptr 4 0),(6,SV.c (.int .i64 k))]/\m=[(2,Blk.row 29 32 (lA g 32)),(4,Blk.row 29 32 (lA (fun _=>0) 32))],32,⟨_,_,⟨0,dg N,rfl,Nat.zero_le _,fun j hj=>by rw [if_neg (by omega)],rfl,rfl⟩,⟨rfl,rfl,rfl,rfl,trivial⟩,⟨rfl,rfl,trivial⟩,rfl⟩,?_⟩
 rintro q f m ⟨k,g,rfl,hk,hg,rfl,rfl⟩
 refine ⟨fun h=>?_,fun h=>?_⟩
 ·have h1:k < 32:=by have:=af h;omega
  have hx:=aL N k
  have gk:g k=dg N k:=by rw [hg k h1,if_neg (by omega)]
  have gx:(lA g 32)[k]? = some (.int .u32 (dg N k:Nat)):=by rw [bG g h1,gk]
  rw [aR] at hx
  have hbit:(if k=0 then b else dg N (k - 1) / 2147483648) < 4294967296:=by
   split
   ·omega
   ·have:=aL N (k - 1);rw [aR] at this;omega
  have es:IntKind.u32.wrap ((dg N k:Nat)*2 ^ min (Int.toNat 1) IntKind.u32.bits)=((dg N k*2 % 4294967296:Nat):Int):=by
   rw [bM];show ((dg N k:Nat):Int)*2 % 4294967296=_;omega
  have ev:=DC (A:=dg N k*2 % 4294967296) (B:=if k=0 then b else dg N (k - 1) / 2147483648) (Nat.mod_lt _ (by omega)) hbit
  rw [<- es] at ev
  refine ⟨by omega,by show (k:Int) < 32;omega,_,gx,by decide,by omega,by show (k:Int) < 32;omega,_,gx,by decide,by omega,by show (k:Int) < 32;omega,by show k < 32;omega,rfl,_,cw (i:=k) (x:=(k:Int)) rfl ev,by kernel_rfl,?_⟩
  refine ⟨32 - (k+1),_,_,by omega,⟨k+1,_,rfl,by omega,fun j hj=>?_,rfl,rfl⟩,⟨ar (by rw [if_neg (by omega),show k+1 - 1=k by omega];exact iJ _ 31),rfl,rfl,ar (by rw [i64_in (by omega)];rfl),trivial⟩,⟨rfl,rfl,trivial⟩,rfl⟩
  by_cases e:j=k
  ·subst e
   rw [if_pos rfl,if_pos (show j < j+1 by omega),u5 N b j hb]
  ·rw [if_neg e,hg j hj]
   by_cases e2:j < k
   ·rw [if_pos e2,if_pos (by omega)]
   ·rw [if_neg e2,if_neg (by omega)]
 ·have h1:k=32:=by have:=ag h;omega
  subst h1
  have hA:lA g 32=mA ((2*N+b) % BB ^ 32):=aN fun j hj=>by
   rw [hg j hj,if_pos hj]
   exact (AY hj).symm
  refine ⟨dU _ _,kL (by rw [hA]) (bv ?_),trivial⟩
  rw [Bool.eq_iff_iff]
  simp only [if_neg (show ¬ 32=0 by omega),show 32 - 1=31 from rfl,beq_iff_eq,Bool.not_eq_true',decide_eq_false_iff_not]
  exact KO hN hb
theorem si (a b:Nat):Int.tmod (a:Int) (b:Int)=((a % b:Nat):Int):=(Int.ofNat_tmod a b).symm
theorem sj (a b:Nat):Int.tdiv (a:Int) (b:Int)=((a / b:Nat):Int):=(Int.ofNat_tdiv a b).symm
theorem Dl {N n:Nat} (hN:N < BB ^ 32) (hn:n<=1024):ay Tryz.prog 247 [SV.c (.agg (mA N)),SV.c (.int .i64 (n:Nat))] (.agg (mA (N / 2 ^ n))):=by
 refine al ai ak QI _ _ rfl rfl fun w=>?_
 obtain ⟨k,s,hs,rfl⟩:∃ k s,s < 32/\n=32*k+s:=⟨n / 32,n % 32,Nat.mod_lt _ (by omega),by omega⟩
 have ek:IntKind.i64.wrap (Int.tdiv ((32*k+s:Nat):Int) 32)=(k:Nat):=by
  have:=sj (32*k+s) 32
  rw [show ((32:Nat):Int)=32 from rfl] at this
  rw [this,show (32*k+s) / 32=k by omega,i64_in (by omega)]
 have es:IntKind.u64.wrap (Int.tmod ((32*k+s:Nat):Int) 32)=(s:Nat):=by
  have:=si (32*k+s) 32
  rw [show ((32:Nat):Int)=32 from rfl] at this
  rw [this,show (32*k+s) % 32=s by omega,ci (by omega)]
 refine ⟨bU _,by decide,by decide,fun q f m=>∃ (i:Nat) (g:Nat->Nat),q=32 - (i+k)/\i+k<=32/\(∀ j,j < 32->g j=if j < i then dg (N / 2 ^ (32*k+s)) j else 0)/\f=[(2,SV.ptr 2 0),(4,SV.ptr 4 0),(5,SV.ptr 5 0),(6,SV.c (.int .i64 k)),(7,SV.c (.int .u64 s)),(8,SV.c (.int .i64 i))]/\m=[(2,Blk.row 29 32 (mA N)),(4,Blk.row 29 32 (lA (fun _=>0) 32)),(5,Blk.row 29 32 (lA g 32))],32 - (0+k),⟨_,_,⟨0,fun _=>0,rfl,by omega,fun j hj=>by rw [if_neg (by omega)],rfl,rfl⟩,⟨rfl,rfl,rfl,ar ek,ar es,rfl,trivial⟩,⟨rfl,rfl,rfl,trivial⟩,rfl⟩,?_⟩
 rintro q f m ⟨i,g,rfl,hi,hg,rfl,rfl⟩
 have e1:IntKind.i64.wrap ((i:Int)+k)=((i+k:Nat):Int):=by rw [i64_in (by omega)];omega
 refine ⟨fun h=>?_,fun h=>?_⟩
 ·have h1:i+k < 32:=by have:=af h;rw [e1] at this;omega
  have gx:(mA N)[(IntKind.i64.wrap ((i:Int)+k)).toNat]? = some (.int .u32 (dg N (i+k):Nat)):=by rw [e1];exact bh h1
  have hsh:=AW N k s i hs
  have hx:=aL N (i+k)
  have hy:=aL N (i+k+1)
  rw [aR] at hx hy
  have esh:((dg N (i+k):Nat):Int).fdiv (2 ^ min (Int.toNat (s:Int)) IntKind.u32.bits)=((dg N (i+k) / 2 ^ s:Nat):Int):=ph _ s (by omega) rfl
  have e2:IntKind.i64.wrap (IntKind.i64.wrap ((i:Int)+k)+1)=((i+k+1:Nat):Int):=by rw [e1,i64_in (by omega)];omega
  refine ⟨by rw [e1];omega,by rw [e1];show ((i+k:Nat):Int) < 32;omega,_,gx,by omega,by omega,by show (i:Int) < 32;omega,by show i < 32;omega,rfl,_,cw (i:=i) (x:=(i:Int)) rfl esh,fun h2=>⟨fun h3=>?_,fun h3=>?_⟩,fun h2=>⟨nofun,fun _=>?_⟩⟩
  ·have h2:0 < s:=by have:=af h2;omega
   have h3:i+k+1 < 32:=by have:=af h3;rw [e2] at this;omega
   have gz:(mA N)[(IntKind.i64.wrap (IntKind.i64.wrap ((i:Int)+k)+1)).toNat]? = some (.int .u32 (dg N (i+k+1):Nat)):=by rw [e2];exact bh h3
   have ge:(lA (fun x=>if x=i then dg N (i+k) / 2 ^ s else g x) 32)[i]? = some (.int .u32 (dg N (i+k) / 2 ^ s:Nat)):=by rw [bG _ (by omega),if_pos rfl]
   have e5:IntKind.u64.wrap (32 - (s:Int))=((32 - s:Nat):Int):=by rw [ci (by omega)];omega
   have e6:IntKind.u32.wrap (((dg N (i+k+1):Nat):Int)*2 ^ min (Int.toNat (IntKind.u64.wrap (32 - (s:Int)))) IntKind.u32.bits)=((dg N (i+k+1)*2 ^ (32 - s) % 4294967296:Nat):Int):=by
    rw [e5];exact pi _ (32 - s) (by omega)
   have hd1:dg N (i+k) / 2 ^ s < 4294967296:=Nat.lt_of_le_of_lt (Nat.div_le_self _ _) hx
   have ev:=DC (A:=dg N (i+k) / 2 ^ s) (B:=dg N (i+k+1)*2 ^ (32 - s) % 4294967296) hd1 (Nat.mod_lt _ (by omega))
   rw [<- e6] at ev
   refine ⟨by omega,by show (i:Int) < 32;omega,_,ge,by rw [e2];omega,by rw [e2];show ((i+k+1:Nat):Int) < 32;omega,_,gz,by rw [e5];omega,by omega,by show (i:Int) < 32;omega,by show i < 32;omega,rfl,_,cw (i:=i) (x:=(i:Int)) rfl ev,by kernel_rfl,?_⟩
   refine ⟨32 - (i+1+k),_,_,by omega,⟨i+1,_,rfl,by omega,fun j hj=>?_,rfl,rfl⟩,⟨rfl,rfl,rfl,rfl,rfl,ar (by rw [i64_in (by omega)];rfl),trivial⟩,⟨rfl,rfl,rfl,trivial⟩,rfl⟩
   by_cases e:j=i
   ·subst e
    rw [if_pos rfl,if_pos (show j < j+1 by omega),hsh,if_pos h2]
   ·rw [if_neg e,if_neg e,hg j hj]
    by_cases e2:j < i
    ·rw [if_pos e2,if_pos (show j < i+1 by omega)]
    ·rw [if_neg e2,if_neg (show ¬ j < i+1 by omega)]
  ·have h2:0 < s:=by have:=af h2;omega
   have h3:¬ i+k+1 < 32:=by have:=ag h3;rw [e2] at this;omega
   refine ⟨32 - (i+1+k),_,_,by omega,⟨i+1,_,rfl,by omega,fun j hj=>?_,rfl,rfl⟩,⟨rfl,rfl,rfl,rfl,rfl,ar (by rw [i64_in (by omega)];rfl),trivial⟩,⟨rfl,rfl,rfl,trivial⟩,rfl⟩
   by_cases e:j=i
   ·subst e
    rw [if_pos rfl,if_pos (show j < j+1 by omega),hsh,if_pos h2,ce hN (show 32<=j+k+1 by omega)];simp
   ·rw [if_neg e,hg j hj]
    by_cases e2:j < i
    ·rw [if_pos e2,if_pos (show j < i+1 by omega)]
    ·rw [if_neg e2,if_neg (show ¬ j < i+1 by omega)]
  ·have h2:s=0:=by have:=ag h2;omega
   refine ⟨32 - (i+1+k),_,_,by omega,⟨i+1,_,rfl,by omega,fun j hj=>?_,rfl,rfl⟩,⟨rfl,rfl,rfl,rfl,rfl,ar (by rw [i64_in (by omega)];rfl),trivial⟩,⟨rfl,rfl,rfl,trivial⟩,rfl⟩
   by_cases e:j=i
   ·subst e
    rw [if_pos rfl,if_pos (show j < j+1 by omega),hsh,if_neg (show ¬ 0 < s by omega)];simp
   ·rw [if_neg e,hg j hj]
    by_cases e2:j < i
    ·rw [if_pos e2,if_pos (show j < i+1 by omega)]
    ·rw [if_neg e2,if_neg (show ¬ j < i+1 by omega)]
 ·have h1:¬ i+k < 32:=by have:=ag h;rw [e1] at this;omega
  have hA:lA g 32=mA (N / 2 ^ (32*k+s)):=aN fun j hj=>by
   rw [hg j hj]
   by_cases e:j < i
   ·rw [if_pos e]
   ·rw [if_neg e,AW N k s j hs,ce hN (show 32<=j+k by omega),ce hN (show 32<=j+k+1 by omega)]
    simp
  exact ⟨dU _ _,by rw [hA];rfl,trivial⟩
theorem LT {N:Nat} (hN:N < 18446744073709551616):ay Tryz.prog 246 [SV.c (.agg (mA N))] (.int .u64 (N:Nat)):=by
 refine al ai ak QJ _ _ rfl rfl fun w=>?_
 have eu:=D0 (aL N 1) (aL N 0) rfl rfl
 have ed:dg N 1*BB+dg N 0=N:=by
  simp only [dg,aR,Nat.pow_one,Nat.pow_zero,Nat.div_one];omega
 rw [ed] at eu
 have g1:(mA N)[1]? = some (.int .u32 (dg N 1:Nat)):=bh (by omega)
 have g0:(mA N)[0]? = some (.int .u32 (dg N 0:Nat)):=bh (by omega)
 exact ⟨bU _,by decide,by decide,_,g1,by decide,by decide,by decide,_,g0,by rw [eu];rfl,trivial⟩
theorem BF {N:Nat} (hN:N < 18446744073709551616):ay Tryz.prog 245 [SV.c (.int .u64 (N:Nat))] (.agg (mA N)):=by
 refine al ai ak QK _ _ rfl rfl fun w=>?_
 have e0:IntKind.u32.wrap ((N:Nat):Int)=((N % 4294967296:Nat):Int):=by rw [bM];omega
 have e1:IntKind.u32.wrap (((N:Nat):Int).fdiv (2 ^ min (Int.toNat 32) IntKind.u64.bits))=((N / 4294967296:Nat):Int):=by
  rw [show ((N:Nat):Int).fdiv (2 ^ min (Int.toNat 32) IntKind.u64.bits)=((N / 4294967296:Nat):Int) from iJ _ 32]
  exact eU (by omega)
 have hA:lA (fun k=>if k=1 then N / 4294967296 else (fun k=>if k=0 then N % 4294967296 else (fun _=>0) k) k) 32=mA N:=aN fun i hi=>by
  by_cases h1:i=1
  ·subst h1
   rw [if_pos rfl]
   simp only [dg,aR,Nat.pow_one];omega
  ·rw [if_neg h1]
   by_cases h0:i=0
   ·subst h0
    simp only [if_true]
    simp only [dg,aR,Nat.pow_zero,Nat.div_one]
   ·simp only [if_neg h0]
    rw [Ie hN (by omega)]
 refine ⟨by decide,by decide,by decide,by decide,rfl,_,cw (G:=fun _=>0) (n:=32) (i:=0) (x:=((0:Nat):Int)) rfl e0,by decide,by decide,by decide,rfl,_,cw (i:=1) (x:=((1:Nat):Int)) rfl e1,?_⟩
 exact ⟨dU _ _,by rw [hA];rfl,trivial⟩
theorem SZ {A B:Nat} (hA:A < 4294967296) (hB:B < 4294967296):IntKind.u32.wrap (((BitVec.ofInt IntKind.u32.bits (A:Int) &&& BitVec.ofInt IntKind.u32.bits (B:Int)).toNat:Nat):Int)=((A &&& B:Nat):Int):=by
 have h:A &&& B < 4294967296:=Nat.and_lt_two_pow (n:=32) _ hB
 rw [BitVec.toNat_and,BitVec.ofInt_natCast,BitVec.ofInt_natCast,BitVec.toNat_ofNat,BitVec.toNat_ofNat]
 show IntKind.u32.wrap (((A % 4294967296 &&& B % 4294967296:Nat)):Int)=_
 rw [Nat.mod_eq_of_lt hA,Nat.mod_eq_of_lt hB,eU (by omega)]
theorem Bz {x:Nat} (h:x < 18446744073709551616):IntKind.u64.wrap (x:Int)=x:=ci ⟨Int.natCast_nonneg x,by omega⟩
theorem Kq {x:Nat} (h:x<=9223372036854775807):IntKind.i64.wrap (x:Int)=x:=i64_in ⟨by omega,by omega⟩
theorem Ls {N n:Nat} (hu:IsUsed N n):n<=2↔N < 18446744073709551616:=by
 have e:BB ^ 2=18446744073709551616:=by decide
 constructor
 ·intro h
  have h4:BB ^ n<=BB ^ 2:=Nat.pow_le_pow_right bI h
  rw [e] at h4
  have:=hu.1
  omega
 ·intro h
  rcases Nat.lt_or_ge 2 n with h2 | h2
  ·have h3:=hu.2 (by omega)
   have h4:BB ^ 2<=BB ^ (n - 1):=Nat.pow_le_pow_right bI (by omega)
   omega
  ·exact h2
theorem yI {N:Nat} {pl:List (Nat×Nat)} (hpl:pl=[(0,1),(1,32)]):Instr.fill (fun k=>pl[k]?) eW.zero [(1,.agg (mA N))]=some (iA false N):=by
 subst hpl
 kernel_rfl
theorem NK (N i:Nat):dg N (i / 32) / 2 ^ (i % 32) % 2=N / 2 ^ i % 2:=by
 have h:=fX N (i / 32) (i % 32)
 rw [show 32*(i / 32)+i % 32=i by omega,decide_eq_true (Nat.mod_lt i (by omega)),Bool.true_and,Nat.testBit_eq_decide_div_mod_eq,Nat.testBit_eq_decide_div_mod_eq,decide_eq_decide] at h
 have:=Nat.mod_two_eq_zero_or_one (dg N (i / 32) / 2 ^ (i % 32))
 have:=Nat.mod_two_eq_zero_or_one (N / 2 ^ i)
 omega
theorem Cz {M X:Nat} (hM:M < BB ^ 32) (h2:X < 2*M) (h:M<=X):(X % BB ^ 32+BB ^ 32 - M) % BB ^ 32=X - M:=by
 generalize BB ^ 32=P at *
 rcases Nat.lt_or_ge X P with h1 | h1
 ·rw [Nat.mod_eq_of_lt h1,show X+P - M=(X - M)+P by omega,Nat.add_mod_right,Nat.mod_eq_of_lt (by omega)]
 ·have:X % P=X - P:=by
    conv=>lhs;rw [show X=(X - P)+P by omega]
    rw [Nat.add_mod_right,Nat.mod_eq_of_lt (by omega)]
  rw [this,show X - P+P - M=X - M by omega,Nat.mod_eq_of_lt (by omega)]
theorem MO {M X:Nat} (h2:X < 2*M):X % M=if M<=X then X - M else X:=by
 by_cases h:M<=X
 ·rw [if_pos h]
  conv=>lhs;rw [show X=(X - M)+M by omega]
  rw [Nat.add_mod_right,Nat.mod_eq_of_lt (by omega)]
 ·rw [if_neg h,Nat.mod_eq_of_lt (by omega)]
theorem yP {N M:Nat} (hN:N < BB ^ 32) (hM:M < BB ^ 32) (hM0:0 < M):ay Tryz.prog 204 [SV.c (.agg (mA N)),SV.c (.agg (mA M))] (.tuple #[.agg (mA (N / M)),.agg (mA (N % M))]):=by
 obtain ⟨n,hn,hu⟩:=dr hN
 obtain ⟨m,hm,hv⟩:=dr hM
 have hu2:=Ls hu
 have hv2:=Ls hv
 refine fK [3] ai ak Rj _ _ rfl rfl fun w=>?_
 refine ⟨bU _,bU _,fun f mm=>f=[(2,SV.ptr 2 0),(3,SV.ptr 3 0),(4,SV.ptr 4 0),(5,SV.ptr 5 0)]/\mm=[(2,Blk.row 29 32 (mA N)),(3,Blk.row 29 32 (mA M)),(4,Blk.row 29 32 (lA (fun _=>0) 32)),(5,Blk.row 29 32 (lA (fun _=>0) 32))],.inl ⟨_,jG hu hN,fun h1=>.inl ⟨_,jG hv hM,fun h2=>?_,fun h2=>?_⟩,fun h1=>⟨nofun,fun _=>?_⟩⟩,?_⟩
 ·have h1:N < 18446744073709551616:=hu2.1 (by have:=af h1;omega)
  have h2:M < 18446744073709551616:=hv2.1 (by have:=af h2;omega)
  have l1:=LT h1
  have l2:=LT h2
  have hq:N / M<=N:=Nat.div_le_self _ _
  have hr:N % M < M:=Nat.mod_lt _ hM0
  have s1:=BF (N:=N / M) (by omega)
  have s2:=BF (N:=N % M) (by omega)
  have e1:IntKind.u64.wrap (Int.tdiv (N:Nat) (M:Nat))=((N / M:Nat):Int):=by rw [sj,Bz (by omega)]
  have e2:Int.tmod (N:Nat) (M:Nat)=((N % M:Nat):Int):=si N M
  rw [<- e1] at s1
  rw [<- e2] at s2
  exact .inl ⟨_,l1,.inl ⟨_,l2,by omega,.inl ⟨_,s1,.inl ⟨_,l1,.inl ⟨_,l2,by omega,.inl ⟨_,s2,aE _,aE _,by kernel_rfl,rfl,trivial⟩⟩⟩⟩⟩⟩
 ·exact ⟨_,_,⟨rfl,rfl⟩,⟨rfl,rfl,rfl,rfl,trivial⟩,⟨rfl,rfl,rfl,rfl,trivial⟩,rfl⟩
 ·exact ⟨_,_,⟨rfl,rfl⟩,⟨rfl,rfl,rfl,rfl,trivial⟩,⟨rfl,rfl,rfl,rfl,trivial⟩,rfl⟩
 rintro f mm ⟨rfl,rfl⟩
 have b1:=q9 (A:=iA false N) (z:=zN false N) ⟨false,N,hN,rfl,rfl⟩
 have b2:=q9 (A:=iA false M) (z:=zN false M) ⟨false,M,hM,rfl,rfl⟩
 rw [bt] at b1 b2
 obtain ⟨n1,n2⟩:=cO N
 obtain ⟨m1,m2⟩:=cO M
 have hbM:0 < bl M:=by
  rcases Nat.eq_zero_or_pos (bl M) with e | e
  ·rw [e] at m1;simp at m1;omega
  ·exact e
 have m2:=m2 hbM
 have hb1:bl N<=1024:=jU (k:=Cx) (by rw [oF,show 32*32=Cx from rfl] at hN;exact hN)
 have hb2:bl M<=1024:=jU (k:=Cx) (by rw [oF,show 32*32=Cx from rfl] at hM;exact hM)
 have eb:IntKind.i64.wrap ((bl M:Int) - 1)=((bl M - 1:Nat):Int):=by rw [i64_in (by omega)];omega
 refine ⟨_,yI rfl,.inl ⟨_,b1,_,yI rfl,.inl ⟨_,b2,by kernel_rfl,fun h1=>?_,fun h1=>?_⟩⟩⟩
 ·have h1:bl N<=bl M - 1:=by have:=af h1;rw [eb] at this;omega
  have hlt:N < M:=by
   have:2 ^ bl N<=2 ^ (bl M - 1):=Nat.pow_le_pow_right (by omega) h1
   omega
  refine ⟨dU _ _,aE _,by kernel_rfl,?_,trivial⟩
  rw [Nat.div_eq_of_lt hlt,Nat.mod_eq_of_lt hlt]
  refine kL ?_ rfl
  rw [<- Hc];rfl
 have h1:bl M - 1 < bl N:=by have:=ag h1;rw [eb] at this;omega
 obtain ⟨T,hT⟩:∃ T,bl N - (bl M - 1)=T:=⟨_,rfl⟩
 have eT:IntKind.i64.wrap ((bl N:Int) - IntKind.i64.wrap ((bl M:Int) - 1))=(T:Nat):=by rw [eb,i64_in (by omega)];omega
 have hsh:=Dl (N:=N) (n:=T) hN (by omega)
 rw [<- eT] at hsh
 have hlow:N / 2 ^ T < M:=by
  have h2:N / 2 ^ T < 2 ^ (bl M - 1):=by
   rw [Nat.div_lt_iff_lt_mul (Nat.pow_pos (by omega)),<- Nat.pow_add,show bl M - 1+T=bl N by omega]
   exact n1
  omega
 refine .inl ⟨_,hsh,aE _,?_⟩
 refine ⟨fun k f mm=>k<=T/\∃ g:Nat->Nat,(∀ j,j < 32->g j=dg (hiP (N / M) k) j)/\f=[(2,SV.ptr 2 0),(3,SV.ptr 3 0),(4,SV.ptr 4 0),(5,SV.ptr 5 0),(8,SV.c (.int .i64 ((k:Int) - 1)))]/\mm=[(2,Blk.row 29 32 (mA N)),(3,Blk.row 29 32 (mA M)),(4,Blk.row 29 32 (lA g 32)),(5,Blk.row 29 32 (mA (N / 2 ^ k % M)))],T,⟨_,_,⟨Nat.le_refl _,fun _=>0,fun j hj=>?_,rfl,rfl⟩,⟨rfl,rfl,rfl,rfl,ar (by rw [eT,i64_in (by omega)]),trivial⟩,⟨rfl,rfl,rfl,bk (by rw [Nat.mod_eq_of_lt hlow]),trivial⟩,rfl⟩,?_⟩
 ·unfold hiP
  rw [Nat.div_div_eq_div_mul,Nat.mul_comm M,<- Nat.div_div_eq_div_mul,Nat.div_eq_of_lt hlow,Nat.zero_mul,wF]
 rintro k f mm ⟨hk,g,hg,rfl,rfl⟩
 refine ⟨fun h2=>?_,fun h2=>?_⟩
 ·have h2:(k:Int) - 1 >= 0:=af h2
  obtain ⟨i,rfl⟩:∃ i,k=i+1:=⟨k - 1,by omega⟩
  have hi:i < 1024:=by omega
  have ei:IntKind.i64.wrap (Int.tdiv (((i+1:Nat):Int) - 1) 32)=((i / 32:Nat):Int):=by
   rw [show ((i+1:Nat):Int) - 1=(i:Nat) by omega,show (32:Int)=((32:Nat):Int) from rfl,sj,Kq (by omega)]
  have em:IntKind.u64.wrap (Int.tmod (((i+1:Nat):Int) - 1) 32)=((i % 32:Nat):Int):=by
   rw [show ((i+1:Nat):Int) - 1=(i:Nat) by omega,show (32:Int)=((32:Nat):Int) from rfl,si,Bz (by omega)]
  have gx:(mA N)[(IntKind.i64.wrap (Int.tdiv (((i+1:Nat):Int) - 1) 32)).toNat]? = some (.int .u32 (dg N (i / 32):Nat)):=by rw [ei];exact bh (by omega)
  have gq:(lA g 32)[(IntKind.i64.wrap (Int.tdiv (((i+1:Nat):Int) - 1) 32)).toNat]? = some (.int .u32 (g (i / 32):Nat)):=by rw [ei];exact bG g (by omega)
  have hx:=aL N (i / 32)
  rw [aR] at hx
  have ebit:IntKind.u32.wrap (((BitVec.ofInt IntKind.u32.bits (((dg N (i / 32):Nat):Int).fdiv (2 ^ min (Int.toNat (IntKind.u64.wrap (Int.tmod (((i+1:Nat):Int) - 1) 32))) IntKind.u32.bits)) &&& BitVec.ofInt IntKind.u32.bits 1).toNat:Nat):Int)=((N / 2 ^ i % 2:Nat):Int):=by
   rw [em,ph (dg N (i / 32)) (i % 32) (by omega) rfl,show (1:Int)=((1:Nat):Int) from rfl,SZ (Nat.lt_of_le_of_lt (Nat.div_le_self _ _) hx) (by omega),Nat.and_one_is_mod,NK]
  have hb:N / 2 ^ i % 2<=1:=by omega
  have hr:N / 2 ^ (i+1) % M < M:=Nat.mod_lt _ hM0
  have hdb:=H9 (N:=N / 2 ^ (i+1) % M) (b:=N / 2 ^ i % 2) (Nat.lt_trans hr hM) hb
  rw [<- ebit] at hdb
  have hr2:2*(N / 2 ^ (i+1) % M)+N / 2 ^ i % 2 < 2*M:=by omega
  have hrm:=(PD N M i).trans (MO hr2)
  have hqb:=PE N M i hM0
  have hgl:g (i / 32) < 4294967296:=by rw [hg _ (by omega)];exact aL _ _
  have evq:IntKind.u32.wrap (((BitVec.ofInt IntKind.u32.bits ((g (i / 32):Nat):Int) ||| BitVec.ofInt IntKind.u32.bits (IntKind.u32.wrap (1*2 ^ min (Int.toNat (IntKind.u64.wrap (Int.tmod (((i+1:Nat):Int) - 1) 32))) IntKind.u32.bits))).toNat:Nat):Int)=((g (i / 32) ||| 2 ^ (i % 32):Nat):Int):=by
   have hp:2 ^ (i % 32) < 4294967296:=Nat.pow_lt_pow_right (by omega) (Nat.mod_lt i (show 0 < 32 by omega))
   have e8:=pi 1 (i % 32) (Nat.mod_lt i (by omega))
   rw [Nat.one_mul,Nat.mod_eq_of_lt hp] at e8
   rw [em,show (1:Int)=((1:Nat):Int) from rfl,e8]
   exact DC hgl hp
  refine ⟨by decide,by rw [ei];omega,by rw [ei];show ((i / 32:Nat):Int) < 32;omega,_,gx,by decide,by rw [em];omega,.inl ⟨_,hdb,aE _,by kernel_rfl,fun h3=>?_,fun h3=>?_⟩⟩
  ·have h3:2*(N / 2 ^ (i+1) % M)+N / 2 ^ i % 2 < BB ^ 32:=af (bX h3)
   refine .inl ⟨_,qV (Nat.mod_lt _ (bi 32)) hM,fun h4=>?_,fun h4=>?_⟩
   ·have hc:=af h4
    rw [Nat.mod_eq_of_lt h3] at hc
    have hle:M<=2*(N / 2 ^ (i+1) % M)+N / 2 ^ i % 2:=by
     unfold jK at hc
     split at hc
     ·omega
     ·omega
    have e7:=Cz hM hr2 hle
    have hdf:=gy (N:=(2*(N / 2 ^ (i+1) % M)+N / 2 ^ i % 2) % BB ^ 32) (Nat.mod_lt _ (bi 32)) hM
    rw [e7] at hdf
    refine .inl ⟨_,hdf,aE _,by decide,by rw [ei];omega,by rw [ei];show ((i / 32:Nat):Int) < 32;omega,_,gq,by decide,by rw [em];omega,by rw [ei];omega,by rw [ei];show ((i / 32:Nat):Int) < 32;omega,by rw [ei];show i / 32 < 32;omega,rfl,_,cw (i:=i / 32) (x:=IntKind.i64.wrap (Int.tdiv (((i+1:Nat):Int) - 1) 32)) ei evq,?_⟩
    refine ⟨i,_,_,by omega,⟨by omega,_,fun j hj=>?_,rfl,rfl⟩,⟨rfl,rfl,rfl,rfl,ar (by rw [i64_in (by omega)];omega),trivial⟩,⟨rfl,rfl,rfl,bk (by rw [hrm,if_pos hle]),trivial⟩,rfl⟩
    rw [s8,hqb,if_pos hle,Nat.one_mul,u4 _ i j (Cr _ i)]
    by_cases e:j=i / 32
    ·subst e;rw [if_pos rfl,if_pos rfl,hg _ hj]
    ·rw [if_neg e,if_neg e,hg j hj]
   ·have hc:=ag h4
    rw [Nat.mod_eq_of_lt h3] at hc
    have hle:¬ M<=2*(N / 2 ^ (i+1) % M)+N / 2 ^ i % 2:=by
     unfold jK at hc
     split at hc
     ·omega
     ·split at hc<;>omega
    refine ⟨i,_,_,by omega,⟨by omega,g,fun j hj=>?_,rfl,rfl⟩,⟨rfl,rfl,rfl,rfl,ar (by rw [i64_in (by omega)];omega),trivial⟩,⟨rfl,rfl,rfl,bk (by rw [hrm,if_neg hle,Nat.mod_eq_of_lt h3]),trivial⟩,rfl⟩
    rw [s8,hqb,if_neg hle,Nat.zero_mul,Nat.add_zero]
    exact hg j hj
  ·have h3:¬ 2*(N / 2 ^ (i+1) % M)+N / 2 ^ i % 2 < BB ^ 32:=ag (bnt h3)
   have hle:M<=2*(N / 2 ^ (i+1) % M)+N / 2 ^ i % 2:=by omega
   have e7:=Cz hM hr2 hle
   have hdf:=gy (N:=(2*(N / 2 ^ (i+1) % M)+N / 2 ^ i % 2) % BB ^ 32) (Nat.mod_lt _ (bi 32)) hM
   rw [e7] at hdf
   refine ⟨fun _=>.inl ⟨_,hdf,aE _,by decide,by rw [ei];omega,by rw [ei];show ((i / 32:Nat):Int) < 32;omega,_,gq,by decide,by rw [em];omega,by rw [ei];omega,by rw [ei];show ((i / 32:Nat):Int) < 32;omega,by rw [ei];show i / 32 < 32;omega,rfl,_,cw (i:=i / 32) (x:=IntKind.i64.wrap (Int.tdiv (((i+1:Nat):Int) - 1) 32)) ei evq,?_⟩,nofun⟩
   refine ⟨i,_,_,by omega,⟨by omega,_,fun j hj=>?_,rfl,rfl⟩,⟨rfl,rfl,rfl,rfl,ar (by rw [i64_in (by omega)];omega),trivial⟩,⟨rfl,rfl,rfl,bk (by rw [hrm,if_pos hle]),trivial⟩,rfl⟩
   rw [s8,hqb,if_pos hle,Nat.one_mul,u4 _ i j (Cr _ i)]
   by_cases e:j=i / 32
   ·subst e;rw [if_pos rfl,if_pos rfl,hg _ hj]
   ·rw [if_neg e,if_neg e,hg j hj]
 ·have h2:k=0:=by have:=ag h2;omega
  subst h2
  have hA:lA g 32=mA (N / M):=aN fun j hj=>by rw [hg j hj,Hw]
  refine ⟨dU _ _,aE _,by kernel_rfl,?_,trivial⟩
  rw [hA,Nat.pow_zero,Nat.div_one];rfl
theorem Pi:(lA (fun _=>0) 32).setIfInBounds 0 (.int .u32 1)=mA 1:=by
 rw [show (1:Int)=((1:Nat):Int) from rfl,kY]
 refine aN fun i hi=>?_
 by_cases h:i=0
 ·subst h;rfl
 ·rw [if_neg h]
  have:dg 1 i=0:=ce (n:=1) (by decide) (by omega)
  exact this.symm
theorem p8 {A B:Array Value} {x y:Int} (hA:IsI A x) (hB:IsI B y) (hy:y≠0):ay Tryz.prog 147 [SV.c (.agg A),SV.c (.agg B)] (.tuple #[.agg (eA (x / y)),.agg (eA (x % y)),.int .i64 0]):=by
 have hx:=hA.lt
 have hyl:=hB.lt
 have hall:=Ia x y hy
 obtain ⟨a,N,hN,rfl,ex⟩:=hA.raw
 obtain ⟨b,M,hM,rfl,ey⟩:=hB.raw
 have eN:x.natAbs=N:=by rw [ex,bt]
 have eM:y.natAbs=M:=by rw [ey,bt]
 rw [eN,eM] at hall
 have hM0:0 < M:=by omega
 have hb:decide (y < 0)=b:=by
  rw [ey];cases b
  ·simp [zN]
  ·simp [zN];omega
 have ha:N≠0->decide (x < 0)=a:=fun h=>by
  rw [ex];cases a
  ·simp [zN]
  ·simp [zN];omega
 refine fK [9] ai ak Sf _ _ rfl rfl fun w=>?_
 have hql:N / M < BB ^ 32:=Nat.lt_of_le_of_lt (Nat.div_le_self _ _) hN
 have hrl:N % M < M:=Nat.mod_lt _ hM0
 have hrb:N % M < BB ^ 32:=Nat.lt_trans hrl hM
 refine ⟨bp _ _,bp _ _,by decide,_,cE,.inl ⟨_,rU hM,fun h=>?_,fun h=>?_⟩⟩
 ·exfalso
  have:=af h
  omega
 refine ⟨by decide,_,cE,by decide,_,cE,.inl ⟨_,yP hN hM hM0,aE _,aE _,?_⟩⟩
 have fin:∀ q,(q=0->N=0\/True)->True:=fun _ _=>trivial
 refine ⟨fun f mm=>∃ q r:Nat,q < BB ^ 32/\r < BB ^ 32/\x / y=zN (a != b) q/\x % y=r/\f=[(2,SV.ptr 2 0),(3,SV.ptr 3 0),(4,SV.ptr 4 0),(5,SV.ptr 5 0),(7,SV.ptr 7 0),(8,SV.ptr 8 0)]/\mm=[(2,Blk.row 31 33 (iA a N)),(3,Blk.row 31 33 (iA b M)),(4,Blk.row 31 33 eW.zero),(5,Blk.row 31 33 eW.zero),(7,Blk.row 29 32 (mA q)),(8,Blk.row 29 32 (mA r))],⟨_,dA,fun h1=>.inl ⟨_,rU hrb,fun h2=>?_,fun h2=>?_⟩,fun h1=>⟨nofun,fun _=>?_⟩⟩,?_⟩
 ·have h1:a=true:=h1
  have h2:N % M≠0:=ag (bnt h2)
  have hn0:N≠0:=by intro e;rw [e,Nat.zero_mod] at h2;exact h2 rfl
  have hxa:=ha hn0
  rw [h1] at hxa
  rw [if_pos ⟨af hxa,h2⟩,hxa,hb] at hall
  have hql2:N / M+1 < BB ^ 32:=by
   have hb2:2<=M:=by
    rcases Nat.lt_or_ge M 2 with h | h
    ·have:M=1:=by omega
     rw [this,Nat.mod_one] at h2;exact absurd rfl h2
    ·exact h
   have h3:N / M<=N / 2:=Nat.div_le_div_left hb2 (by omega)
   have h4:4<=BB ^ 32:=Nat.le_trans (by omega) jP
   omega
  have hd:=gy hM hrb
  rw [yQ hM (Nat.le_of_lt hrl)] at hd
  have hs:=Lx hql (Nat.lt_of_lt_of_le (by omega:1 < 18446744073709551616) jP)
  refine ⟨by decide,_,cE,.inl ⟨_,hd,aE _,by decide,by decide,by decide,rfl,_,Pi,.inl ⟨_,hs,aE _,_,_,⟨N / M+1,_,hql2,Nat.lt_of_le_of_lt (Nat.sub_le _ _) hM,by rw [h1];exact hall.1,hall.2,rfl,rfl⟩,⟨rfl,rfl,rfl,rfl,rfl,rfl,trivial⟩,⟨rfl,rfl,rfl,rfl,bk (by rw [Nat.mod_eq_of_lt hql2]),rfl,trivial⟩,rfl⟩⟩⟩
 ·have h1:a=true:=h1
  have h2:N % M=0:=af (bnf h2)
  rw [if_neg (fun h=>h.2 h2)] at hall
  refine ⟨_,_,⟨_,_,hql,hrb,?_,hall.2,rfl,rfl⟩,⟨rfl,rfl,rfl,rfl,rfl,rfl,trivial⟩,⟨rfl,rfl,rfl,rfl,rfl,rfl,trivial⟩,rfl⟩
  rw [hall.1,hb]
  by_cases hn0:N=0
  ·rw [hn0,Nat.zero_div];unfold zN;split<;>split<;>rfl
  ·rw [ha hn0]
 ·have h1:a=false:=h1
  have hx0:¬ x < 0:=by rw [ex,h1];simp [zN]
  rw [if_neg (fun h=>hx0 h.1),hb,decide_eq_false hx0] at hall
  exact ⟨_,_,⟨_,_,hql,hrb,by rw [h1];exact hall.1,hall.2,rfl,rfl⟩,⟨rfl,rfl,rfl,rfl,rfl,rfl,trivial⟩,⟨rfl,rfl,rfl,rfl,rfl,rfl,trivial⟩,rfl⟩
 ·rintro f mm ⟨q,r,hq,hr,e1,e2,rfl,rfl⟩
  have m1:=fh (a != b) hq
  have m2:=fh false hr
  rw [<- e1] at m1
  rw [show zN false r=x % y from e2.symm] at m2
  exact ⟨_,dA,_,dA,.inl ⟨_,m1,.inl ⟨_,m2,am _,am _,by kernel_rfl,rfl,trivial⟩⟩⟩
theorem LZ {A B:Array Value} {x y:Int} (hA:IsI A x) (hB:IsI B y):ay Tryz.prog 146 [SV.c (.agg A),SV.c (.agg B)] (.agg (eA ((Int.gcd x y:Nat):Int))):=by
 obtain ⟨a,N,hN,rfl,rfl⟩:=hA.raw
 obtain ⟨b,M,hM,rfl,rfl⟩:=hB.raw
 rw [oy]
 refine al ai ak Sg _ _ rfl rfl fun w=>?_
 refine ⟨bp _ _,bp _ _,by decide,_,cE,by decide,_,cE,aE _,aE _,by kernel_rfl,?_⟩
 refine ⟨fun q f mm=>∃ u:Nat,u < BB ^ 32/\q < BB ^ 32/\Nat.gcd u q=Nat.gcd N M/\f=[(4,SV.ptr 4 0),(5,SV.ptr 5 0),(6,SV.ptr 6 0)]/\mm=[(4,Blk.row 31 33 eW.zero),(5,Blk.row 29 32 (mA u)),(6,Blk.row 29 32 (mA q))],_,⟨_,_,⟨_,hN,hM,rfl,rfl,rfl⟩,⟨rfl,rfl,rfl,trivial⟩,⟨rfl,rfl,rfl,trivial⟩,rfl⟩,?_⟩
 rintro q f mm ⟨u,ha,hq,hg,rfl,rfl⟩
 refine .inl ⟨_,rU hq,fun h=>?_,fun h=>?_⟩
 ·have hq0:0 < q:=by
    have:q≠0:=ag (bnt h)
    omega
  have hr:=Nat.mod_lt u hq0
  exact .inl ⟨_,yP ha hq hq0,aE _,aE _,aE _,aE _,by kernel_rfl,u % q,_,_,hr,⟨_,hq,Nat.lt_trans hr hq,by rw [<- hg,Nat.gcd_comm u q,Nat.gcd_rec q u,Nat.gcd_comm],rfl,rfl⟩,⟨rfl,rfl,rfl,trivial⟩,⟨rfl,rfl,rfl,trivial⟩,rfl⟩
 ·have hq0:q=0:=af (bnf h)
  subst hq0
  have m1:=fh false ha
  rw [Nat.gcd_zero_right] at hg
  rw [show zN false u=((Nat.gcd N M:Nat):Int) by rw [<- hg];rfl] at m1
  exact .inl ⟨_,m1,am _,rfl,trivial⟩
theorem RQ.ok_of {p q:Int} (h1:bl p.natAbs<=480) (h2:bl q.natAbs<=480) (h3:0 < q) (h4:Int.gcd p q=1):(RQ.of p q).ok=true:=by
 refine decide_eq_true ⟨h1,h2,fun h=>?_,decide_eq_false (by omega),by show 0 < q.natAbs;omega,h4⟩
 have h:=af h
 show p.natAbs≠0
 omega
theorem RQ.of_in {p q:Int} (h1:p.natAbs < BB ^ 32) (h2:q.natAbs < BB ^ 32):(RQ.of p q).In:=⟨h1,h2⟩
theorem Bn {n:Int} (h1 : -9223372036854775808<=n) (h2:n<=9223372036854775807):ay Tryz.prog 36 [SV.c (.int .i64 n)] (.agg (RQ.of n 1).A):=by
 refine al ai ak UL _ _ rfl rfl fun w=>?_
 exact .inl ⟨_,eF n h1 h2,.inl ⟨_,eF 1 (by omega) (by omega),_,dZ (bL _) (bL _) rfl rfl,(RQ.of n 1).A_fits,rfl,trivial⟩⟩
theorem fm {A B:Array Value} {x y:Int} (hA:IsI A x) (hB:IsI B y) (hl:(x*y).natAbs < BB ^ 32):ay Tryz.prog 93 [SV.c (.agg A),SV.c (.agg B)] (.agg (eA (x*y))):=by
 refine al ai ak T7 _ _ rfl rfl fun w=>?_
 have h:=x6 hA hB
 rw [eI,if_pos hl] at h
 exact ⟨hA.size,hB.size,.inl ⟨_,h,am _,am _,rfl,trivial⟩⟩
theorem Ah {r:RQ} (hr:r.In) (hk:r.ok=true):ay Tryz.prog 96 [SV.c (.agg r.A)] (.agg (RQ.of (-r.p) r.q).A):=by
 have hd:iA r.b r.D=eA r.q:=by
  obtain ⟨k1,k2,k3,k4,k5⟩:=RQ.ok_bits hk
  have h:RQ.A r=RQ.A (.of r.p r.q):=congrArg RQ.A k5
  have h2:=(r.cat_r).symm.trans ((congrArg (fun x=>x.extract 33 (33+33)) h).trans (RQ.cat_r (.of r.p r.q)))
  exact h2
 refine al ai ak T0 _ _ rfl rfl fun w=>?_
 refine ⟨r.A_size,by decide,_,r.cat_l,.inl ⟨_,GH hr.num,by decide,_,r.cat_r,_,dZ (bL _) (bp _ _) rfl rfl,tD (am _) (dD _ _),by kernel_rfl,?_,trivial⟩⟩
 rw [hd];rfl
theorem p7 {y:Int} {g:Nat} (hg:0 < g):decide (sgn (y / (g:Int)) < 0)=decide (y < 0):=by
 rw [ju,decide_eq_decide]
 constructor
 ·intro h
  rcases Int.lt_or_le y 0 with h1 | h1
  ·exact h1
  ·have:=Int.ediv_nonneg h1 (show (0:Int)<=g by omega);omega
 ·intro h;exact Int.ediv_neg_of_neg_of_pos h (by omega)
theorem ov {A B:Array Value} {x y:Int} (hA:IsI A x) (hB:IsI B y):ay Tryz.prog 80 [SV.c (.agg A),SV.c (.agg B)] (j7 (mkQ x y)):=by
 refine fK [8] ai ak Uf _ _ rfl rfl fun w=>?_
 refine ⟨hA.size,hB.size,.inl ⟨_,gQ hB,fun h=>?_,fun h=>?_⟩⟩
 ·rw [dx] at h
  have h:=af h
  refine ⟨cR.zero,rfl,(RQ.of 0 0).A_fits,?_,trivial⟩
  rw [mkQ,if_pos h];rfl
 rw [dx] at h
 have h:=ag h
 obtain ⟨g1,g2⟩:=AE (x:=x) h
 have gl:((Int.gcd x y:Nat):Int).natAbs < BB ^ 32:=by have:=hB.lt;omega
 have gn:((Int.gcd x y:Nat):Int)≠0:=by omega
 have d1:=p8 hA (aI gl) gn
 have d2:=p8 hB (aI gl) gn
 have lx:(x / ((Int.gcd x y:Nat):Int)).natAbs < BB ^ 32:=Nat.lt_of_le_of_lt (Int.natAbs_ediv_le_natAbs x _) hA.lt
 have ly:(y / ((Int.gcd x y:Nat):Int)).natAbs < BB ^ 32:=Nat.lt_of_le_of_lt (Int.natAbs_ediv_le_natAbs y _) hB.lt
 refine .inl ⟨_,LZ hA hB,am _,.inl ⟨_,d1,am _,am _,.inl ⟨_,d2,am _,am _,fun f mm=>f=[(4,SV.ptr 4 0),(7,SV.ptr 7 0),(10,SV.ptr 10 0)]/\mm=[(4,Blk.row 33 66 cR.zero),(7,Blk.row 31 33 (eA (x / (sgn y*Int.gcd x y)))),(10,Blk.row 31 33 (eA (y / (sgn y*Int.gcd x y))))],.inl ⟨_,gQ (aI ly),fun h2=>?_,fun h2=>?_⟩,?_⟩⟩⟩
 ·rw [p7 g1] at h2
  have h2:=af h2
  have e:sgn y*(Int.gcd x y:Int)=-((Int.gcd x y:Nat):Int):=by unfold sgn;rw [if_pos h2];omega
  refine .inl ⟨_,GH (aI lx),.inl ⟨_,GH (aI ly),am _,am _,by kernel_rfl,_,_,⟨rfl,rfl⟩,⟨rfl,rfl,rfl,trivial⟩,⟨rfl,bk (by rw [e,Int.ediv_neg]),bk (by rw [e,Int.ediv_neg]),trivial⟩,rfl⟩⟩
 ·rw [p7 g1] at h2
  have h2:=ag h2
  have e:sgn y*(Int.gcd x y:Int)=((Int.gcd x y:Nat):Int):=by unfold sgn;rw [if_neg h2,if_neg h];omega
  exact ⟨_,_,⟨rfl,rfl⟩,⟨rfl,rfl,rfl,trivial⟩,⟨rfl,bk (by rw [e]),bk (by rw [e]),trivial⟩,rfl⟩
 rintro f mm ⟨rfl,rfl⟩
 have lx2:(x / (sgn y*Int.gcd x y)).natAbs < BB ^ 32:=Nat.lt_of_le_of_lt (Int.natAbs_ediv_le_natAbs x _) hA.lt
 have ly2:(y / (sgn y*Int.gcd x y)).natAbs < BB ^ 32:=Nat.lt_of_le_of_lt (Int.natAbs_ediv_le_natAbs y _) hB.lt
 rw [mkQ,if_neg h]
 generalize x / (sgn y*Int.gcd x y)=p at *
 generalize y / (sgn y*Int.gcd x y)=q at *
 have bad:¬ (bl p.natAbs<=480/\bl q.natAbs<=480)->cW [.agg cR.zero,.int .i64 10]=j7 (if bl p.natAbs<=480/\bl q.natAbs<=480 then (.of p q,0) else (.of 0 0,10)):=fun h=>by rw [if_neg h];rfl
 refine .inl ⟨_,q9 (aI lx2),fun h2=>.inl ⟨_,q9 (aI ly2),fun h3=>⟨cR.zero,rfl,(RQ.of 0 0).A_fits,bad ?_,trivial⟩,fun h3=>⟨_,dZ (bL _) (bL _) rfl rfl,(RQ.of p q).A_fits,?_,trivial⟩⟩,fun h2=>⟨fun _=>⟨cR.zero,rfl,(RQ.of 0 0).A_fits,bad ?_,trivial⟩,nofun⟩⟩
 ·have:=af h3
  omega
 ·have h2:=ag h2
  have h3:=ag h3
  rw [if_pos (by omega)];rfl
 ·have:=af h2
  omega
theorem TS {n d:Int} (h1 : -9223372036854775808<=n) (h2:n<=9223372036854775807) (h3 : -9223372036854775808<=d) (h4:d<=9223372036854775807):ay Tryz.prog 74 [SV.c (.int .i64 n),SV.c (.int .i64 d)] (j7 (mkQ n d)):=by
 refine al ai ak Ul _ _ rfl rfl fun w=>?_
 exact .inl ⟨_,eF n h1 h2,.inl ⟨_,eF d h3 h4,.inl ⟨_,ov (aI (hS h1 h2)) (aI (hS h3 h4)),RQ.A_fits _,rfl,trivial⟩⟩⟩
theorem pG (r:RQ):r.ok=((!(r.a && decide (r.N=0))) && (!r.b && !decide (r.D=0)) && (decide (bl r.N<=480) && (decide (bl r.D<=480) && decide (Nat.gcd r.N r.D=1)))):=by
 unfold RQ.ok
 rw [Bool.eq_iff_iff]
 simp only [decide_eq_true_eq,Bool.and_eq_true,Bool.not_eq_true',Bool.and_eq_false_iff,decide_eq_false_iff_not]
 constructor
 ·rintro ⟨h1,h2,h3,h4,h5,h6⟩
  refine ⟨⟨?_,h4,by omega⟩,h1,h2,h6⟩
  by_cases h:r.a=true
  ·exact .inr (h3 h)
  ·exact .inl (by simpa using h)
 ·rintro ⟨⟨h3,h4,h5⟩,h1,h2,h6⟩
  refine ⟨h1,h2,fun h=>?_,h4,by omega,h6⟩
  rcases h3 with h3 | h3
  ·rw [h] at h3;cases h3
  ·exact h3
theorem eS {r:RQ} (h:r.In):ay Tryz.prog 92 [SV.c (.agg r.A)] (.bool r.ok):=by
 refine al ai ak T8 _ _ rfl rfl fun w=>?_
 have s1:=gQ h.num
 have s2:=gQ h.den
 have b1:=q9 h.num
 have b2:=q9 h.den
 have hg:=LZ h.num h.den
 rw [RQ.p,bt] at b1
 rw [RQ.q,bt] at b2
 rw [RQ.p,RQ.q,oy] at hg
 have one:=eF 1 (by omega) (by omega)
 have h1l:(1:Int).natAbs < BB ^ 32:=Nat.lt_of_lt_of_le (by decide:1 < 18446744073709551616) jP
 have gl:((Nat.gcd r.N r.D:Nat):Int).natAbs < BB ^ 32:=by
  rw [Int.natAbs_natCast]
  rcases Nat.eq_zero_or_pos r.N with e | e
  ·rw [e,Nat.gcd_zero_left];exact h.D
  ·exact Nat.lt_of_le_of_lt (Nat.gcd_le_left _ e) h.N
 have z1:(sgn r.p == 0)=decide (r.N=0):=by
  rw [dx,RQ.p,decide_eq_decide]
  cases r.a<;>simp [zN]
 have z2:decide (sgn r.q<=0)=!(!r.b && !decide (r.D=0)):=by
  rw [RQ.q]
  cases hb:r.b
  ·by_cases hd:r.D=0
   ·rw [hd];rfl
   ·have:sgn (zN false r.D)=1:=by unfold sgn zN;rw [if_neg Bool.false_ne_true,if_neg (by omega),if_neg (by omega)]
    rw [this,decide_eq_false hd];rfl
  ·have:sgn (zN true r.D)<=0:=by unfold sgn zN;rw [if_pos rfl];split<;>(try split)<;>omega
   rw [decide_eq_true this];rfl
 have A0:r.A[0]? = some (.bool r.a):=by
  rw [RQ.A,Array.getElem?_append_left (by rw [bp];omega)];exact dA
 have tail:(!(r.a && decide (r.N=0)))=true->(!r.b && !decide (r.D=0))=true->r.ok=(decide (bl r.N<=480) && (decide (bl r.D<=480) && decide (Nat.gcd r.N r.D=1))):=fun h1 h2=>by rw [pG,h1,h2];rfl
 refine ⟨r.A_size,_,A0,fun h1=>⟨by decide,_,r.cat_l,.inl ⟨_,s1,fun h2=>⟨by decide,_,r.cat_r,.inl ⟨_,s2,fun h3=>?_,fun h3=>?_⟩⟩,fun h2=>⟨fun _=>⟨bv ?_,trivial⟩,nofun⟩⟩⟩,fun h1=>⟨fun _=>⟨by decide,_,r.cat_r,.inl ⟨_,s2,fun h3=>?_,fun h3=>?_⟩⟩,nofun⟩⟩
 ·have h3:decide (sgn r.q<=0)=true:=h3
  rw [z2] at h3
  refine ⟨bv ?_,trivial⟩
  rw [pG,bnt h3];simp
 ·have h3:decide (sgn r.q<=0)=false:=h3
  rw [z2] at h3
  have h2:(sgn r.p == 0)=false:=h2
  rw [z1] at h2
  have hok:=tail (by rw [h2];simp) (bX h3)
  refine ⟨by decide,_,r.cat_l,.inl ⟨_,b1,fun h4=>⟨by decide,_,r.cat_r,.inl ⟨_,b2,fun h5=>⟨by decide,_,r.cat_l,by decide,_,r.cat_r,.inl ⟨_,hg,.inl ⟨_,one,_,wC rfl gl h1l,bv ?_,trivial⟩⟩⟩,fun h5=>⟨bv ?_,trivial⟩⟩⟩,fun h4=>⟨nofun,fun _=>⟨bv ?_,trivial⟩⟩⟩⟩
  ·rw [hok,decide_eq_true (show bl r.N<=480 by have:=af h4;omega),decide_eq_true (show bl r.D<=480 by have:=af h5;omega),Bool.true_and,Bool.true_and,decide_eq_decide]
   omega
  ·rw [hok,decide_eq_false (show ¬ bl r.D<=480 by have:=ag h5;omega),Bool.false_and,Bool.and_false]
  ·rw [hok,decide_eq_false (show ¬ bl r.N<=480 by have:=ag h4;omega),Bool.false_and]
 ·have h1:r.a=true:=h1
  have h2:(sgn r.p == 0)=true:=h2
  rw [z1] at h2
  rw [pG,h1,h2];rfl
 ·have h3:decide (sgn r.q<=0)=true:=h3
  rw [z2] at h3
  refine ⟨bv ?_,trivial⟩
  rw [pG,bnt h3];simp
 ·have h3:decide (sgn r.q<=0)=false:=h3
  rw [z2] at h3
  have h1:r.a=false:=h1
  have hok:=tail (by rw [h1];rfl) (bX h3)
  refine ⟨by decide,_,r.cat_l,.inl ⟨_,b1,fun h4=>⟨by decide,_,r.cat_r,.inl ⟨_,b2,fun h5=>⟨by decide,_,r.cat_l,by decide,_,r.cat_r,.inl ⟨_,hg,.inl ⟨_,one,_,wC rfl gl h1l,bv ?_,trivial⟩⟩⟩,fun h5=>⟨bv ?_,trivial⟩⟩⟩,fun h4=>⟨nofun,fun _=>⟨bv ?_,trivial⟩⟩⟩⟩
  ·rw [hok,decide_eq_true (show bl r.N<=480 by have:=af h4;omega),decide_eq_true (show bl r.D<=480 by have:=af h5;omega),Bool.true_and,Bool.true_and,decide_eq_decide]
   omega
  ·rw [hok,decide_eq_false (show ¬ bl r.D<=480 by have:=ag h5;omega),Bool.false_and,Bool.and_false]
  ·rw [hok,decide_eq_false (show ¬ bl r.N<=480 by have:=ag h4;omega),Bool.false_and]
theorem NT {r s:RQ} (hr:r.In) (hs:s.In):ay Tryz.prog 37 [SV.c (.agg r.A),SV.c (.agg s.A)] (j7 (fS false r s)):=by
 refine al ai ak UK _ _ rfl rfl fun w=>?_
 refine ⟨r.A_size,s.A_size,.inl ⟨_,eS hr,fun h1=>.inl ⟨_,eS hs,fun h2=>?_,fun h2=>?_⟩,fun h1=>?_⟩⟩
 ·have h2:=bnt h2
  refine ⟨cR.zero,rfl,(RQ.of 0 0).A_fits,?_,trivial⟩
  rw [fS,h2,Bool.and_false,if_neg Bool.false_ne_true];rfl
 ·have h1:=bX h1
  have h2:=bnf h2
  obtain ⟨k1,k2,k3,k4⟩:=kM h1 h2 false
  have ha:=IU (aI k1) (aI (z:=sg false (s.p*r.q)) k2)
  rw [eI,if_pos k4] at ha
  refine ⟨by decide,_,r.cat_l,by decide,_,s.cat_r,.inl ⟨_,fm hr.num hs.den k1,by decide,_,s.cat_l,by decide,_,r.cat_r,.inl ⟨_,fm hs.num hr.den k2,.inl ⟨_,ha,am _,by kernel_rfl,by decide,_,r.cat_r,by decide,_,s.cat_r,.inl ⟨_,fm hr.den hs.den k3,.inl ⟨_,ov (aI k4) (aI k3),RQ.A_fits _,by kernel_rfl,?_,trivial⟩⟩⟩⟩⟩⟩
  rw [fS,h1,h2,Bool.and_true,if_pos rfl];rfl
 ·have h1:=bnt h1
  refine ⟨fun _=>⟨cR.zero,rfl,(RQ.of 0 0).A_fits,?_,trivial⟩,nofun⟩
  rw [fS,h1,Bool.false_and,if_neg Bool.false_ne_true];rfl
theorem MX {s:RQ} (h:s.ok=true):(RQ.of (-s.p) s.q).ok=true/\(RQ.of (-s.p) s.q).In:=by
 obtain ⟨k1,k2,k3,k4,k5⟩:=RQ.ok_bits h
 refine ⟨RQ.ok_of (by rw [Int.natAbs_neg];exact k1) k2 k3 (by rw [Int.neg_gcd];exact k4),?_⟩
 have key:∀ z:Int,bl z.natAbs<=480->z.natAbs < BB ^ 32:=fun z h=>Nat.lt_trans (Nat.lt_of_lt_of_le (cO _).1 (Nat.pow_le_pow_right (j:=dP) (by omega) h)) uI
 exact RQ.of_in (by rw [Int.natAbs_neg];exact key _ k1) (key _ k2)
theorem MJ {r s:RQ} (hr:r.In) (hs:s.In):ay Tryz.prog 39 [SV.c (.agg r.A),SV.c (.agg s.A)] (j7 (fS true r s)):=by
 refine al ai ak UI _ _ rfl rfl fun w=>?_
 refine ⟨r.A_size,s.A_size,.inl ⟨_,eS hr,fun h1=>.inl ⟨_,eS hs,fun h2=>?_,fun h2=>?_⟩,fun h1=>?_⟩⟩
 ·have h2:=bnt h2
  refine ⟨cR.zero,rfl,(RQ.of 0 0).A_fits,?_,trivial⟩
  rw [fS,h2,Bool.and_false,if_neg Bool.false_ne_true];rfl
 ·have h1:=bX h1
  have h2:=bnf h2
  obtain ⟨n1,n2⟩:=MX h2
  have e:fS false r (.of (-s.p) s.q)=fS true r s:=by
   unfold fS
   rw [h1,h2,n1,RQ.of_p,RQ.of_q]
   simp only [sg,Bool.and_true,if_true,Bool.false_eq_true,if_false,Int.neg_mul]
  have ha:=NT hr n2
  rw [e] at ha
  exact .inl ⟨_,Ah hs h2,.inl ⟨_,ha,RQ.A_fits _,by kernel_rfl,rfl,trivial⟩⟩
 ·have h1:=bnt h1
  refine ⟨fun _=>⟨cR.zero,rfl,(RQ.of 0 0).A_fits,?_,trivial⟩,nofun⟩
  rw [fS,h1,Bool.false_and,if_neg Bool.false_ne_true];rfl
theorem M5 {r s:RQ} (hr:r.In) (hs:s.In):ay Tryz.prog 35 [SV.c (.agg r.A),SV.c (.agg s.A)] (j7 (bR r s)):=by
 refine al ai ak UM _ _ rfl rfl fun w=>?_
 refine ⟨r.A_size,s.A_size,.inl ⟨_,eS hr,fun h1=>.inl ⟨_,eS hs,fun h2=>?_,fun h2=>?_⟩,fun h1=>?_⟩⟩
 ·have h2:=bnt h2
  refine ⟨cR.zero,rfl,(RQ.of 0 0).A_fits,?_,trivial⟩
  rw [bR,h2,Bool.and_false,if_neg Bool.false_ne_true];rfl
 ·have h1:=bX h1
  have h2:=bnf h2
  have k1:=RQ.ok_bits h1
  have k2:=RQ.ok_bits h2
  have m1:=dS k1.1 k2.1
  have m2:=dS k1.2.1 k2.2.1
  refine ⟨by decide,_,r.cat_l,by decide,_,s.cat_l,.inl ⟨_,fm hr.num hs.num m1,by decide,_,r.cat_r,by decide,_,s.cat_r,.inl ⟨_,fm hr.den hs.den m2,.inl ⟨_,ov (aI m1) (aI m2),RQ.A_fits _,by kernel_rfl,?_,trivial⟩⟩⟩⟩
  rw [bR,h1,h2,Bool.and_true,if_pos rfl];rfl
 ·have h1:=bnt h1
  refine ⟨fun _=>⟨cR.zero,rfl,(RQ.of 0 0).A_fits,?_,trivial⟩,nofun⟩
  rw [bR,h1,Bool.false_and,if_neg Bool.false_ne_true];rfl
def fi (r:RQ):RQ×Int:=if r.ok then (.of (r.p.natAbs:Int) r.q,0) else (.of 0 0,20)
theorem Ig {r:RQ} (hk:r.ok=true):iA r.b r.D=eA r.q:=by
 obtain ⟨k1,k2,k3,k4,k5⟩:=RQ.ok_bits hk
 have h:RQ.A r=RQ.A (.of r.p r.q):=congrArg RQ.A k5
 exact (r.cat_r).symm.trans ((congrArg (fun x=>x.extract 33 (33+33)) h).trans (RQ.cat_r (.of r.p r.q)))
theorem NU {r:RQ} (hr:r.In):ay Tryz.prog 40 [SV.c (.agg r.A)] (j7 (fi r)):=by
 refine al ai ak UH _ _ rfl rfl fun w=>?_
 refine ⟨r.A_size,.inl ⟨_,eS hr,fun h1=>?_,fun h1=>?_⟩⟩
 ·have h1:=bnt h1
  refine ⟨cR.zero,rfl,(RQ.of 0 0).A_fits,?_,trivial⟩
  rw [fi,h1,if_neg Bool.false_ne_true];rfl
 ·have h1:=bnf h1
  refine ⟨by decide,_,r.cat_l,.inl ⟨_,IW hr.num,by decide,_,r.cat_r,_,dZ (bL _) (bp _ _) rfl rfl,tD (am _) (dD _ _),by kernel_rfl,?_,trivial⟩⟩
  rw [fi,h1,if_pos rfl,Ig h1];rfl
theorem A8 {r s:RQ} (hr:r.In) (hs:s.In) (h1:(r.p*s.q).natAbs < BB ^ 32) (h2:(s.p*r.q).natAbs < BB ^ 32):ay Tryz.prog 41 [SV.c (.agg r.A),SV.c (.agg s.A)] (.int .i64 (eK (r.p*s.q) (s.p*r.q))):=by
 refine al ai ak UG _ _ rfl rfl fun w=>?_
 exact ⟨r.A_size,s.A_size,by decide,_,r.cat_l,by decide,_,s.cat_r,.inl ⟨_,fm hr.num hs.den h1,by decide,_,s.cat_l,by decide,_,r.cat_r,.inl ⟨_,fm hs.num hr.den h2,.inl ⟨_,L8 (aI h1) (aI h2),by kernel_rfl,rfl,trivial⟩⟩⟩⟩
def dE (r:RQ) (lo hi:Int):Bool:=r.ok && (decide (lo*r.q<=r.p) && decide (r.p<=hi*r.q))
theorem Gb {E:Env} (hE:E.P=Tryz.prog) (r:RQ):bH E (Instr.field 33 (.agg r.A) 0) (.agg (iA r.a r.N)):=fun w _=>by
 rw [hE]
 have h:=bZ (P:=Tryz.prog) w8 rfl r.A 0 w
 have e:r.A.extract 0 (0+eW.size)=iA r.a r.N:=r.cat_l
 rw [e] at h
 simp [Instr.field,Sem.run_bind,run_underlying Tryz.underlying33,asAgg,h]
theorem JP {n:Nat} (h:n<=18):ay Tryz.prog 286 [SV.c (.int .i64 n)] (.agg (RQ.of ((tp n:Nat):Int) 1).A):=by
 refine al ai ak Qg _ _ rfl rfl fun w=>?_
 have hpn:=sh h
 rw [My] at hpn
 refine ⟨fun q f m=>∃ i:Nat,q=n - i/\i<=n/\f=[(0,SV.c (.int .i64 n)),(2,SV.ptr 2 0),(3,SV.c (.int .i64 ((tp i:Nat):Int))),(4,SV.c (.int .i64 i))]/\m=[(2,Blk.row 33 66 cR.zero)],n,⟨_,_,⟨0,rfl,Nat.zero_le _,rfl,rfl⟩,⟨rfl,rfl,rfl,rfl,trivial⟩,⟨rfl,trivial⟩,rfl⟩,?_⟩
 rintro q f m ⟨i,rfl,hi,rfl,rfl⟩
 refine ⟨fun h1=>?_,fun h1=>?_⟩
 ·have h1:(i:Int) < n:=af h1
  have hp:tp (i+1)<=tp 18:=sh (by omega)
  refine ⟨n - (i+1),_,_,by omega,⟨i+1,rfl,by omega,rfl,rfl⟩,⟨rfl,rfl,ar ?_,ar (by rw [i64_in (by omega)];rfl),trivial⟩,⟨rfl,trivial⟩,rfl⟩
  rw [rD,My] at hp
  rw [rD]
  rw [i64_in (by omega)]
  omega
 ·have h1:¬ ((i:Int) < n):=ag h1
  obtain rfl:i=n:=by omega
  exact .inl ⟨_,Bn (by omega) (by omega),RQ.A_fits _,rfl,trivial⟩
theorem F7 {r:RQ} (hr:r.In) (hk:r.ok=true) {n:Nat} (hn:n<=9):ay Tryz.prog 243 [SV.c (.agg r.A),SV.c (.int .i64 n)] (.tuple #[.agg (eA (r.p*((tp n:Nat):Int))),.agg (eA r.q)]):=by
 refine al ai ak QN _ _ rfl rfl fun w=>?_
 obtain ⟨k1,k2,k3,k4,k5⟩:=RQ.ok_bits hk
 have hp:=sh hn
 rw [tp9] at hp
 have hl:=xu k1 hn
 have hm:=x6 hr.num (aI (z:=((tp n:Nat):Int)) (hS (by omega) (by omega)))
 rw [eI,if_pos hl] at hm
 rw [<- Ig hk]
 exact ⟨r.A_size,by decide,_,r.cat_l,.inl ⟨_,JP (by omega),_,Gb rfl (.of _ _),.inl ⟨_,hm,am _,by kernel_rfl,by decide,_,r.cat_r,am _,dD _ _,by kernel_rfl,rfl,trivial⟩⟩⟩
def Gq (n:Int):Bool:=decide (n >= 0) && decide (n<=9)
theorem xP {n:Int}:Gq n=true↔¬ (n < 0\/n > 9):=by
 unfold Gq;simp only [Bool.and_eq_true,decide_eq_true_eq];omega
theorem Gp (n:Int):ay Tryz.prog 242 [SV.c (.int .i64 n)] (.bool (Gq n)):=by
 refine al ai ak QO _ _ rfl rfl fun w=>?_
 refine ⟨fun h=>⟨bv ?_,trivial⟩,fun h=>⟨bv ?_,trivial⟩⟩
 ·have h:decide (n >= 0)=true:=h
  rw [Gq,h,Bool.true_and]
 ·have h:decide (n >= 0)=false:=h
  rw [Gq,h,Bool.false_and]
theorem Lj {mode:Int} (_hm:¬ (mode < 1\/mode > 6)) (neg:Bool) (half:Int) (odd:Bool):ay Tryz.prog 244 [SV.c (.int .i64 mode),SV.c (.bool neg),SV.c (.int .i64 half),SV.c (.bool odd)] (.bool (upM mode neg half odd)):=by
 refine al ai ak QM _ _ rfl rfl fun w=>?_
 unfold upM
 refine ⟨fun h1=>⟨bv ?_,trivial⟩,fun h1=>⟨fun h2=>⟨bv ?_,trivial⟩,fun h2=>⟨fun h3=>⟨bv ?_,trivial⟩,fun h3=>⟨fun h4=>⟨bv ?_,trivial⟩,fun h4=>⟨fun h5=>⟨bv ?_,trivial⟩,fun h5=>⟨fun h6=>⟨bv ?_,trivial⟩,fun h6=>⟨bv ?_,trivial⟩⟩⟩⟩⟩⟩⟩
 all_goals simp only [beq_iff_eq,beq_eq_false_iff_ne,ne_eq,bne_iff_ne,bne_eq_false_iff_eq] at *
 ·rw [if_pos h1]
 ·rw [if_neg h1,if_pos h2]
 ·rw [if_neg h1,if_neg h2,if_pos h3]
 ·rw [if_neg h1,if_neg h2,if_neg h3,if_pos h4]
 ·rw [if_neg h1,if_neg h2,if_neg h3,if_neg h4,if_neg h5,if_neg h5,ite_self]
 ·rw [if_neg h1,if_neg h2,if_neg h3,if_neg h4,if_pos h6,if_pos h5]
 ·rw [if_neg h1,if_neg h2,if_neg h3,if_neg h4,if_neg h6,if_pos h5]
theorem JB {r:RQ} (hr:r.In) (n mode:Int):ay Tryz.prog 202 [SV.c (.agg r.A),SV.c (.int .i64 n),SV.c (.int .i64 mode)] (Pe (f8 r n mode)):=by
 refine al ai ak Rl _ _ rfl rfl fun w=>?_
 refine ⟨r.A_size,.inl ⟨_,eS hr,fun h1=>⟨eW.zero,rfl,am 0,?_,trivial⟩,fun h1=>.inl ⟨_,Gp n,fun h2=>⟨eW.zero,rfl,am 0,?_,trivial⟩,fun h2=>⟨fun h3=>⟨fun h4=>⟨eW.zero,rfl,am 0,?_,trivial⟩,fun h4=>?_⟩,fun h3=>⟨fun _=>⟨eW.zero,rfl,am 0,?_,trivial⟩,nofun⟩⟩⟩⟩⟩
 ·have h1:=bnt h1
  rw [f8,h1,Bool.not_false,if_pos rfl];rfl
 all_goals
  have hk:=bnf h1
  clear h1
 ·have h2:=bnt h2
  have h2:n < 0\/n > 9:=Decidable.of_not_not fun h=>by rw [xP.2 h] at h2;cases h2
  rw [f8,hk,Bool.not_true,if_neg Bool.false_ne_true,if_pos h2];rfl
 all_goals
  have hn:=xP.1 (bnf h2)
  clear h2
 ·have h4:=af h4
  rw [f8,hk,Bool.not_true,if_neg Bool.false_ne_true,if_neg hn,if_pos (.inr h4)];rfl
 rotate_left
 ·have h3:=af h3
  rw [f8,hk,Bool.not_true,if_neg Bool.false_ne_true,if_neg hn,if_pos (.inl h3)];rfl
 have h3:=ag h3
 have h4:=ag h4
 have hm:¬ (mode < 1\/mode > 6):=by omega
 obtain ⟨k,rfl⟩:∃ k:Nat,n=k:=⟨n.toNat,by omega⟩
 have hk9:k<=9:=by omega
 obtain ⟨k1,k2,k3,k4,k5⟩:=RQ.ok_bits hk
 have hs:=F7 hr hk hk9
 have hl:=lB k1 hk9
 have hql:r.q.natAbs < 2 ^ dP:=Nat.lt_of_lt_of_le (cO _).1 (Nat.pow_le_pow_right (by omega) k2)
 have hrl:(r.p*((tp k:Nat):Int) % r.q).natAbs < 2 ^ dP:=by
  have h1:=Int.emod_lt_of_pos (r.p*((tp k:Nat):Int)) k3
  have h2:=Int.emod_nonneg (r.p*((tp k:Nat):Int)) (show r.q≠0 by omega)
  omega
 have hlow:(r.p*((tp k:Nat):Int) / r.q).natAbs < 2 ^ lg:=Nat.lt_of_le_of_lt (Int.natAbs_ediv_le_natAbs _ _) hl
 have p1:=uI
 have p2:=Cq
 have p3:=Cp
 have pp:2 ^ dP+2 ^ dP<=2 ^ lg:=by decide +kernel
 have p4:1<=2 ^ lg:=Nat.pow_pos (by omega)
 rw [f8,hk,Bool.not_true,if_neg Bool.false_ne_true,if_neg hn,if_neg hm,Int.toNat_natCast]
 unfold vU
 have hd:=p8 (aI (z:=r.p*((tp k:Nat):Int)) (by omega)) (aI (z:=r.q) (by omega)) (by omega)
 have hsx:=gQ (aI (z:=r.p*((tp k:Nat):Int)) (by omega))
 generalize r.p*((tp k:Nat):Int) / r.q=low at *
 generalize r.p*((tp k:Nat):Int) % r.q=rest at *
 generalize r.p*((tp k:Nat):Int)=x at *
 have ht:=IU (aI (z:=rest) (by omega)) (aI (z:=rest) (by omega))
 rw [eI,if_pos (by omega)] at ht
 have hcm:=L8 (aI (z:=rest+rest) (by omega)) (aI (z:=r.q) (by omega))
 have ha:=IU (aI (z:=low) (by omega)) (aI (z:=1) (by omega))
 rw [eI,if_pos (by omega)] at ha
 have g0:(eA low)[1]? = some (.int .u32 (dg low.natAbs 0:Nat)):=s7 (i:=0) (by omega)
 have eodd:(((((dg low.natAbs 0:Nat):Int)).tmod 2) == 1)=decide (low % 2=1):=by
  rw [dg0,Bool.eq_iff_iff]
  simp only [beq_iff_eq,decide_eq_true_eq]
  rw [Int.tmod_eq_emod_of_nonneg (by omega)]
  omega
 have hab:=Lj hm (decide (sgn x < 0)) (eK (rest+rest) r.q) (((((dg low.natAbs 0:Nat):Int)).tmod 2) == 1)
 refine .inl ⟨_,hs,am _,am _,.inl ⟨_,hd,am _,am _,.inl ⟨_,gQ (aI (z:=rest) (by omega)),fun h1=>?_,fun h1=>?_⟩⟩⟩
 ·rw [dx] at h1
  have h1:rest=0:=af h1
  refine ⟨am _,?_,trivial⟩
  rw [if_pos h1];rfl
 ·rw [dx] at h1
  have h1:¬ rest=0:=ag h1
  rw [if_neg h1]
  refine .inl ⟨_,ht,am _,.inl ⟨_,hsx,.inl ⟨_,hcm,by decide,by decide,_,g0,by decide,.inl ⟨_,hab,by kernel_rfl,fun h2=>?_,fun h2=>?_⟩⟩⟩⟩
  ·have h2:upM mode (decide (sgn x < 0)) (eK (rest+rest) r.q) (((((dg low.natAbs 0:Nat):Int)).tmod 2) == 1)=true:=h2
   rw [eodd,ju] at h2
   refine .inl ⟨_,eF 1 (by omega) (by omega),.inl ⟨_,ha,am _,by kernel_rfl,am _,?_,trivial⟩⟩
   rw [h2,if_pos rfl];rfl
  ·have h2:upM mode (decide (sgn x < 0)) (eK (rest+rest) r.q) (((((dg low.natAbs 0:Nat):Int)).tmod 2) == 1)=false:=h2
   rw [eodd,ju] at h2
   refine ⟨am _,?_,trivial⟩
   rw [h2,if_neg Bool.false_ne_true];rfl
theorem z6 {r:RQ} (hr:r.In) (n mode:Int):ay Tryz.prog 143 [SV.c (.agg r.A),SV.c (.int .i64 n),SV.c (.int .i64 mode)] (JE (kR (f8 r n mode))):=by
 refine al ai ak Sj _ _ rfl rfl fun w=>?_
 have hx:=JB hr n mode
 have hlt:=BL r n mode
 generalize f8 r n mode=x at *
 obtain ⟨x,e⟩:=x
 have ht:=Jn (aI hlt)
 have hx:ay Tryz.prog 202 [SV.c (.agg r.A),SV.c (.int .i64 n),SV.c (.int .i64 mode)] (.tuple #[.agg (eA x),.int .i64 e]):=hx
 have ht:ay Tryz.prog 203 [SV.c (.agg (eA x))] (dm x):=ht
 refine ⟨r.A_size,.inl ⟨_,hx,am _,fun h=>?_,fun h=>?_⟩⟩
 ·have h:e≠0:=by simpa using h
  refine ⟨?_,trivial⟩
  rw [kR,if_pos h];rfl
 ·have h:¬ (e≠0):=by simpa using h
  rw [kR,if_neg h]
  by_cases hz : -9223372036854775808<=x/\x<=9223372036854775807
  ·rw [dm,if_pos hz] at ht
   refine .inl ⟨_,ht,fun _=>⟨fun h1=>⟨fun h2=>?_,fun h2=>?_⟩,fun h1=>⟨fun _=>?_,nofun⟩⟩,nofun⟩
   ·have h2:=af h2
    refine ⟨?_,trivial⟩
    rw [if_pos (.inl h2)];rfl
   ·have h1:=ag h1
    have h2:=ag h2
    refine ⟨?_,trivial⟩
    rw [if_neg (by omega)];rfl
   ·have h1:=af h1
    refine ⟨?_,trivial⟩
    rw [if_pos (.inr h1)];rfl
  ·rw [dm,if_neg hz] at ht
   refine .inl ⟨_,ht,nofun,fun _=>⟨nofun,fun _=>⟨fun _=>⟨?_,trivial⟩,nofun⟩⟩⟩
   rw [if_pos (show (x,e).1 < -1000000000000000\/(x,e).1 > 1000000000000000 by show x < _\/x > _;omega)];rfl
end Go.Proofs.YtklehfchdoikeaaGreatDoor
