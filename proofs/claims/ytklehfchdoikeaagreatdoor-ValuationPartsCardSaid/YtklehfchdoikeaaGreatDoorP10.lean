/- walks: limbs; no condition. -/
import Derived.IntWalk
import Derived.Laws.BitsAllLaws
import Derived.Test.YtklehfchdoikeaaGreatDoorP8
import Derived.Test.YtklehfchdoikeaaGreatDoorP1
set_option maxRecDepth 100000
set_option maxHeartbeats 4000000
namespace Go.Proofs.YtklehfchdoikeaaGreatDoor
open Go Go.RowKit Go.SX
theorem i64_in {x:Int} (h : -9223372036854775808<=x/\x<=9223372036854775807):IntKind.i64.wrap x=x:=IntWalk.i64_in _ h
theorem bM (x:Int):IntKind.u32.wrap x=x % 4294967296:=by simp [IntKind.wrap,IntKind.bits,IntKind.signed]
theorem dL (x:Int):IntKind.u64.wrap x=x % 18446744073709551616:=by simp [IntKind.wrap,IntKind.bits,IntKind.signed]
def lA (f:Nat->Nat) (n:Nat):Array Value:=((List.range n).map fun i=>Value.int .u32 ((f i:Nat):Int)).toArray
theorem fC (f:Nat->Nat) (n:Nat):(lA f n).size=n:=by simp [lA]
theorem bG (f:Nat->Nat) {n i:Nat} (h:i < n):(lA f n)[i]? = some (.int .u32 ((f i:Nat):Int)):=by simp [lA,h]
theorem dU (f:Nat->Nat) (n:Nat):Fits (lA f n) n:=⟨fC f n,by
 rw [Array.all_eq_true_iff_forall_mem]
 intro v hv
 simp only [lA,List.mem_toArray,List.mem_map] at hv
 obtain ⟨i,_,rfl⟩:=hv
 rfl⟩
theorem aN {f g:Nat->Nat} {n:Nat} (h:∀ i,i < n->f i=g i):lA f n=lA g n:=by
 unfold lA
 congr 1
 refine List.map_congr_left fun i hi=>?_
 rw [h i (by simpa using hi)]
theorem kY (f:Nat->Nat) (n k v:Nat):(lA f n).setIfInBounds k (.int .u32 ((v:Nat):Int))=lA (fun x=>if x=k then v else f x) n:=by
 apply Array.ext_getElem?
 intro i
 by_cases hi:i < n
 ·rw [bG _ hi]
  by_cases e:i=k
  ·subst e;rw [Array.getElem?_setIfInBounds_self_of_lt (by rw [fC];exact hi)];simp
  ·rw [Array.getElem?_setIfInBounds_ne (fun h=>e h.symm),bG _ hi,if_neg e]
 ·rw [Array.getElem?_eq_none (by simp [fC];omega),Array.getElem?_eq_none (by simp [fC];omega)]
def mA (N:Nat):Array Value:=lA (dg N) 32
theorem bh {N i:Nat} (h:i < 32):(mA N)[i]? = some (.int .u32 ((dg N i:Nat):Int)):=bG _ h
theorem aE (N:Nat):Fits (mA N) 32:=dU _ _
theorem bU (N:Nat):(mA N).size=32:=fC _ _
theorem dr {N:Nat}:∀ {k:Nat},N < BB ^ k->∃ n,n<=k/\IsUsed N n
 | 0,h=>⟨0,by omega,h,fun h=>absurd h (by omega)⟩
 | k+1,h=>by
  by_cases e:N < BB ^ k
  ·obtain ⟨n,h1,h2⟩:=dr e;exact ⟨n,by omega,h2⟩
  ·exact ⟨k+1,by omega,h,fun _=>by simpa using e⟩

theorem iV {N n:Nat} (hu:IsUsed N n) (hN:N < BB ^ 32) (E:Env) (hE:E.P=Tryz.prog) (d:Key):Own E 255 [SV.ptr d 0] [(d,Blk.row 201 32 (mA N))] (SV.c (.int .i64 n)) [(d,Blk.row 201 32 (mA N))]:=by
 refine pd ai ak Qz E hE d (201,32,mA N,mA N) [SV.ptr 1000 0] _ rfl rfl fun w b hO=>?_
 refine ⟨fun k f m=>k<=32/\N < BB ^ k/\f=[(0,SV.ptr 1000 0),(3,SV.c (.int .i64 k))]/\m=[(1000,Blk.row 201 32 (mA N))],32,⟨_,_,⟨by omega,hN,rfl,rfl⟩,⟨rfl,rfl,trivial⟩,⟨rfl,trivial⟩,rfl⟩,?_⟩
 rintro k f m ⟨hk,hlt,rfl,rfl⟩
 refine ⟨fun h=>?_,fun h=>?_⟩
 ·have h1:(0:Int) < k:=af h
  have e:IntKind.i64.wrap ((k:Int) - 1)=((k - 1:Nat):Int):=by rw [i64_in (by omega)];omega
  have hg:(mA N)[(IntKind.i64.wrap ((k:Int) - 1)).toNat]? = some (.int .u32 ((dg N (k - 1):Nat):Int)):=by rw [e];exact bh (by omega)
  refine ⟨by rw [e];omega,by rw [e];show ((k - 1:Nat):Int) < 32;omega,_,hg,fun h2=>?_,fun h2=>?_⟩
  ·have h3:dg N (k - 1)=0:=by have:((dg N (k - 1):Nat):Int)=0:=by simpa using h2
                              omega
   exact ⟨k - 1,_,_,by omega,⟨by omega,qQ (by rw [show k - 1+1=k by omega];exact hlt) h3,rfl,rfl⟩,⟨rfl,ar e,trivial⟩,⟨rfl,trivial⟩,rfl⟩
  ·have h3:dg N (k - 1)≠0:=by intro h;rw [h] at h2;simp at h2
   have:k=n:=IsUsed.unique (Bx hlt (.inr h3)) hu
   exact ⟨by rw [this];rfl,rfl,trivial⟩
 ·refine ⟨nofun,fun _=>?_⟩
  have h1:¬ ((k:Int) > 0):=ag h
  have:k=n:=IsUsed.unique ⟨hlt,fun hk=>absurd hk (by omega)⟩ hu
  exact ⟨by rw [this];rfl,rfl,trivial⟩
def jK (N M:Nat):Int:=if N < M then -1 else if M < N then 1 else 0
theorem li {N M:Nat} (hN:N < BB ^ 32) (hM:M < BB ^ 32) (E:Env) (hE:E.P=Tryz.prog) (d e:Key) (hde:d≠e):Own E 235 [SV.ptr d 0,SV.ptr e 0] [(d,Blk.row 201 32 (mA N)),(e,Blk.row 201 32 (mA M))] (SV.c (.int .i64 (jK N M))) [(d,Blk.row 201 32 (mA N)),(e,Blk.row 201 32 (mA M))]:=by
 refine rE ai ak QQ E hE d e hde (201,32,mA N,mA N) (201,32,mA M,mA M) [SV.ptr 1000 0,SV.ptr 1001 0] _ rfl rfl fun w b b' hO=>?_
 refine ⟨fun k f m=>k<=32/\N / BB ^ k=M / BB ^ k/\f=[(0,SV.ptr 1000 0),(1,SV.ptr 1001 0),(5,SV.c (.int .i64 ((k:Int) - 1)))]/\m=[(1000,Blk.row 201 32 (mA N)),(1001,Blk.row 201 32 (mA M))],32,⟨_,_,⟨by omega,by rw [Nat.div_eq_of_lt hN,Nat.div_eq_of_lt hM],rfl,rfl⟩,⟨rfl,rfl,rfl,trivial⟩,⟨rfl,rfl,trivial⟩,rfl⟩,?_⟩
 rintro k f m ⟨hk,heq,rfl,rfl⟩
 refine ⟨fun h=>?_,fun h=>?_⟩
 ·have h1:(k:Int) - 1 >= 0:=af h
  have e:((k:Int) - 1).toNat=k - 1:=by omega
  have hn:(mA N)[((k:Int) - 1).toNat]? = some (.int .u32 ((dg N (k - 1):Nat):Int)):=by rw [e];exact bh (by omega)
  have hm:(mA M)[((k:Int) - 1).toNat]? = some (.int .u32 ((dg M (k - 1):Nat):Int)):=by rw [e];exact bh (by omega)
  have hb:(k:Int) - 1 < 32:=by omega
  have hs:N / BB ^ (k - 1+1)=M / BB ^ (k - 1+1):=by rw [show k - 1+1=k by omega];exact heq
  refine ⟨h1,hb,_,hn,h1,hb,_,hm,by kernel_rfl,fun h2=>?_,fun h2=>⟨h1,hb,_,hn,h1,hb,_,hm,by kernel_rfl,fun h3=>?_,fun h3=>?_⟩⟩
  ·have h3:dg N (k - 1) < dg M (k - 1):=by have:=af h2;omega
   have:=wH hs h3
   exact ⟨by simp only [jK,if_pos this];rfl,rfl,rfl,trivial⟩
  ·have h4:dg M (k - 1) < dg N (k - 1):=by have:=af h3;omega
   have:=wH hs.symm h4
   exact ⟨by simp only [jK,if_neg (show ¬ N < M by omega),if_pos this];rfl,rfl,rfl,trivial⟩
  ·have h4:dg N (k - 1)=dg M (k - 1):=by
     have:=ag h2
     have:=ag h3
     omega
   exact ⟨k - 1,_,_,by omega,⟨by omega,y7 hs h4,rfl,rfl⟩,⟨rfl,rfl,ar (by rw [i64_in (by omega)];omega),trivial⟩,⟨rfl,rfl,trivial⟩,rfl⟩
 ·have h1:¬ ((k:Int) - 1 >= 0):=ag h
  obtain rfl:k=0:=by omega
  simp only [Nat.pow_zero,Nat.div_one] at heq
  exact ⟨by simp only [jK,heq,Nat.lt_irrefl,if_false];rfl,rfl,rfl,trivial⟩
theorem kL {a b c d:Value} (h:a=c) (k:b=d):Value.tuple #[a,b]=.tuple #[c,d]:=by rw [h,k]
theorem iv {k:IntKind} {a b:Int} (h:a=b):Value.int k a=.int k b:=by rw [h]
theorem bv {a b:Bool} (h:a=b):Value.bool a=.bool b:=by rw [h]
theorem rG (x:Int) (n:Nat):x.fdiv (2 ^ n)=x / 2 ^ n:=Int.fdiv_eq_ediv_of_nonneg _ (Int.le_of_lt (Int.pow_pos (by omega)))
def NJ (x y c:Int):Int:=if x < y+c then 1 else 0
theorem Jk {E:Nat} (h:E < 4294967296):E / 2147483648=if E.testBit 31 then 1 else 0:=by
 rw [Nat.testBit_eq_decide_div_mod_eq]
 show E / 2147483648=if decide (E / 2147483648 % 2=1)=true then 1 else 0
 by_cases hE:E / 2147483648 % 2=1
 ·simp [hE];omega
 ·simp [hE];omega
theorem IG (x:Nat) (h:x < 4294967296):x.testBit 31=decide (2147483648<=x):=by
 rw [Nat.testBit_eq_decide_div_mod_eq]
 show decide (x / 2147483648 % 2=1)=_
 rw [Bool.eq_iff_iff];simp;omega
theorem zJ (x y c:Int) (hx:0<=x) (hx2:x < 4294967296) (hy:0<=y) (hy2:y < 4294967296) (hc:0<=c) (hc2:c<=1) :
    bits .or .u32 (bits .and .u32 (bits .xor .u32 IntKind.u32.max x) y) (bits .and .u32 (bits .xor .u32 IntKind.u32.max (bits .xor .u32 x y)) ((x - y - c) % 4294967296)) / 2147483648=NJ x y c:=by
 obtain ⟨a,rfl⟩:=Int.eq_ofNat_of_zero_le hx
 obtain ⟨b,rfl⟩:=Int.eq_ofNat_of_zero_le hy
 obtain ⟨d,hd⟩:∃ d:Nat,((a:Int) - b - c) % 4294967296=d:=⟨(((a:Int) - b - c) % 4294967296).toNat,by omega⟩
 have hdl:d < 4294967296:=by omega
 have ha:a < 4294967296:=by omega
 have hb:b < 4294967296:=by omega
 have hm:IntKind.u32.max=((4294967295:Nat):Int):=by decide
 rw [hd,hm,u32_xor_nat _ _ (by omega) ha,u32_xor_nat _ _ ha hb]
 have l1:4294967295 ^^^ a < 4294967296:=Nat.xor_lt_two_pow (n:=32) (by omega) ha
 have l2:a ^^^ b < 4294967296:=Nat.xor_lt_two_pow (n:=32) ha hb
 rw [u32_and_nat _ _ l1 hb,u32_xor_nat _ _ (by omega) l2]
 have l3:4294967295 ^^^ (a ^^^ b) < 4294967296:=Nat.xor_lt_two_pow (n:=32) (by omega) l2
 rw [u32_and_nat _ _ l3 hdl]
 have l4:(4294967295 ^^^ a) &&& b < 4294967296:=Nat.and_lt_two_pow (n:=32) _ hb
 have l5:(4294967295 ^^^ (a ^^^ b)) &&& d < 4294967296:=Nat.and_lt_two_pow (n:=32) _ hdl
 rw [u32_or_nat _ _ l4 l5]
 have l6:((4294967295 ^^^ a) &&& b) ||| ((4294967295 ^^^ (a ^^^ b)) &&& d) < 4294967296:=Nat.or_lt_two_pow (n:=32) l4 l5
 have e:=Jk l6
 rw [show ((2147483648:Int))=((2147483648:Nat):Int) from rfl,<- Int.natCast_ediv,e]
 simp only [Nat.testBit_or,Nat.testBit_and,Nat.testBit_xor,IG a ha,IG b hb,IG d hdl,show Nat.testBit 4294967295 31=true from by decide]
 unfold NJ
 clear e l1 l2 l3 l4 l5 l6 hm
 by_cases p1:2147483648<=a<;>by_cases p2:2147483648<=b<;>by_cases p3:2147483648<=d<;>simp [p1,p2,p3]<;>omega

theorem tP (x y c:Nat) (hx:x < BB) (hy:y < BB) (hc:c<=1):ay Tryz.prog 259 [SV.c (.int .u32 x),SV.c (.int .u32 y),SV.c (.int .u32 c)] (.tuple #[.int .u32 (((x+y+c) % BB:Nat)),.int .u32 (((x+y+c) / BB:Nat))]):=by
 rw [aR] at *
 refine al ai ak Qv _ _ rfl rfl fun w=>?_
 have e1:IntKind.u64.wrap (IntKind.u64.wrap (IntKind.u64.wrap (x:Int)+IntKind.u64.wrap (y:Int))+IntKind.u64.wrap (c:Int))=(x:Int)+y+c:=by simp only [dL];omega
 refine ⟨by decide,kL (iv ?_) (iv ?_),trivial⟩
 ·rw [e1,bM];omega
 ·rw [e1,bM,rG]
  show ((x:Int)+y+c) / 4294967296 % 4294967296=_
  omega
theorem od (x y c:Nat) (hx:x < BB) (hy:y < BB) (hc:c<=1):ay Tryz.prog 258 [SV.c (.int .u32 x),SV.c (.int .u32 y),SV.c (.int .u32 c)] (.tuple #[.int .u32 (((x+BB - (y+c)) % BB:Nat)),.int .u32 ((if x < y+c then 1 else 0:Nat))]):=by
 rw [aR] at *
 refine al ai ak Qw _ _ rfl rfl fun w=>?_
 have e1:IntKind.u32.wrap (IntKind.u32.wrap ((x:Int) - y) - c)=((x:Int) - y - c) % 4294967296:=by simp only [bM];omega
 refine ⟨by decide,kL (iv ?_) (iv ?_),trivial⟩
 ·rw [e1];omega
 ·have h:=zJ (x:Int) y c (by omega) (by omega) (by omega) (by omega) (by omega) (by omega)
  rw [<- e1] at h
  rw [rG]
  refine Eq.trans h ?_
  unfold NJ
  by_cases e:x < y+c
  ·rw [if_pos e,if_pos (by omega)];rfl
  ·rw [if_neg e,if_neg (by omega)];rfl
theorem xX (f a b:Nat->Nat):nv f 0+0*BB ^ 0=nv a 0+nv b 0:=by simp [nv]
theorem uD (f a b:Nat->Nat):nv f 0+nv b 0=nv a 0+0*BB ^ 0:=by simp [nv]
theorem lF {f:Nat->Nat} {k v:Nat}:nv (fun x=>if x=k then v else f x) k=nv f k:=dh fun j hj=>if_neg (by omega)
theorem xO {N M c:Nat} {f:Nat->Nat} (hN:N < BB ^ 32) (hM:M < BB ^ 32) (hf:∀ j,j < 32->f j < BB) (h:nv f 32+c*BB ^ 32=nv (dg N) 32+nv (dg M) 32):nv f 32=(N+M) % BB ^ 32/\decide (N+M < BB ^ 32)=decide (c=0):=by
 rw [bD hN,bD hM] at h
 have hl:=mp hf
 generalize BB ^ 32=P at *
 constructor
 ·rw [<- h,Nat.mul_comm,Nat.add_mul_mod_self_left,Nat.mod_eq_of_lt hl]
 ·rw [Bool.eq_iff_iff]
  simp only [decide_eq_true_eq]
  rw [<- h]
  constructor
  ·intro h1
   cases c with
   | zero=>rfl
   | succ c=>rw [Nat.add_mul,Nat.one_mul] at h1;omega
  ·intro h1;subst h1;omega
theorem DL {N M c:Nat} {f:Nat->Nat} (hN:N < BB ^ 32) (hM:M<=N) (hf:∀ j,j < 32->f j < BB) (h:nv f 32+nv (dg M) 32=nv (dg N) 32+c*BB ^ 32):nv f 32=N - M:=by
 rw [bD hN,bD (Nat.lt_of_le_of_lt hM hN)] at h
 have hl:=mp hf
 generalize BB ^ 32=P at *
 cases c with
 | zero=>omega
 | succ c=>rw [Nat.add_mul,Nat.one_mul] at h;omega
theorem Ce {f:Nat->Nat} {N:Nat} (hf:∀ j,j < 32->f j < BB) (h:nv f 32=N):lA f 32=mA N:=aN fun i hi=>by rw [<- h,tB hf hi]
theorem xN {N M:Nat} (hN:N < BB ^ 32) (hM:M < BB ^ 32) (E:Env) (hE:E.P=Tryz.prog) (d e:Key) (hde:d≠e):Own E 260 [SV.ptr d 0,SV.ptr e 0] [(d,Blk.row 201 32 (mA N)),(e,Blk.row 201 32 (mA M))] (SV.c (.tuple #[.agg (mA ((N+M) % BB ^ 32)),.bool (decide (N+M < BB ^ 32))])) [(d,Blk.row 201 32 (mA N)),(e,Blk.row 201 32 (mA M))]:=by
 refine rE ai ak Qu E hE d e hde (201,32,mA N,mA N) (201,32,mA M,mA M) [SV.ptr 1000 0,SV.ptr 1001 0] _ rfl rfl fun w b b' hO=>?_
 refine ⟨fun q f m=>∃ (k c:Nat) (g:Nat->Nat),q=32 - k/\k<=32/\c<=1/\(∀ j,j < k->g j < BB)/\nv g k+c*BB ^ k=nv (dg N) k+nv (dg M) k/\f=[(0,SV.ptr 1000 0),(1,SV.ptr 1001 0),(4,SV.ptr 4 0),(6,SV.ptr 6 0),(7,SV.c (.int .u32 c)),(9,SV.c (.int .i64 k))]/\m=[(1000,Blk.row 201 32 (mA N)),(1001,Blk.row 201 32 (mA M)),(4,Blk.row 201 32 (lA (fun _=>0) 32)),(6,Blk.row 201 32 (lA g 32))],32,⟨_,_,⟨0,0,fun _=>0,rfl,by omega,by omega,fun j hj=>absurd hj (by omega),xX _ _ _,rfl,rfl⟩,⟨rfl,rfl,rfl,rfl,rfl,rfl,trivial⟩,⟨rfl,rfl,rfl,rfl,trivial⟩,rfl⟩,?_⟩
 rintro q f m ⟨k,c,g,rfl,hk,hc,hg,hn,rfl,rfl⟩
 refine ⟨fun h=>?_,fun h=>?_⟩
 ·have h1:(k:Int) < 32:=af h
  have h0:(0:Int)<=k:=by omega
  have gN:=bh (N:=N) (show k < 32 by omega)
  have gM:=bh (N:=M) (show k < 32 by omega)
  refine ⟨h0,h1,_,gN,h0,h1,_,gM,.inl ⟨_,tP _ _ c (aL N k) (aL M k) hc,h0,h1,by show k < 32;omega,rfl,_,kY g 32 k _,by kernel_rfl,?_⟩⟩
  have hx:=aL N k
  have hy:=aL M k
  rw [aR] at hx hy
  refine ⟨32 - (k+1),_,_,by omega,⟨k+1,(dg N k+dg M k+c) / BB,_,rfl,by omega,by rw [aR];omega,fun j hj=>?_,tM (k:=c) ?_ ?_,rfl,rfl⟩,⟨rfl,rfl,rfl,rfl,rfl,ar (by rw [i64_in (by omega)];rfl),trivial⟩,⟨rfl,rfl,rfl,rfl,trivial⟩,rfl⟩
  ·by_cases e:j=k
   ·subst e;simp only [if_true];exact Nat.mod_lt _ bI
   ·simp only [if_neg e];exact hg j (by omega)
  ·rw [lF];exact hn
  ·simp only [if_true];rw [Nat.mul_comm];exact Nat.mod_add_div _ _
 ·have h1:¬ ((k:Int) < 32):=ag h
  obtain rfl:k=32:=by omega
  obtain ⟨hs1,hs2⟩:=xO hN hM hg hn
  have hA:=Ce hg hs1
  refine ⟨dU _ _,kL (by rw [hA]) (bv ?_),rfl,rfl,trivial⟩
  rw [hs2,Bool.eq_iff_iff];simp
theorem qN {N M:Nat} (hN:N < BB ^ 32) (hM:M<=N) (E:Env) (hE:E.P=Tryz.prog) (d e:Key) (hde:d≠e):Own E 261 [SV.ptr d 0,SV.ptr e 0] [(d,Blk.row 201 32 (mA N)),(e,Blk.row 201 32 (mA M))] (SV.c (.agg (mA (N - M)))) [(d,Blk.row 201 32 (mA N)),(e,Blk.row 201 32 (mA M))]:=by
 refine rE ai ak Qt E hE d e hde (201,32,mA N,mA N) (201,32,mA M,mA M) [SV.ptr 1000 0,SV.ptr 1001 0] _ rfl rfl fun w b b' hO=>?_
 refine ⟨fun q f m=>∃ (k c:Nat) (g:Nat->Nat),q=32 - k/\k<=32/\c<=1/\(∀ j,j < k->g j < BB)/\nv g k+nv (dg M) k=nv (dg N) k+c*BB ^ k/\f=[(0,SV.ptr 1000 0),(1,SV.ptr 1001 0),(4,SV.ptr 4 0),(5,SV.ptr 5 0),(6,SV.c (.int .u32 c)),(8,SV.c (.int .i64 k))]/\m=[(1000,Blk.row 201 32 (mA N)),(1001,Blk.row 201 32 (mA M)),(4,Blk.row 201 32 (lA (fun _=>0) 32)),(5,Blk.row 201 32 (lA g 32))],32,⟨_,_,⟨0,0,fun _=>0,rfl,by omega,by omega,fun j hj=>absurd hj (by omega),uD _ _ _,rfl,rfl⟩,⟨rfl,rfl,rfl,rfl,rfl,rfl,trivial⟩,⟨rfl,rfl,rfl,rfl,trivial⟩,rfl⟩,?_⟩
 rintro q f m ⟨k,c,g,rfl,hk,hc,hg,hn,rfl,rfl⟩
 refine ⟨fun h=>?_,fun h=>?_⟩
 ·have h1:(k:Int) < 32:=af h
  have h0:(0:Int)<=k:=by omega
  have gN:=bh (N:=N) (show k < 32 by omega)
  have gM:=bh (N:=M) (show k < 32 by omega)
  refine ⟨h0,h1,_,gN,h0,h1,_,gM,.inl ⟨_,od _ _ c (aL N k) (aL M k) hc,h0,h1,by show k < 32;omega,rfl,_,kY g 32 k _,by kernel_rfl,?_⟩⟩
  have hx:=aL N k
  have hy:=aL M k
  refine ⟨32 - (k+1),_,_,by omega,⟨k+1,(if dg N k < dg M k+c then 1 else 0:Nat),_,rfl,by omega,by split<;>omega,fun j hj=>?_,xf (k:=c) ?_ ?_,rfl,rfl⟩,⟨rfl,rfl,rfl,rfl,rfl,ar (by rw [i64_in (by omega)];rfl),trivial⟩,⟨rfl,rfl,rfl,rfl,trivial⟩,rfl⟩
  ·by_cases e:j=k
   ·subst e;simp only [if_true];exact Nat.mod_lt _ bI
   ·simp only [if_neg e];exact hg j (by omega)
  ·rw [lF];exact hn
  ·simp only [if_true];rw [aR] at hx hy ⊢;split<;>omega
 ·have h1:¬ ((k:Int) < 32):=ag h
  obtain rfl:k=32:=by omega
  have hA:=Ce hg (DL hN hM hg hn)
  exact ⟨dU _ _,by rw [<- hA];rfl,rfl,rfl,trivial⟩
end Go.Proofs.YtklehfchdoikeaaGreatDoor
