/- walks: days and actions that are made. walks: a number that ; no condition. -/
import Derived.Lib.MinMax
import Derived.Test.YtklehfchdoikeaaGreatDoorP20
set_option maxRecDepth 100000
set_option maxHeartbeats 4000000
namespace Go.Proofs.YtklehfchdoikeaaGreatDoor
open Go Go.RowKit Go.SX
theorem AC.set3 (a:AC) (l:List UInt8):a.A.setIfInBounds (0+3) (.string (S l))=({ a with into:=l }:AC).A:=by kernel_rfl
theorem AC.set0 (a:AC) (n:Int):a.A.setIfInBounds (0+0) (.int .i64 n)=({ a with kind:=n }:AC).A:=by kernel_rfl
theorem zZ {P:Program} {ats:Array TypeId} {ty:TypeId} {cs:Array Bool} (x y:Int) (w:World):(builtin .min ats ty cs #[.int .i64 x,.int .i64 y]).run P w=.ok (.value (.int .i64 (min x y))) w:=by
 simp [builtin,Go.Lib.run_min_ints]
end Go.Proofs.YtklehfchdoikeaaGreatDoor
namespace Go.Proofs.YtklehfchdoikeaaGreatDoor
open Go Go.RowKit Go.SX
def nx (zs:List Int) (k:Nat) (n:Int):Int:=pX (if k < zs.length then zs.getD k 0 else (IntKind.i64.wrap ((k:Nat)*7)).tmod 11) n
theorem GE {n:Int} (hn:n<=9223372036854775807) (zs:List Int) (k:Nat) (hk:k+1<=4000000000000000000) (E:Env) (v:Value) (d:Key) (hE:E.P=Tryz.prog) (hv:Tp E v zs):Own E 19 [SV.ptr d 0,SV.c (.int .i64 n)] [(d,Blk.row 53 2 (tb v k))] (SV.c (.int .i64 (nx zs k n))) [(d,Blk.row 53 2 (tb v (k+1)))]:=by
 obtain ⟨a,cap,rfl,hi⟩:=hv
 have hlen:∀ w',(builtin .len #[50] 3 #[false] #[.slice a zs.length cap]).run Tryz.prog w'=.ok (.value (.int .i64 (zs.length:Nat))) w':=fun w'=>ao Tryz.underlying50 w'
 unfold nx
 by_cases h:k < zs.length
 ·rw [if_pos h]
  obtain ⟨b,h2,h4⟩:=hi k h
  refine aQ [] ai ak Ld E hE d (53,2,tb (.slice a zs.length cap) k,tb (.slice a zs.length cap) (k+1)) [SV.ptr 1000 0,SV.c (.int .i64 n)] _ rfl rfl fun w b hT=>?_
  refine ⟨_,rfl,by decide,_,rfl,_,rfl,_,fun w' _=>hlen w',by kernel_rfl,fun _=>?_,fun h=>absurd (ag h) (by omega)⟩
  refine ⟨_,rfl,_,rfl,_,jd hE.symm hT h2,_,jd hE.symm hT h4,by kernel_rfl,_,rfl,Nat.lt_add_one 1,rfl,_,rfl,.inl ⟨_,wx hn,rfl,?_,trivial⟩⟩
  exact bk (vK k (by omega))
 ·rw [if_neg h]
  refine aQ [] ai ak Ld E hE d (53,2,tb (.slice a zs.length cap) k,tb (.slice a zs.length cap) (k+1)) [SV.ptr 1000 0,SV.c (.int .i64 n)] _ rfl rfl fun w b hT=>?_
  refine ⟨_,rfl,by decide,_,rfl,_,rfl,_,fun w' _=>hlen w',by kernel_rfl,fun h=>absurd (af h) (by omega),fun _=>?_⟩
  refine ⟨_,rfl,Nat.lt_add_one 1,rfl,_,rfl,.inl ⟨_,wx hn,?_,?_,trivial⟩⟩
  ·exact vi rfl
  ·exact bk (vK k (by omega))
theorem xx {P:Program} {ats:Array TypeId} {ty:TypeId} {cs:Array Bool} (x y z:Int) (w:World):(builtin .min ats ty cs #[.int .i64 x,.int .i64 y,.int .i64 z]).run P w=.ok (.value (.int .i64 (min (min x y) z))) w:=by
 have e:∀ x y:Int,(if y < x then y else x)=min x y:=fun x y=>by
  rw [Int.min_def]
  split<;>split<;>omega
 simp [builtin,Builtin.min_,Builtin.min2,e]
def lv (zs:List Int) (k:Nat) (n:Int) (i:Nat):Int :=
 let v:=if nx zs (k+2*i+1) 9=0 then 0 else if nx zs (k+2*i+1) 9=1 then 4294967295 else IntKind.u32.wrap (nx zs (k+2*i) 4294967296)
 if n - 32*i < 32 then IntKind.u32.wrap (BitVec.ofInt IntKind.u32.bits v &&& BitVec.ofInt IntKind.u32.bits (IntKind.u32.wrap (IntKind.u32.wrap (1*2 ^ min (IntKind.u64.wrap (n - 32*i)).toNat IntKind.u32.bits) - 1))).toNat else v
theorem Fy (x:Int):0<=IntKind.u32.wrap x/\IntKind.u32.wrap x < 4294967296:=by
 show 0<=x % 4294967296/\x % 4294967296 < 4294967296
 omega
theorem LS (zs:List Int) (k:Nat) (n:Int) (i:Nat):0<=lv zs k n i/\lv zs k n i < 4294967296:=by
 unfold lv
 dsimp only
 split
 ·exact Fy _
 ·split
  ·omega
  ·split
   ·omega
   ·exact Fy _
def lf (zs:List Int) (k:Nat) (n:Int) (m:Nat) (x:Nat):Nat:=if x < m then (lv zs k n x).toNat else 0
def Xi (f:Nat->Nat):Array Value:=#[.bool false]++lA f 32
theorem NV {f g:Nat->Nat} {i:Nat} {u:Int} (_hi:i < 32) (h:∀ x,x < 32->(if x=i then u.toNat else f x)=g x) (hu:0<=u):(Xi f).setIfInBounds (0+1+i) (.int .u32 u)=Xi g:=by
 have e:u=((u.toNat:Nat):Int):=by omega
 rw [e,Xi,Array.setIfInBounds_append_right (by simp)]
 have e2:0+1+i - (#[Value.bool false]:Array Value).size=i:=by simp
 rw [e2,kY,Xi]
 congr 1
 exact aN fun x hx=>h x hx
theorem Lk:eW.zero=Xi (fun _=>0):=rfl
theorem S9 {f:Nat->Nat} (h:∀ i,i < 32->f i < BB):Xi f=iA false (nv f 32):=by
 unfold Xi iA mA
 congr 1
 exact aN fun i hi=>(tB h hi).symm
theorem zH (x:Int):0<=IntKind.u64.wrap x/\IntKind.u64.wrap x < 18446744073709551616:=by
 show 0<=x % 18446744073709551616/\x % 18446744073709551616 < 18446744073709551616
 omega
theorem BK (a b:Bool) (N:Nat):(iA a N).setIfInBounds (0+0) (.bool b)=iA b N:=by
 rw [iA,Array.setIfInBounds_append_left (by simp)];rfl
def RN (r:Value):Prop:=∃ a N,r=.agg (iA a N)/\N < BB ^ 32
theorem Cl {bits:Int} (hb:0<=bits) (hb2:bits<=100000):Gen 77 [SV.c (.int .i64 bits)] 70 RN:=by
 intro zs k hk
 have eb:IntKind.i64.wrap (bits+1)=bits+1:=i64_in (by omega)
 obtain ⟨r1,k1,a1,b1,⟨i1,rfl,c1⟩,O1⟩:=bQ (n:=IntKind.i64.wrap (bits+1)) (by omega) zs k (by omega)
 obtain ⟨r2,k2,a2,b2,⟨i2,rfl,c2⟩,O2⟩:=dX (xs:=[0,1,5,20,31,32,33,64,65,100,200,400,bits,bits,i1]) (by simp) (by simp) zs k1 (by omega)
 have q2:0<=i2:=by simp at c2;omega
 obtain ⟨n,hn⟩:∃ n,n=min (min i2 bits) 1024:=⟨_,rfl⟩
 have n0:0<=n/\n<=1024:=by omega
 obtain ⟨cnt,hc1,hc2⟩:∃ cnt:Nat,cnt<=32/\∀ i:Nat,(32*(i:Int) < n↔i < cnt):=⟨((n+31) / 32).toNat,by omega,fun i=>by omega⟩
 obtain ⟨r3,k3,a3,b3,⟨neg,rfl⟩,O3⟩:=cU (a:=1) (b:=3) (by decide) zs (k2+2*cnt) (by omega)
 have hlt:∀ m i,i < 32->lf zs k2 n m i < BB:=fun m i _=>by
  have:=LS zs k2 n i
  unfold lf;rw [aR];split<;>omega
 refine ⟨_,k3,by omega,by omega,⟨neg && (sgn (zN false (nv (lf zs k2 n cnt) 32)) != 0),nv (lf zs k2 n cnt) 32,rfl,mp fun i hi=>hlt cnt i hi⟩,fun E v d hE hv=>?_⟩
 refine aQ [] ai ak Ui E hE d (53,2,tb v k,tb v k3) [SV.ptr 1000 0,SV.c (.int .i64 bits)] _ rfl rfl fun w b hT=>?_
 have hv:=hv.of_old hE.symm hT
 refine .inr ⟨_,_,_,O1 _ v 1000 rfl hv,⟨rfl,trivial⟩,rfl,by decide,by decide,cd [0,1,5,20,31,32,33,64,65,100,200,400,bits,bits,i1],by kernel_rfl,rfl,.inr ⟨_,_,_,O2 _ v 1000 17 (by decide) rfl hv,⟨rfl,rfl,trivial⟩,rfl,_,fun w' _=>xx _ _ _ w',?_⟩⟩
 rw [<- hn]
 have hz:eW.zero=Xi (lf zs k2 n 0):=by
  rw [Lk]
  congr 1
 refine ⟨fun q f m=>∃ i:Nat,q=cnt - i/\i<=cnt/\f=[(0,SV.ptr 1000 0),(1,SV.c (.int .i64 bits)),(4,SV.ptr 4 0),(5,SV.ptr 5 0),(6,SV.c (.int .i64 n)),(7,SV.c (.int .i64 i))]/\m=[(1000,Blk.row 53 2 (tb v (k2+2*i))),(4,Blk.row 31 33 eW.zero),(5,Blk.row 31 33 (Xi (lf zs k2 n i)))],cnt,⟨_,_,⟨0,rfl,Nat.zero_le _,rfl,rfl⟩,⟨rfl,rfl,rfl,rfl,rfl,rfl,trivial⟩,⟨rfl,rfl,congrArg (fun B=>some (Blk.row 31 33 B)) hz,trivial⟩,rfl⟩,?_⟩
 rintro q f m ⟨i,rfl,hi1,rfl,rfl⟩
 have ei:IntKind.i64.wrap (32*(i:Int))=32*(i:Int):=i64_in (by omega)
 refine ⟨fun h=>?_,fun h=>?_⟩
 ·have h:32*(i:Int) < n:=by have:=af h;omega
  have hi:i < cnt:=(hc2 i).1 h
  have e2:IntKind.i64.wrap (n - IntKind.i64.wrap (32*(i:Int)))=n - 32*i:=by rw [ei];exact i64_in (by omega)
  have hst:∀ u,u=lv zs k2 n i->(Xi (lf zs k2 n i)).setIfInBounds (0+1+i) (.int .u32 u)=Xi (lf zs k2 n (i+1)):=fun u hu=>by
   have hb:=LS zs k2 n i
   refine NV (by omega) (fun x hx=>?_) (by omega)
   unfold lf
   by_cases e:x=i
   ·subst e;rw [if_pos rfl,if_pos (by omega),hu]
   ·rw [if_neg e]
    by_cases e3:x < i
    ·rw [if_pos e3,if_pos (by omega)]
    ·rw [if_neg e3,if_neg (by omega)]
  have hp1:k2+2*i+1+1=k2+2*(i+1):=by omega
  have N1:=GE (n:=4294967296) (by decide) zs (k2+2*i) (by omega) _ v 1000 rfl hv
  have N2:=GE (n:=9) (by decide) zs (k2+2*i+1) (by omega) _ v 1000 rfl hv
  rw [hp1] at N2
  have ne0:∀ {x:Int},(x == 0)=false->¬ x=0:=fun h e=>by subst e;simp at h
  have ne1:∀ {x:Int},(x == 1)=false->¬ x=1:=fun h e=>by subst e;simp at h
  have i32:(i:Int) < 32:=by omega
  have i33:0+1+i < 33:=by omega
  refine .inr ⟨_,_,_,N1,⟨rfl,trivial⟩,rfl,.inr ⟨_,_,_,N2,⟨rfl,trivial⟩,rfl,fun s0=>⟨fun l=>?_,fun l=>?_⟩,fun s0=>⟨fun s1=>⟨fun l=>?_,fun l=>?_⟩,fun s1=>⟨fun l=>?_,fun l=>?_⟩⟩⟩⟩
  ·have l:=af l
   refine ⟨(zH _).1,by omega,i32,i33,rfl,Xi (lf zs k2 n (i+1)),hst _ ?_,cnt - (i+1),_,_,by omega,⟨i+1,rfl,by omega,rfl,rfl⟩,⟨rfl,rfl,rfl,rfl,rfl,ar (i64_in (by omega)),trivial⟩,⟨rfl,rfl,rfl,trivial⟩,rfl⟩
   unfold lv
   dsimp only
   rw [if_pos (eq_of_beq s0),e2]
   rw [e2] at l
   rw [if_pos l]
  ·have l:=ag l
   refine ⟨by omega,i32,i33,rfl,Xi (lf zs k2 n (i+1)),hst _ ?_,cnt - (i+1),_,_,by omega,⟨i+1,rfl,by omega,rfl,rfl⟩,⟨rfl,rfl,rfl,rfl,rfl,ar (i64_in (by omega)),trivial⟩,⟨rfl,rfl,rfl,trivial⟩,rfl⟩
   unfold lv
   dsimp only
   rw [e2] at l
   rw [if_pos (eq_of_beq s0),if_neg l]
  ·have l:=af l
   refine ⟨(zH _).1,by omega,i32,i33,rfl,Xi (lf zs k2 n (i+1)),hst _ ?_,cnt - (i+1),_,_,by omega,⟨i+1,rfl,by omega,rfl,rfl⟩,⟨rfl,rfl,rfl,rfl,rfl,ar (i64_in (by omega)),trivial⟩,⟨rfl,rfl,rfl,trivial⟩,rfl⟩
   unfold lv
   dsimp only
   rw [if_neg (ne0 s0),if_pos (eq_of_beq s1),e2]
   rw [e2] at l
   rw [if_pos l]
  ·have l:=ag l
   refine ⟨by omega,i32,i33,rfl,Xi (lf zs k2 n (i+1)),hst _ ?_,cnt - (i+1),_,_,by omega,⟨i+1,rfl,by omega,rfl,rfl⟩,⟨rfl,rfl,rfl,rfl,rfl,ar (i64_in (by omega)),trivial⟩,⟨rfl,rfl,rfl,trivial⟩,rfl⟩
   unfold lv
   dsimp only
   rw [e2] at l
   rw [if_neg (ne0 s0),if_pos (eq_of_beq s1),if_neg l]
  ·have l:=af l
   refine ⟨(zH _).1,by omega,i32,i33,rfl,Xi (lf zs k2 n (i+1)),hst _ ?_,cnt - (i+1),_,_,by omega,⟨i+1,rfl,by omega,rfl,rfl⟩,⟨rfl,rfl,rfl,rfl,rfl,ar (i64_in (by omega)),trivial⟩,⟨rfl,rfl,rfl,trivial⟩,rfl⟩
   unfold lv
   dsimp only
   rw [if_neg (ne0 s0),if_neg (ne1 s1),e2]
   rw [e2] at l
   rw [if_pos l]
  ·have l:=ag l
   refine ⟨by omega,i32,i33,rfl,Xi (lf zs k2 n (i+1)),hst _ ?_,cnt - (i+1),_,_,by omega,⟨i+1,rfl,by omega,rfl,rfl⟩,⟨rfl,rfl,rfl,rfl,rfl,ar (i64_in (by omega)),trivial⟩,⟨rfl,rfl,rfl,trivial⟩,rfl⟩
   unfold lv
   dsimp only
   rw [e2] at l
   rw [if_neg (ne0 s0),if_neg (ne1 s1),if_neg l]
 ·have h:¬ 32*(i:Int) < n:=by have:=ag h;omega
  have hi:i=cnt:=by have:=(hc2 i);omega
  subst hi
  have hxi:=S9 (hlt i)
  have hN:nv (lf zs k2 n i) 32 < BB ^ 32:=mp fun j hj=>hlt i j hj
  rw [hxi]
  have hsg:=gQ (A:=iA false (nv (lf zs k2 n i) 32)) (z:=zN false (nv (lf zs k2 n i) 32)) ⟨_,_,hN,rfl,rfl⟩
  generalize nv (lf zs k2 n i) 32=N at *
  generalize zN false N=z at *
  have nl:0+0 < 33:=Nat.zero_lt_succ _
  cases neg
  ·refine .inr ⟨_,_,_,O3 _ v 1000 rfl hv,⟨rfl,trivial⟩,rfl,(fun h=>absurd h (by decide)),fun _=>⟨nl,rfl,iA false N,BK _ _ _,dD _ _,?_,rfl,trivial⟩⟩
   rw [Bool.false_and];rfl
  ·refine .inr ⟨_,_,_,O3 _ v 1000 rfl hv,⟨rfl,trivial⟩,rfl,fun _=>.inl ⟨_,hsg,nl,rfl,iA (sgn z != 0) N,BK _ _ _,dD _ _,?_,rfl,trivial⟩,(fun h=>absurd h (by decide))⟩
   rw [Bool.true_and];rfl
end Go.Proofs.YtklehfchdoikeaaGreatDoor
namespace Go.Proofs.YtklehfchdoikeaaGreatDoor
open Go Go.RowKit Go.SX
theorem RN.isI {r:Value} (h:RN r):∃ A z,r=.agg A/\IsI A z:=by
 obtain ⟨a,N,rfl,hN⟩:=h
 exact ⟨_,zN a N,rfl,⟨_,_,hN,rfl,rfl⟩⟩
theorem BO:Gen 27 [] 150 (RA RQ.In):=by
 intro zs k hk
 obtain ⟨r1,k1,a1,b1,⟨ch,rfl⟩,O1⟩:=cU (a:=1) (b:=6) (by decide) zs k (by omega)
 cases ch
 ·obtain ⟨r2,k2,a2,b2,⟨i2,rfl,c2⟩,O2⟩:=py (lo:=-200) (hi:=400) (by decide) (by decide) (by decide) zs k1 (by omega)
  obtain ⟨r3,k3,a3,b3,⟨i3,rfl,c3⟩,O3⟩:=dX (xs:=[1,1,1,1000,1000003]) (by decide) (by decide) zs k2 (by omega)
  obtain ⟨r4,k4,a4,b4,⟨i4,rfl,c4⟩,O4⟩:=dX (xs:=[1,1,2,3,4,7,10,12,100,365,366,1000,1000000]) (by decide) (by decide) zs k3 (by omega)
  have d4:1<=i4/\i4<=1000000:=by simp at c4;omega
  have e5 : -9223372036854775808<=IntKind.i64.wrap (i2*i3)/\IntKind.i64.wrap (i2*i3)<=9223372036854775807:=by
   have q : -1000000000000<=i2*i3/\i2*i3<=1000000000000:=by
    simp at c3
    rcases c3 with rfl | rfl | rfl<;>omega
   rw [i64_in (by omega)];omega
  have hm:=dT (n:=IntKind.i64.wrap (i2*i3)) (d:=i4) e5.1 e5.2 (by omega) (by omega)
  refine ⟨_,k4,by omega,by omega,⟨(mkQ (IntKind.i64.wrap (i2*i3)) i4).1,rfl,cD _ _⟩,fun E v d hE hv=>?_⟩
  refine aQ [] ai ak NP E hE d (53,2,tb v k,tb v k4) [SV.ptr 1000 0] _ rfl rfl fun w b hT=>?_
  have hv:=hv.of_old hE.symm hT
  exact .inr ⟨_,_,_,O1 _ v 1000 rfl hv,⟨rfl,trivial⟩,rfl,nofun,fun _=>.inr ⟨_,_,_,O2 _ v 1000 rfl hv,⟨rfl,trivial⟩,rfl,by decide,by decide,cd [1,1,1,1000,1000003],by kernel_rfl,rfl,.inr ⟨_,_,_,O3 _ v 1000 26 (by decide) rfl hv,⟨rfl,rfl,trivial⟩,rfl,by decide,by decide,cd [1,1,2,3,4,7,10,12,100,365,366,1000,1000000],by kernel_rfl,rfl,.inr ⟨_,_,_,O4 _ v 1000 30 (by decide) rfl hv,⟨rfl,rfl,trivial⟩,rfl,.inl ⟨_,hm,RQ.A_fits _,rfl,rfl,trivial⟩⟩⟩⟩⟩
 ·obtain ⟨r2,k2,a2,b2,c2,O2⟩:=Cl (bits:=200) (by decide) (by decide) zs k1 (by omega)
  obtain ⟨A,z,rfl,hA⟩:=c2.isI
  obtain ⟨r3,k3,a3,b3,c3,O3⟩:=Cl (bits:=200) (by decide) (by decide) zs k2 (by omega)
  obtain ⟨B,y,rfl,hB⟩:=c3.isI
  have hab:=IW hA
  have hz:(z.natAbs:Int).natAbs < BB ^ 32:=by
   obtain ⟨a,N,hN,-,rfl⟩:=hA.raw
   rw [Int.natAbs_natCast,bt];exact hN
  have hsg:=gQ (aI hz)
  have h1:=eF 1 (by decide) (by decide)
  have i1:=aI (hS (n:=1) (by decide) (by decide))
  have m1:=ov hB i1
  have m2:=ov hB (aI hz)
  by_cases hy:sgn (z.natAbs:Int)=0
  ·rw [hy] at hsg
   refine ⟨_,k3,by omega,by omega,⟨(mkQ y 1).1,rfl,cD _ _⟩,fun E v d hE hv=>?_⟩
   refine aQ [] ai ak NP E hE d (53,2,tb v k,tb v k3) [SV.ptr 1000 0] _ rfl rfl fun w b hT=>?_
   have hv:=hv.of_old hE.symm hT
   exact .inr ⟨_,_,_,O1 _ v 1000 rfl hv,⟨rfl,trivial⟩,rfl,fun _=>.inr ⟨_,_,_,O2 _ v 1000 rfl hv,⟨rfl,trivial⟩,rfl,.inl ⟨_,hab,am _,.inl ⟨_,hsg,fun _=>.inl ⟨_,h1,am _,.inr ⟨_,_,_,O3 _ v 1000 rfl hv,⟨rfl,trivial⟩,rfl,.inl ⟨_,m1,RQ.A_fits _,by kernel_rfl,RQ.A_fits _,rfl,rfl,trivial⟩⟩⟩,nofun⟩⟩⟩,nofun⟩
  ·refine ⟨_,k3,by omega,by omega,⟨(mkQ y z.natAbs).1,rfl,cD _ _⟩,fun E v d hE hv=>?_⟩
   refine aQ [] ai ak NP E hE d (53,2,tb v k,tb v k3) [SV.ptr 1000 0] _ rfl rfl fun w b hT=>?_
   have hv:=hv.of_old hE.symm hT
   exact .inr ⟨_,_,_,O1 _ v 1000 rfl hv,⟨rfl,trivial⟩,rfl,fun _=>.inr ⟨_,_,_,O2 _ v 1000 rfl hv,⟨rfl,trivial⟩,rfl,.inl ⟨_,hab,am _,.inl ⟨_,hsg,fun h=>absurd (eq_of_beq h) hy,fun _=>.inr ⟨_,_,_,O3 _ v 1000 rfl hv,⟨rfl,trivial⟩,rfl,.inl ⟨_,m2,RQ.A_fits _,by kernel_rfl,RQ.A_fits _,rfl,rfl,trivial⟩⟩⟩⟩⟩,nofun⟩
theorem G7:Gen 28 [] 500 (RA RQ.In):=by
 intro zs k hk
 have step:∀ k:Nat,∃ p:(Array Value×Int)×Nat,k+70<=4000000000000000000->(k<=p.2/\p.2<=k+70/\IsI p.1.1 p.1.2/\∀ (E:Env) (v:Value) (d:Key),E.P=Tryz.prog->Tp E v zs->Own E 77 [SV.ptr d 0,SV.c (.int .i64 480)] [(d,Blk.row 53 2 (tb v k))] (SV.c (.agg p.1.1)) [(d,Blk.row 53 2 (tb v p.2))]):=fun k=>by
  by_cases h:k+70<=4000000000000000000
  ·obtain ⟨r,k',h1,h2,h3,h4⟩:=Cl (bits:=480) (by decide) (by decide) zs k h
   obtain ⟨A,z,rfl,hA⟩:=h3.isI
   exact ⟨((A,z),k'),fun _=>⟨h1,h2,hA,h4⟩⟩
  ·exact ⟨((#[],0),0),fun h2=>absurd h2 h⟩
 obtain ⟨F,hF⟩:=Classical.axiomOfChoice step
 obtain ⟨K,hK0,hKs⟩:∃ K:Nat->Nat,K 0=k/\∀ i,K (i+1)=(F (K i)).2:=⟨fun i=>Nat.rec k (fun _ x=>(F x).2) i,rfl,fun _=>rfl⟩
 have hKb:∀ i,i<=5->k<=K i/\K i<=k+70*i:=by
  intro i
  induction i with
  | zero=>intro _;rw [hK0];omega
  | succ i ih =>
   intro hi
   have h1:=ih (by omega)
   have h2:=hF (K i) (by omega)
   rw [hKs];omega
 obtain ⟨t,ht,h1,h2⟩:∃ t,t<=4/\(∀ j,j < t->sgn ((F (K j)).1.2.natAbs:Int)=0)/\(t < 4->sgn ((F (K t)).1.2.natAbs:Int)≠0):=by
  by_cases z0:sgn ((F (K 0)).1.2.natAbs:Int)=0
  ·by_cases z1:sgn ((F (K 1)).1.2.natAbs:Int)=0
   ·by_cases z2:sgn ((F (K 2)).1.2.natAbs:Int)=0
    ·by_cases z3:sgn ((F (K 3)).1.2.natAbs:Int)=0
     ·refine ⟨4,by omega,fun j hj=>?_,fun h=>absurd h (by omega)⟩
      obtain rfl | rfl | rfl | rfl:j=0\/j=1\/j=2\/j=3:=by omega
      all_goals assumption
     ·refine ⟨3,by omega,fun j hj=>?_,fun _=>z3⟩
      obtain rfl | rfl | rfl:j=0\/j=1\/j=2:=by omega
      all_goals assumption
    ·refine ⟨2,by omega,fun j hj=>?_,fun _=>z2⟩
     obtain rfl | rfl:j=0\/j=1:=by omega
     all_goals assumption
   ·refine ⟨1,by omega,fun j hj=>?_,fun _=>z1⟩
    obtain rfl:j=0:=by omega
    assumption
  ·exact ⟨0,by omega,fun j hj=>absurd hj (by omega),fun _=>z0⟩
 have hKt:=hKb (t+1) (by omega)
 have hlast:∃ (r:Value) (k':Nat),k<=k'/\k'<=k+500/\RA RQ.In r/\(t < 4->∃ y B,r=.agg (mkQ y (F (K t)).1.2.natAbs).1.A/\IsI B y/\∀ (E:Env) (v:Value) (d:Key),E.P=Tryz.prog->Tp E v zs->Own E 77 [SV.ptr d 0,SV.c (.int .i64 480)] [(d,Blk.row 53 2 (tb v (K (t+1))))] (SV.c (.agg B)) [(d,Blk.row 53 2 (tb v k'))])/\(t=4->∃ x:RQ,r=.agg x.A/\∀ (E:Env) (v:Value) (d:Key),E.P=Tryz.prog->Tp E v zs->Own E 27 [SV.ptr d 0] [(d,Blk.row 53 2 (tb v (K 4)))] (SV.c r) [(d,Blk.row 53 2 (tb v k'))]):=by
  by_cases h:t < 4
  ·obtain ⟨r,k',h3,h4,h5,h6⟩:=Cl (bits:=480) (by decide) (by decide) zs (K (t+1)) (by omega)
   obtain ⟨B,y,rfl,hB⟩:=h5.isI
   exact ⟨_,k',by omega,by omega,⟨(mkQ y (F (K t)).1.2.natAbs).1,rfl,cD _ _⟩,fun _=>⟨y,B,rfl,hB,h6⟩,fun h=>absurd h (by omega)⟩
  ·have h4:=hKb 4 (by omega)
   obtain ⟨r,k',h3,h4,h5,h6⟩:=BO zs (K 4) (by omega)
   refine ⟨r,k',by omega,by omega,h5,fun h2=>absurd h2 h,fun _=>?_⟩
   obtain ⟨x,rfl,-⟩:=h5
   exact ⟨x,rfl,h6⟩
 obtain ⟨r,k',h3,h4,h5,h6,h7⟩:=hlast
 refine ⟨r,k',h3,h4,h5,fun E v d hE hv=>?_⟩
 obtain ⟨x,rfl,hx⟩:=h5
 refine aQ [] ai ak UQ E hE d (53,2,tb v k,tb v k') [SV.ptr 1000 0] _ rfl rfl fun w b hT=>?_
 have hv:=hv.of_old hE.symm hT
 refine ⟨fun q f m=>∃ i:Nat,q=4 - i/\i<=t/\f=[(0,SV.ptr 1000 0),(2,SV.ptr 2 0),(3,SV.c (.int .i64 i))]/\m=[(1000,Blk.row 53 2 (tb v (K i))),(2,Blk.row 33 66 cR.zero)],4,⟨_,_,⟨0,rfl,Nat.zero_le _,rfl,rfl⟩,⟨rfl,rfl,rfl,trivial⟩,⟨by rw [hK0];rfl,rfl,trivial⟩,rfl⟩,?_⟩
 rintro q f m ⟨i,rfl,hi1,rfl,rfl⟩
 refine ⟨fun h=>?_,fun h=>?_⟩
 ·have h:i < 4:=by have:=af h;omega
  have hb:=hKb i (by omega)
  obtain ⟨f1,f2,f3,f4⟩:=hF (K i) (by omega)
  have hab:=IW f3
  have hz:((F (K i)).1.2.natAbs:Int).natAbs < BB ^ 32:=by
   obtain ⟨a,N,hN,-,e⟩:=f3.raw
   rw [Int.natAbs_natCast,e,bt];exact hN
  have hsg:=gQ (aI hz)
  have O1:=f4 _ v 1000 rfl hv
  rw [<- hKs] at O1
  refine .inr ⟨_,_,_,O1,⟨rfl,trivial⟩,rfl,.inl ⟨_,hab,am _,.inl ⟨_,hsg,fun n=>?_,fun n=>?_⟩⟩⟩
  ·have hit:i=t:=by
     by_cases e:i < t
     ·rw [h1 i e] at n;cases n
     ·omega
   subst hit
   obtain ⟨y,B,e,hB,O2⟩:=h6 h
   have m2:=ov hB (aI hz)
   exact .inr ⟨_,_,_,O2 _ v 1000 rfl hv,⟨rfl,trivial⟩,rfl,.inl ⟨_,m2,RQ.A_fits _,by kernel_rfl,RQ.A_fits _,e.symm,rfl,trivial⟩⟩
  ·have hit:i < t:=by
     by_cases e:i=t
     ·subst e
      have:=h2 h
      exact absurd (by simpa using n) this
     ·omega
   exact ⟨4 - (i+1),_,_,by omega,⟨i+1,rfl,by omega,rfl,rfl⟩,⟨rfl,rfl,ar (i64_in (by omega)),trivial⟩,⟨rfl,rfl,trivial⟩,rfl⟩
 ·have h:¬ i < 4:=by have:=ag h;omega
  have hi:i=4:=by omega
  have ht4:t=4:=by omega
  subst hi
  obtain ⟨x2,e,O2⟩:=h7 ht4
  exact .inr ⟨_,_,_,O2 _ v 1000 rfl hv,⟨rfl,trivial⟩,rfl,RQ.A_fits _,rfl,rfl,trivial⟩
def gd:List RQ->Array Value
 | []=>#[]
 | x :: r=>x.A++gd r
theorem sI:∀ {xs:List RQ} {i:Nat} (h:i < xs.length),(gd xs).extract (0+i*66) (0+i*66+66)=xs[i].A
 | x :: r,0,_=>by
  have:=@KI #[] x.A (gd r) 0 66 rfl x.A_size
  simpa [gd] using this
 | x :: r,i+1,h=>by
  have ih:=sI (xs:=r) (i:=i) (by simpa using h)
  rw [gd,Array.extract_append,x.A_size]
  have e1:0+(i+1)*66 - 66=0+i*66:=by omega
  have e2:0+(i+1)*66+66 - 66=0+i*66+66:=by omega
  rw [e1,e2,ih,Array.extract_empty_of_size_le_start (by rw [x.A_size];omega)]
  simp
theorem pC {a b c:RQ} (hin:∀ x∈[a,b,c],x.In):Ln 22 33 (gd [a,b,c]) 198 3 1 (RA RQ.In):=by
 intro zs k hk
 obtain ⟨r,k',h4,h5,⟨i,rfl,h6,h7⟩,hO⟩:=bQ (n:=3) (by decide) zs k hk
 have hi:i.toNat < [a,b,c].length:=by show i.toNat < 3;omega
 refine ⟨_,k',h4,h5,⟨[a,b,c][i.toNat],rfl,hin _ (List.getElem_mem hi)⟩,fun E v d e hde hE hv=>?_⟩
 refine pb [] ai ak Q5 E hE d e hde (53,2,tb v k,tb v k') (33,198,gd [a,b,c],gd [a,b,c]) [SV.ptr 1000 0,SV.sl 1001 0 3 3] _ rfl rfl fun w b b' hT=>?_
 have:=hO _ v 1000 rfl (hv.of_old hE.symm hT)
 have hoff:0+i.toNat*66+66<=198:=by omega
 exact ⟨nofun,fun _=>.inr ⟨_,_,_,this,⟨rfl,trivial⟩,rfl,h6,by show i < 3;omega,hoff,_,sI hi,RQ.A_fits _,rfl,rfl,rfl,trivial⟩⟩
end Go.Proofs.YtklehfchdoikeaaGreatDoor
namespace Go.Proofs.YtklehfchdoikeaaGreatDoor
open Go Go.RowKit Go.SX
theorem lL (a:Option Addr) (len cap:Nat) {pl:List (Nat×Nat)} (hpl:pl=[(0,1),(1,1)]):Instr.fill (fun k=>pl[k]?) Ov.zero [(0,.slice a len cap)]=some (tb (.slice a len cap) 0):=by
 subst hpl
 rfl
theorem tn (a b c:RQ):Instr.fill (fun k=>some (k*cR.size,cR.size)) (madeCells cR.zero (3*cR.size)) [(0,.agg a.A),(1,.agg b.A),(2,.agg c.A)]=some (gd [a,b,c]):=by kernel_rfl
end Go.Proofs.YtklehfchdoikeaaGreatDoor
namespace Go.Proofs.YtklehfchdoikeaaGreatDoor
open Go Go.RowKit Go.SX
open ChangeShapes
theorem add_flat (b o n:Nat):(⟨b,o,none⟩:Addr).add n=⟨b,o+n,none⟩:=by simp [Addr.add]
theorem K3 {w:World} {b o:Nat} {v:Value} (h:w.cell? ⟨b,o,none⟩=some v):b < w.heap.size:=by
 by_cases hb:b < w.heap.size
 ·exact hb
 ·have:w.heap[b]? = none:=Array.getElem?_eq_none (by omega)
  simp [World.cell?,this] at h
theorem EH {w w':World} {b o:Nat} (h:w'.heap[b]? = w.heap[b]?):w'.cell? ⟨b,o,none⟩=w.cell? ⟨b,o,none⟩:=by
 simp only [World.cell?,h]
theorem BA {H:Type} {enc:TypeId×Value->H} {W:World} {fuel nt:Nat} {c:Value} {y:DataW H×List MemPlace} (h:DataW.trod enc Tryz.prog W 0 (fun _=>true) true fuel 50 [c]=some y):∃ zs,Tp (iP Tryz.prog tt nt W).toEnv c zs:=by
 rcases open_ints Tryz.underlying50 Tryz.underlying3 (by kernel_rfl) h with ⟨hcs,_⟩ | ⟨a,len,cap,zs,hcs,_,hl,hm,hz,_,hcell,_⟩
 ·simp only [List.cons.injEq,and_true] at hcs
  subst hcs
  exact ⟨[],none,0,rfl,fun i hi=>absurd hi (by simp)⟩
 ·simp only [List.cons.injEq,and_true] at hcs
  subst hcs
  simp only [if_true] at hz
  have hlz:(zs.take len).length=len:=by simp;omega
  refine ⟨zs.take len,some a,cap,by rw [hlz],fun i hi=>?_⟩
  rw [hlz] at hi
  have hc:=hcell i (by omega)
  have hsp:=World.cell?_spot (hcell 0 (by omega))
  obtain ⟨b,o,sp⟩:=a
  have h2:sp=none:=by simpa [Addr.add] using hsp
  subst h2
  rw [add_flat] at hc
  have hb:=K3 hc
  refine ⟨⟨b,o+i,none⟩,fun w' hw=>?_,fun w' hw=>?_⟩
  ·simp only [Instr.indexAt,asIntOf,Sem.run_bind,run_underlying Tryz.underlying50,Result.andThen_ok,Sem.run_pure]
   have hcc:0<=(i:Int)/\(i:Int) < (len:Int):=by omega
   simp only [hcc,and_self,if_true,Sem.run_bind,Go.SX.run_sizeOf mh,Result.andThen_ok,Sem.run_pure]
   have e:(i:Int).toNat*ti3.size=i:=by show i*1=i;omega
   rw [e,add_flat]
  ·have hg:(zs.take len).getD i 0=zs.getD i 0:=by simp [hi]
   rw [hg]
   refine eo mh ?_ rfl
   rw [EH (hw.old b hb (by simp))]
   exact hc
end Go.Proofs.YtklehfchdoikeaaGreatDoor
namespace Go.Proofs.YtklehfchdoikeaaGreatDoor
open Go Go.RowKit Go.SX
theorem pL {x y:Int} (hy:0 < y) (hx:x.natAbs < 2 ^ dP) (hy2:y.natAbs < 2 ^ dP):∃ r:RQ,mkQ x y=(r,0)/\r.ok=true/\r.p*y=x*r.q/\r.p.natAbs<=x.natAbs/\r.q<=y:=by
 have hg:0 < Int.gcd x y:=Int.gcd_pos_of_ne_zero_right x (by omega)
 have hs:sgn y=1:=by unfold sgn;rw [if_neg (by omega),if_neg (by omega)]
 obtain ⟨p,hp⟩:((Int.gcd x y:Nat):Int) ∣ x:=Int.gcd_dvd_left x y
 obtain ⟨q,hq⟩:((Int.gcd x y:Nat):Int) ∣ y:=Int.gcd_dvd_right x y
 have hg0:((Int.gcd x y:Nat):Int)≠0:=by omega
 have ex:x / ((Int.gcd x y:Nat):Int)=p:=by conv=>lhs;lhs;rw [hp]
                                           exact Int.mul_ediv_cancel_left p hg0
 have ey:y / ((Int.gcd x y:Nat):Int)=q:=by conv=>lhs;lhs;rw [hq]
                                           exact Int.mul_ediv_cancel_left q hg0
 have hgcd:Int.gcd p q=1:=by
  have h1:Int.gcd x y=Int.gcd (((Int.gcd x y:Nat):Int)*p) (((Int.gcd x y:Nat):Int)*q):=by rw [<- hp,<- hq]
  rw [Int.gcd_mul_left,Int.natAbs_natCast] at h1
  exact Nat.eq_of_mul_eq_mul_left hg (by rw [<- h1,Nat.mul_one])
 have hg1:0 < ((Int.gcd x y:Nat):Int):=by omega
 have hmk:mkQ x y=if bl p.natAbs<=480/\bl q.natAbs<=480 then (.of p q,0) else (.of 0 0,10):=by
  unfold mkQ
  rw [if_neg (by omega),hs,Int.one_mul,ex,ey]
 generalize ((Int.gcd x y:Nat):Int)=g at *
 have hq0:0 < q:=by
  rcases Int.lt_trichotomy q 0 with h | h | h
  ·have:=Int.mul_neg_of_pos_of_neg hg1 h;omega
  ·subst h;simp at hq;omega
  ·exact h
 have hpx:p.natAbs<=x.natAbs:=by
  rw [hp,Int.natAbs_mul];exact Nat.le_mul_of_pos_left _ (by omega)
 have hqy:q.natAbs<=y.natAbs:=by
  rw [hq,Int.natAbs_mul];exact Nat.le_mul_of_pos_left _ (by omega)
 have b1:bl p.natAbs<=480:=jU (k:=dP) (Nat.lt_of_le_of_lt hpx hx)
 have b2:bl q.natAbs<=480:=jU (k:=dP) (Nat.lt_of_le_of_lt hqy hy2)
 refine ⟨.of p q,by rw [hmk,if_pos ⟨b1,b2⟩],?_,?_,?_,?_⟩
 ·unfold RQ.ok RQ.of
  refine decide_eq_true ⟨b1,b2,fun h=>?_,?_,by show 0 < q.natAbs;omega,hgcd⟩
  ·have h:=af h
   show p.natAbs≠0
   omega
  ·show decide (q < 0)=false
   exact decide_eq_false (by omega)
 ·rw [RQ.of_p,RQ.of_q]
  conv=>lhs;rw [hq]
  conv=>rhs;rw [hp]
  rw [Int.mul_comm p,Int.mul_assoc,Int.mul_assoc,Int.mul_comm q p]
 ·rw [RQ.of_p];exact hpx
 ·rw [RQ.of_q];omega
theorem GK {r s:RQ} (hr:r.ok=true) (hs:s.ok=true) {P Q P' Q':Nat} (h1:r.p.natAbs<=P) (h2:r.q.natAbs<=Q) (h3:s.p.natAbs<=P') (h4:s.q.natAbs<=Q') (h5:P*P' < 2 ^ dP) (h6:Q*Q' < 2 ^ dP):∃ t:RQ,bR r s=(t,0)/\t.ok=true/\t.p*(r.q*s.q)=r.p*s.p*t.q/\t.p.natAbs<=P*P'/\t.q.natAbs<=Q*Q':=by
 obtain ⟨-,-,q1,-,-⟩:=RQ.ok_bits hr
 obtain ⟨-,-,q2,-,-⟩:=RQ.ok_bits hs
 have e1:(r.p*s.p).natAbs<=P*P':=by rw [Int.natAbs_mul];exact Nat.mul_le_mul h1 h3
 have e2:(r.q*s.q).natAbs<=Q*Q':=by rw [Int.natAbs_mul];exact Nat.mul_le_mul h2 h4
 have hpos:0 < r.q*s.q:=Int.mul_pos q1 q2
 obtain ⟨t,m1,m2,m3,m4,m5⟩:=pL (x:=r.p*s.p) (y:=r.q*s.q) hpos (Nat.lt_of_le_of_lt e1 h5) (Nat.lt_of_le_of_lt e2 h6)
 obtain ⟨-,-,q3,-,-⟩:=RQ.ok_bits m2
 refine ⟨t,by rw [bR,hr,hs];exact m1,m2,m3,Nat.le_trans m4 e1,?_⟩
 refine Nat.le_trans ?_ e2
 generalize r.q*s.q=z at *
 omega
theorem FK (m:Bool) {r s:RQ} (hr:r.ok=true) (hs:s.ok=true) {P Q P' Q':Nat} (h1:r.p.natAbs<=P) (h2:r.q.natAbs<=Q) (h3:s.p.natAbs<=P') (h4:s.q.natAbs<=Q') (h5:P*Q'+P'*Q < 2 ^ dP) (h6:Q*Q' < 2 ^ dP):∃ t:RQ,fS m r s=(t,0)/\t.ok=true/\t.p*(r.q*s.q)=(r.p*s.q+sg m (s.p*r.q))*t.q/\t.p.natAbs<=P*Q'+P'*Q/\t.q.natAbs<=Q*Q':=by
 obtain ⟨-,-,q1,-,-⟩:=RQ.ok_bits hr
 obtain ⟨-,-,q2,-,-⟩:=RQ.ok_bits hs
 have e0:(sg m (s.p*r.q)).natAbs=(s.p*r.q).natAbs:=by cases m<;>simp [sg]
 have e1:(r.p*s.q+sg m (s.p*r.q)).natAbs<=P*Q'+P'*Q:=by
  have a1:(r.p*s.q).natAbs<=P*Q':=by rw [Int.natAbs_mul];exact Nat.mul_le_mul h1 h4
  have a2:(s.p*r.q).natAbs<=P'*Q:=by rw [Int.natAbs_mul];exact Nat.mul_le_mul h3 h2
  have:=Int.natAbs_add_le (r.p*s.q) (sg m (s.p*r.q))
  omega
 have e2:(r.q*s.q).natAbs<=Q*Q':=by rw [Int.natAbs_mul];exact Nat.mul_le_mul h2 h4
 have hpos:0 < r.q*s.q:=Int.mul_pos q1 q2
 obtain ⟨t,m1,m2,m3,m4,m5⟩:=pL (x:=r.p*s.q+sg m (s.p*r.q)) (y:=r.q*s.q) hpos (Nat.lt_of_le_of_lt e1 h5) (Nat.lt_of_le_of_lt e2 h6)
 obtain ⟨-,-,q3,-,-⟩:=RQ.ok_bits m2
 refine ⟨t,by rw [fS,hr,hs];exact m1,m2,m3,Nat.le_trans m4 e1,?_⟩
 refine Nat.le_trans ?_ e2
 generalize r.q*s.q=z at *
 omega
theorem Dw {n d:Int} (h1:0<=n) (h2:n<=200000) (h3:1<=d) (h4:d<=1000000) (h5:d ∣ 1000000):d8 (mkQ n d).1=true/\(mkQ n d).1.ok=true/\0<=(mkQ n d).1.p/\(mkQ n d).1.p.natAbs<=200000/\(mkQ n d).1.q.natAbs<=1000000/\(mkQ n d).1.p*d=n*(mkQ n d).1.q:=by
 have p480:1000000 < 2 ^ dP:=Nat.lt_of_lt_of_le (by decide:1000000 < 2 ^ 20) (Nat.pow_le_pow_right (by omega) (by decide))
 obtain ⟨r,m1,m2,m3,m4,m5⟩:=pL (x:=n) (y:=d) (by omega) (Nat.lt_of_le_of_lt (by omega) p480) (Nat.lt_of_le_of_lt (by omega) p480)
 rw [m1]
 show d8 r=true/\r.ok=true/\0<=r.p/\r.p.natAbs<=200000/\r.q.natAbs<=1000000/\r.p*d=n*r.q
 obtain ⟨-,-,q1,hg,-⟩:=RQ.ok_bits m2
 have hp0:0<=r.p:=by
  rcases Int.lt_or_le r.p 0 with h | h
  ·have a1:r.p*d < 0:=Int.mul_neg_of_neg_of_pos h (by omega)
   have a2:0<=n*r.q:=Int.mul_nonneg h1 (by omega)
   omega
  ·exact h
 have hqd:r.q ∣ d:=by
  have a1:r.q ∣ r.p*d:=⟨n,by rw [m3,Int.mul_comm]⟩
  have a2:r.q.natAbs ∣ r.p.natAbs*d.natAbs:=by rw [<- Int.natAbs_mul];exact Int.natAbs_dvd_natAbs.2 a1
  have a3:Nat.Coprime r.q.natAbs r.p.natAbs:=by rw [Nat.Coprime,Nat.gcd_comm];exact hg
  exact Int.natAbs_dvd_natAbs.1 (Nat.Coprime.dvd_of_dvd_mul_left a3 a2)
 have hq6:r.q ∣ r.p*1000000:=Int.dvd_trans (Int.dvd_trans hqd h5) (Int.dvd_mul_left _ _)
 refine ⟨?_,m2,hp0,by omega,by omega,m3⟩
 unfold d8
 rw [m2,Bool.true_and,decide_eq_true (Int.emod_eq_zero_of_dvd hq6),Bool.true_and,decide_eq_true hp0,Bool.true_and]
 exact decide_eq_true (by omega)
theorem Lz {r s:RQ} (hr:r.ok=true) (hs:s.ok=true) (h:r.p*s.q=s.p*r.q):r=s:=by
 obtain ⟨-,-,q1,g1,-⟩:=RQ.ok_bits hr
 obtain ⟨-,-,q2,g2,-⟩:=RQ.ok_bits hs
 have hh:r.N*s.D=s.N*r.D:=by
  have:=congrArg Int.natAbs h
  rw [Int.natAbs_mul,Int.natAbs_mul] at this
  simpa [RQ.p,RQ.q,bt] using this
 have hg1:Nat.gcd r.N r.D=1:=by rw [<- oy r.a r.N r.b r.D];exact g1
 have hg2:Nat.gcd s.N s.D=1:=by rw [<- oy s.a s.N s.b s.D];exact g2
 have d1:r.D ∣ s.D:=by
  have:r.D ∣ r.N*s.D:=⟨s.N,by rw [hh,Nat.mul_comm]⟩
  exact (Nat.Coprime.symm hg1).dvd_of_dvd_mul_left this
 have d2:s.D ∣ r.D:=by
  have:s.D ∣ s.N*r.D:=⟨r.N,by rw [<- hh,Nat.mul_comm]⟩
  exact (Nat.Coprime.symm hg2).dvd_of_dvd_mul_left this
 have hD:r.D=s.D:=Nat.dvd_antisymm d1 d2
 have hk1:_:=af hr
 have hk2:_:=af hs
 have hb:r.b=s.b:=by rw [hk1.2.2.2.1,hk2.2.2.2.1]
 have hN:r.N=s.N:=by
  rw [hD] at hh
  exact Nat.eq_of_mul_eq_mul_right hk2.2.2.2.2.1 hh
 have hq:r.q=s.q:=by rw [RQ.q,RQ.q,hb,hD]
 have hp:r.p=s.p:=by
  rw [hq] at h
  exact Int.eq_of_mul_eq_mul_right (by omega) h
 have ha:r.a=s.a:=by
  rw [RQ.p,RQ.p,hN] at hp
  cases h1:r.a<;>cases h2:s.a
  ·rfl
  ·have:=hk2.2.2.1 h2
   rw [h1,h2] at hp;simp [zN] at hp;omega
  ·have:=hk1.2.2.1 h1
   rw [h1,h2] at hp;simp [zN] at hp;omega
  ·rfl
 obtain ⟨a,N,b,D⟩:=r
 obtain ⟨a',N',b',D'⟩:=s
 simp only at ha hN hb hD
 subst ha;subst hN;subst hb;subst hD
 rfl
def Bd (k:Nat) (a:Int):Prop:=a.natAbs<=2 ^ k
theorem Bd.mul {i j:Nat} {a b:Int} (h1:Bd i a) (h2:Bd j b):Bd (i+j) (a*b):=by
 unfold Bd at *
 rw [Int.natAbs_mul,Nat.pow_add]
 exact Nat.mul_le_mul h1 h2
theorem Bd.mono {i j:Nat} {a:Int} (h1:Bd i a) (h:i<=j):Bd j a:=Nat.le_trans h1 (Nat.pow_le_pow_right (by omega) h)
theorem Bd.add {k:Nat} {a b:Int} (h1:Bd k a) (h2:Bd k b):Bd (k+1) (a+b):=by
 unfold Bd at *
 have:=Int.natAbs_add_le a b
 rw [Nat.pow_succ];omega
theorem Bd.lt {k:Nat} {a:Int} (h1:Bd k a) (h:k < 480):a.natAbs < 2 ^ dP:=Nat.lt_of_le_of_lt h1 (Nat.pow_lt_pow_right (by omega) h)
theorem mq {k l:Nat} {x y:Int} (hy:0 < y) (hx:Bd k x) (hy2:Bd l y) (hk:k < 480:=by decide) (hl:l < 480:=by decide):∃ r:RQ,mkQ x y=(r,0)/\r.ok=true/\r.p*y=x*r.q/\r.p.natAbs<=x.natAbs/\r.q<=y :=
 pL hy (hx.lt hk) (hy2.lt hl)
theorem GU {k l k' l':Nat} {x y x' y':Int} (hy:0 < y) (hx:Bd k x) (hy2:Bd l y) (hy':0 < y') (hx':Bd k' x') (hy2':Bd l' y') (h:x*y'=x'*y) (hk:k < 480:=by decide) (hl:l < 480:=by decide) (hk':k' < 480:=by decide) (hl':l' < 480:=by decide):mkQ x y=mkQ x' y':=by
 obtain ⟨r,h1,h2,h3,-,-⟩:=mq hy hx hy2 hk hl
 obtain ⟨s,h4,h5,h6,-,-⟩:=mq hy' hx' hy2' hk' hl'
 rw [h1,h4]
 have:r=s:=by
  refine Lz h2 h5 ?_
  -- r.p y = x r.q ; s.p y' = x' s.q
  have e1:(r.p*s.q)*(y*y')=(s.p*r.q)*(y*y'):=by
   have a1:(r.p*s.q)*(y*y')=(r.p*y)*(s.q*y'):=by ac_rfl
   have a2:(s.p*r.q)*(y*y')=(s.p*y')*(r.q*y):=by ac_rfl
   rw [a1,a2,h3,h6]
   have a3:x*r.q*(s.q*y')=(x*y')*(r.q*s.q):=by ac_rfl
   have a4:x'*s.q*(r.q*y)=(x'*y)*(r.q*s.q):=by ac_rfl
   rw [a3,a4,h]
  exact Int.eq_of_mul_eq_mul_right (by have:=Int.mul_pos hy hy';omega) e1
 rw [this]
theorem Mb {k:Nat} {r:RQ} {x:Int} (hx:Bd k x) (h:r.p.natAbs<=x.natAbs):Bd k r.p:=Nat.le_trans h hx
theorem II {k:Nat} {z y:Int} (hy:Bd k y) (h0:0 < z) (h:z<=y):Bd k z:=by unfold Bd at *;omega
theorem J4 {i j k l:Nat} {a b c d:Int} (hb:0 < b) (hd:0 < d) (h1:Bd i a) (h2:Bd j b) (h3:Bd k c) (h4:Bd l d) (hik:i+k < 480:=by decide) (hjl:j+l < 480:=by decide):bR (mkQ a b).1 (mkQ c d).1=mkQ (a*c) (b*d):=by
 obtain ⟨r,e1,e2,e3,e4,e5⟩:=mq hb h1 h2 (by omega) (by omega)
 obtain ⟨s,f1,f2,f3,f4,f5⟩:=mq hd h3 h4 (by omega) (by omega)
 obtain ⟨-,-,q1,-,-⟩:=RQ.ok_bits e2
 obtain ⟨-,-,q2,-,-⟩:=RQ.ok_bits f2
 rw [e1,f1,bR]
 rw [show (r,(0:Int)).1=r from rfl,show (s,(0:Int)).1=s from rfl,e2,f2]
 refine GU (Int.mul_pos q1 q2) ((Mb h1 e4).mul (Mb h3 f4)) ((II h2 q1 e5).mul (II h4 q2 f5)) (Int.mul_pos hb hd) (h1.mul h3) (h2.mul h4) ?_ hik hjl hik hjl
 have a1:r.p*s.p*(b*d)=(r.p*b)*(s.p*d):=by ac_rfl
 rw [a1,e3,f3]
 ac_rfl
theorem LJ {n:Int} (hn:Bd 60 n):RQ.of n 1=(mkQ n 1).1:=by
 obtain ⟨r,e1,e2,e3,e4,e5⟩:=mq (y:=1) (by decide) hn (show Bd 1 1 from by unfold Bd;decide)
 rw [e1]
 obtain ⟨-,-,q1,-,-⟩:=RQ.ok_bits e2
 refine Lz ?_ e2 ?_
 ·refine decide_eq_true ⟨jU (k:=dP) (hn.lt (by decide)),(show bl (1:Nat)<=480 by decide),?_,rfl,(show 0 < (1:Nat) by decide),?_⟩
  ·show decide (n < 0)=true->_
   intro h;have:=af h;show n.natAbs≠0;omega
  ·show Nat.gcd n.natAbs 1=1
   exact Nat.gcd_one_right _
 ·rw [RQ.of_p,RQ.of_q]
  show n*r.q=r.p*1
  omega
theorem uf {a:Int} (h1 : -1000000000000000000<=a) (h2:a<=1000000000000000000):Bd 60 a:=by unfold Bd;omega
theorem Gl {r:RQ} (h:isPrice r):∃ n d:Int,r=(mkQ n d).1/\1<=n/\n<=200000/\1<=d/\d<=1000000/\d ∣ 1000000/\d8 r=true/\r.ok=true/\0 < r.p:=by
 obtain ⟨n,d,rfl,h1,h2,h3⟩:=h
 have hd:1<=d/\d<=1000000/\d ∣ 1000000:=by
  simp at h3
  rcases h3 with rfl | rfl | rfl | rfl | rfl | rfl | rfl<;>exact ⟨by decide,by decide,by decide⟩
 obtain ⟨p1,p2,p3,p4,p5,p6⟩:=Dw (n:=n) (d:=d) (by omega) h2 hd.1 hd.2.1 hd.2.2
 refine ⟨n,d,rfl,h1,h2,hd.1,hd.2.1,hd.2.2,p1,p2,?_⟩
 rcases Int.lt_or_eq_of_le p3 with h | h
 ·exact h
 ·exfalso
  obtain ⟨-,-,q1,-,-⟩:=RQ.ok_bits p2
  rw [<- h,Int.zero_mul] at p6
  have:=Int.mul_pos (show 0 < n by omega) q1
  omega
end Go.Proofs.YtklehfchdoikeaaGreatDoor
