/- made stocks, codes, actions. made entries. the law PositionP; no condition. -/
import Derived.Test.YtekfkdddadcalaaGreatDoorPositionPlaysQ33
import Derived.Test.YtekfkdddadcalaaGreatDoorPositionPlaysQ34
open Go.IntKind (i64)
set_option maxRecDepth 100000
set_option maxHeartbeats 4000000
namespace Go.Proofs.YtekfkdddadcalaaGreatDoor
open Go Go.RowKit Go.SX
open Go.Proofs.Tryz (prog)
theorem yn:Gen 50 [] 1 (RS (·∈eQ)):=by
 intro zs k hk
 obtain ⟨r1,k1,a1,b1,⟨l,rfl,c1⟩,O1⟩:=uY (xs:=[[65,67,77,69],[66,79,78,68],[71,79,76,68],[88,49]]) (by decide) (by decide) zs k (by omega)
 refine ⟨_,k1,by omega,by omega,⟨l,rfl,c1⟩,fun E v d hE hv=>?_⟩
 refine bf [] af ah Oh E hE d (25,2,tb v k,tb v k1) [SV.ptr 1000 0] _ rfl rfl fun w b hT=>?_
 have hv:=hv.of_old hE.symm hT
 exact ⟨by decide,by decide,fV [[65,67,77,69],[66,79,78,68],[71,79,76,68],[88,49]],by kernel_rfl,rfl,.inr ⟨_,_,_,O1 _ v 1000 4 (by decide) rfl hv,⟨rfl,rfl,trivial⟩,rfl,rfl,rfl,trivial⟩⟩
theorem En:Gen 52 [] 1 (RS (·∈fP)):=by
 intro zs k hk
 obtain ⟨r1,k1,a1,b1,⟨l,rfl,c1⟩,O1⟩:=uY (xs:=[[85,83,68],[85,83,68],[69,85,82],[71,66,80]]) (by decide) (by decide) zs k (by omega)
 refine ⟨_,k1,by omega,by omega,⟨l,rfl,by simp at c1;rcases c1 with rfl | rfl | rfl<;>simp [fP]⟩,fun E v d hE hv=>?_⟩
 refine bf [] af ah Of E hE d (25,2,tb v k,tb v k1) [SV.ptr 1000 0] _ rfl rfl fun w b hT=>?_
 have hv:=hv.of_old hE.symm hT
 exact ⟨by decide,by decide,fV [[85,83,68],[85,83,68],[69,85,82],[71,66,80]],by kernel_rfl,rfl,.inr ⟨_,_,_,O1 _ v 1000 4 (by decide) rfl hv,⟨rfl,rfl,trivial⟩,rfl,rfl,rfl,trivial⟩⟩
theorem EM {day:Int} (hD:0<=day/\day<=73048) (known:Int):Gen 22 [SV.c (.int .i64 day),SV.c (.int .i64 known)] 20 (RC fun a=>(MkA day a/\a.key∈fG/\a.In)/\a.known=known):=by
 intro zs k hk
 obtain ⟨r1,k1,a1,b1,⟨kind,rfl,c1⟩,O1⟩:=yH (lo:=1) (hi:=3) (by decide) (by decide) (by decide) zs k (by omega)
 obtain ⟨r2,k2,a2,b2,⟨key,rfl,c2⟩,O2⟩:=uY (xs:=[[115,49],[115,50],[100,49],[109,49]]) (by decide) (by decide) zs k1 (by omega)
 obtain ⟨r3,k3,a3,b3,⟨ins,rfl,c3⟩,O3⟩:=yn zs k2 (by omega)
 obtain ⟨r4,k4,a4,b4,⟨i4,rfl,c4⟩,O4⟩:=cA (n:=8) (by decide) zs k3 (by omega)
 obtain ⟨r5,k5,a5,b5,⟨cash,rfl,c5⟩,O5⟩:=Fl zs k4 (by omega)
 obtain ⟨r6,k6,a6,b6,⟨cur,rfl,c6⟩,O6⟩:=En zs k5 (by omega)
 have lkey:key.length<=9223372036854775807:=by simp at c2;rcases c2 with rfl | rfl | rfl | rfl<;>simp
 have lkey:key.length<=9223372036854775807:=by have:=rR (k:=key) c2;omega
 have lins:=jn (mv c3)
 have lcur:cur.length<=100:=by
  have h:=c6
  simp only [fP,List.mem_cons,List.not_mem_nil,or_false] at h
  rcases h with rfl | rfl | rfl<;>decide
 have n0:(MkA day (AC.nil key known)/\(AC.nil key known).key∈fG/\(AC.nil key known).In)/\(AC.nil key known).known=known:=⟨⟨.inl rfl,c2,xi,lkey,by simp [AC.nil],by simp [AC.nil],by simp [AC.nil],by simp [AC.nil],by simp [AC.nil]⟩,rfl⟩
 let M:=fun (kind:Int) (into:List UInt8) (num den:Int) (r:RQ)=>AC.mk kind key ins into (min 73048 (i64.wrap (day+i4))) num den r cur known false
 have mk:∀ (kind:Int) (into:List UInt8) (num den:Int) (r:RQ),into.length<=100->r.In->(isPrice r\/(kind≠2/\r=.of 0 1))->((kind=2/\into=[]/\num=0/\den=0)\/(((kind=1/\into=[])\/(kind=3/\into=[78,69,87,67,79]))/\1<=num/\num<=1000/\1<=den/\den<=1000000))->(MkA day (M kind into num den r)/\key∈fG/\(M kind into num den r).In)/\known=known:=fun kind into num den r h1 h2 h3 h4=>⟨⟨HV hD ⟨c4.1,by omega⟩ c3 c6 h3 h4,c2,h2,lkey,by show ins.length<=_;omega,by show into.length<=_;omega,by show cur.length<=_;omega,by show _<=num/\num<=_;omega,by show _<=den/\den<=_;omega⟩,rfl⟩
 by_cases h2:kind=2
 ·subst h2
  obtain ⟨r7,k7,a7,b7,⟨void,rfl⟩,O7⟩:=d8 (a:=1) (b:=8) (by decide) zs k6 (by omega)
  cases void
  ·refine ⟨_,k7,by omega,by omega,⟨(M 2 [] 0 0 cash),rfl,mk _ _ _ _ _ (by simp) c5.in_ (.inl c5) (.inl ⟨rfl,rfl,rfl,rfl⟩)⟩,fun E v d hE hv=>?_⟩
   refine bf [] af ah rq E hE d (25,2,tb v k,tb v k7) [SV.ptr 1000 0,SV.c (.int .i64 day),SV.c (.int .i64 known)] _ rfl rfl fun w b hT=>?_
   have hv:=hv.of_old hE.symm hT
   exact .inr ⟨_,_,_,O1 _ v 1000 rfl hv,⟨rfl,trivial⟩,rfl,by decide,by decide,fV fG,by kernel_rfl,rfl,.inr ⟨_,_,_,O2 _ v 1000 11 (by decide) rfl hv,⟨rfl,rfl,trivial⟩,rfl,.inr ⟨_,_,_,O3 _ v 1000 rfl hv,⟨rfl,trivial⟩,rfl,.inr ⟨_,_,_,O4 _ v 1000 rfl hv,⟨rfl,trivial⟩,rfl,_,fun w' _=>aV _ _ w',.inr ⟨_,_,_,O5 _ v 1000 rfl hv,⟨rfl,trivial⟩,rfl,.inr ⟨_,_,_,O6 _ v 1000 rfl hv,⟨rfl,trivial⟩,rfl,_,dt 2 (min 73048 (i64.wrap (day+i4))) known key ins cur cash rfl,AC.fits (M 2 [] 0 0 cash),_,AC.g0 (M 2 [] 0 0 cash),(nf rfl),fun _=>⟨_,AC.g0 (M 2 [] 0 0 cash),(nf rfl),fun _=>⟨_,AC.g0 (M 2 [] 0 0 cash),(nf rfl),fun _=>⟨(nf rfl),fun _=>.inr ⟨_,_,_,O7 _ v 1000 rfl hv,⟨rfl,trivial⟩,rfl,(nf rfl),fun _=>⟨AC.fits _,rfl,rfl,trivial⟩⟩⟩⟩⟩⟩⟩⟩⟩⟩⟩
  ·refine ⟨_,k7,by omega,by omega,⟨AC.nil key known,rfl,n0⟩,fun E v d hE hv=>?_⟩
   refine bf [] af ah rq E hE d (25,2,tb v k,tb v k7) [SV.ptr 1000 0,SV.c (.int .i64 day),SV.c (.int .i64 known)] _ rfl rfl fun w b hT=>?_
   have hv:=hv.of_old hE.symm hT
   exact .inr ⟨_,_,_,O1 _ v 1000 rfl hv,⟨rfl,trivial⟩,rfl,by decide,by decide,fV fG,by kernel_rfl,rfl,.inr ⟨_,_,_,O2 _ v 1000 11 (by decide) rfl hv,⟨rfl,rfl,trivial⟩,rfl,.inr ⟨_,_,_,O3 _ v 1000 rfl hv,⟨rfl,trivial⟩,rfl,.inr ⟨_,_,_,O4 _ v 1000 rfl hv,⟨rfl,trivial⟩,rfl,_,fun w' _=>aV _ _ w',.inr ⟨_,_,_,O5 _ v 1000 rfl hv,⟨rfl,trivial⟩,rfl,.inr ⟨_,_,_,O6 _ v 1000 rfl hv,⟨rfl,trivial⟩,rfl,_,dt 2 (min 73048 (i64.wrap (day+i4))) known key ins cur cash rfl,AC.fits (M 2 [] 0 0 cash),_,AC.g0 (M 2 [] 0 0 cash),(nf rfl),fun _=>⟨_,AC.g0 (M 2 [] 0 0 cash),(nf rfl),fun _=>⟨_,AC.g0 (M 2 [] 0 0 cash),(nf rfl),fun _=>⟨(nf rfl),fun _=>.inr ⟨_,_,_,O7 _ v 1000 rfl hv,⟨rfl,trivial⟩,rfl,fun _=>⟨_,AC.g1 (M 2 [] 0 0 cash),_,ft key known rfl,AC.fits _,rfl,rfl,trivial⟩,(nf rfl)⟩⟩⟩⟩⟩⟩⟩⟩⟩⟩
 have hk3:kind=1\/kind=3:=by omega
 rcases hk3 with hk3 | hk3
 ·subst hk3
  obtain ⟨r7,k7,a7,b7,⟨i7,rfl,c7⟩,O7⟩:=cA (n:=50) (by decide) zs k6 (by omega)
  have e7:i64.wrap (1+i7)=1+i7:=i64_in (by omega)
  obtain ⟨r8,k8,a8,b8,⟨num,rfl,c8⟩,O8⟩:=gI (xs:=[1,2,3,10,1000,i64.wrap (1+i7)]) (by simp) (by simp) zs k7 (by omega)
  obtain ⟨r9,k9,a9,b9,⟨i9,rfl,c9⟩,O9⟩:=cA (n:=50) (by decide) zs k8 (by omega)
  have e9:i64.wrap (1+i9)=1+i9:=i64_in (by omega)
  obtain ⟨r10,k10,a10,b10,⟨den,rfl,c10⟩,O10⟩:=gI (xs:=[1,1,2,3,7,1000000,i64.wrap (1+i9)]) (by simp) (by simp) zs k9 (by omega)
  have q8:1<=num/\num<=1000:=by rw [e7] at c8;simp at c8;omega
  have q10:1<=den/\den<=1000000:=by rw [e9] at c10;simp at c10;omega
  obtain ⟨r11,k11,a11,b11,⟨zero,rfl⟩,O11⟩:=d8 (a:=1) (b:=4) (by decide) zs k10 (by omega)
  obtain ⟨r12,k12,a12,b12,⟨void,rfl⟩,O12⟩:=d8 (a:=1) (b:=8) (by decide) zs k11 (by omega)
  cases zero
  ·cases void
   ·refine ⟨_,k12,by omega,by omega,⟨(M 1 [] num den cash),rfl,mk _ _ _ _ _ (by simp) c5.in_ (.inl c5) (.inr ⟨.inl ⟨rfl,rfl⟩,q8.1,q8.2,q10.1,q10.2⟩)⟩,fun E v d hE hv=>?_⟩
    refine bf [] af ah rq E hE d (25,2,tb v k,tb v k12) [SV.ptr 1000 0,SV.c (.int .i64 day),SV.c (.int .i64 known)] _ rfl rfl fun w b hT=>?_
    have hv:=hv.of_old hE.symm hT
    exact .inr ⟨_,_,_,O1 _ v 1000 rfl hv,⟨rfl,trivial⟩,rfl,by decide,by decide,fV fG,by kernel_rfl,rfl,.inr ⟨_,_,_,O2 _ v 1000 11 (by decide) rfl hv,⟨rfl,rfl,trivial⟩,rfl,.inr ⟨_,_,_,O3 _ v 1000 rfl hv,⟨rfl,trivial⟩,rfl,.inr ⟨_,_,_,O4 _ v 1000 rfl hv,⟨rfl,trivial⟩,rfl,_,fun w' _=>aV _ _ w',.inr ⟨_,_,_,O5 _ v 1000 rfl hv,⟨rfl,trivial⟩,rfl,.inr ⟨_,_,_,O6 _ v 1000 rfl hv,⟨rfl,trivial⟩,rfl,_,dt 1 (min 73048 (i64.wrap (day+i4))) known key ins cur cash rfl,AC.fits (M 1 [] 0 0 cash),_,AC.g0 (M 1 [] 0 0 cash),fun _=>.inr ⟨_,_,_,O7 _ v 1000 rfl hv,⟨rfl,trivial⟩,rfl,by decide,by decide,aO [1,2,3,10,1000,i64.wrap (1+i7)],by kernel_rfl,rfl,.inr ⟨_,_,_,O8 _ v 1000 33 (by decide) rfl hv,⟨rfl,rfl,trivial⟩,rfl,.inr ⟨_,_,_,O9 _ v 1000 rfl hv,⟨rfl,trivial⟩,rfl,by decide,by decide,aO [1,1,2,3,7,1000000,i64.wrap (1+i9)],by kernel_rfl,rfl,.inr ⟨_,_,_,O10 _ v 1000 39 (by decide) rfl hv,⟨rfl,rfl,trivial⟩,rfl,by decide,rfl,_,AC.set5 (M 1 [] 0 0 cash) num,by decide,rfl,_,AC.set6 (M 1 [] num 0 cash) den,_,AC.g0 (M 1 [] num den cash),(nf rfl),fun _=>⟨_,AC.g0 (M 1 [] num den cash),fun _=>.inr ⟨_,_,_,O11 _ v 1000 rfl hv,⟨rfl,trivial⟩,rfl,(nf rfl),fun _=>.inr ⟨_,_,_,O12 _ v 1000 rfl hv,⟨rfl,trivial⟩,rfl,(nf rfl),fun _=>⟨AC.fits _,rfl,rfl,trivial⟩⟩⟩,(nf rfl)⟩⟩⟩⟩⟩,(nf rfl)⟩⟩⟩⟩⟩⟩
   ·refine ⟨_,k12,by omega,by omega,⟨AC.nil key known,rfl,n0⟩,fun E v d hE hv=>?_⟩
    refine bf [] af ah rq E hE d (25,2,tb v k,tb v k12) [SV.ptr 1000 0,SV.c (.int .i64 day),SV.c (.int .i64 known)] _ rfl rfl fun w b hT=>?_
    have hv:=hv.of_old hE.symm hT
    exact .inr ⟨_,_,_,O1 _ v 1000 rfl hv,⟨rfl,trivial⟩,rfl,by decide,by decide,fV fG,by kernel_rfl,rfl,.inr ⟨_,_,_,O2 _ v 1000 11 (by decide) rfl hv,⟨rfl,rfl,trivial⟩,rfl,.inr ⟨_,_,_,O3 _ v 1000 rfl hv,⟨rfl,trivial⟩,rfl,.inr ⟨_,_,_,O4 _ v 1000 rfl hv,⟨rfl,trivial⟩,rfl,_,fun w' _=>aV _ _ w',.inr ⟨_,_,_,O5 _ v 1000 rfl hv,⟨rfl,trivial⟩,rfl,.inr ⟨_,_,_,O6 _ v 1000 rfl hv,⟨rfl,trivial⟩,rfl,_,dt 1 (min 73048 (i64.wrap (day+i4))) known key ins cur cash rfl,AC.fits (M 1 [] 0 0 cash),_,AC.g0 (M 1 [] 0 0 cash),fun _=>.inr ⟨_,_,_,O7 _ v 1000 rfl hv,⟨rfl,trivial⟩,rfl,by decide,by decide,aO [1,2,3,10,1000,i64.wrap (1+i7)],by kernel_rfl,rfl,.inr ⟨_,_,_,O8 _ v 1000 33 (by decide) rfl hv,⟨rfl,rfl,trivial⟩,rfl,.inr ⟨_,_,_,O9 _ v 1000 rfl hv,⟨rfl,trivial⟩,rfl,by decide,by decide,aO [1,1,2,3,7,1000000,i64.wrap (1+i9)],by kernel_rfl,rfl,.inr ⟨_,_,_,O10 _ v 1000 39 (by decide) rfl hv,⟨rfl,rfl,trivial⟩,rfl,by decide,rfl,_,AC.set5 (M 1 [] 0 0 cash) num,by decide,rfl,_,AC.set6 (M 1 [] num 0 cash) den,_,AC.g0 (M 1 [] num den cash),(nf rfl),fun _=>⟨_,AC.g0 (M 1 [] num den cash),fun _=>.inr ⟨_,_,_,O11 _ v 1000 rfl hv,⟨rfl,trivial⟩,rfl,(nf rfl),fun _=>.inr ⟨_,_,_,O12 _ v 1000 rfl hv,⟨rfl,trivial⟩,rfl,fun _=>⟨_,AC.g1 (M 1 [] num den cash),_,ft key known rfl,AC.fits _,rfl,rfl,trivial⟩,(nf rfl)⟩⟩,(nf rfl)⟩⟩⟩⟩⟩,(nf rfl)⟩⟩⟩⟩⟩⟩
  ·cases void
   ·refine ⟨_,k12,by omega,by omega,⟨(M 1 [] num den (RQ.of 0 1)),rfl,mk _ _ _ _ _ (by simp) tk (.inr ⟨by decide,rfl⟩) (.inr ⟨.inl ⟨rfl,rfl⟩,q8.1,q8.2,q10.1,q10.2⟩)⟩,fun E v d hE hv=>?_⟩
    refine bf [] af ah rq E hE d (25,2,tb v k,tb v k12) [SV.ptr 1000 0,SV.c (.int .i64 day),SV.c (.int .i64 known)] _ rfl rfl fun w b hT=>?_
    have hv:=hv.of_old hE.symm hT
    exact .inr ⟨_,_,_,O1 _ v 1000 rfl hv,⟨rfl,trivial⟩,rfl,by decide,by decide,fV fG,by kernel_rfl,rfl,.inr ⟨_,_,_,O2 _ v 1000 11 (by decide) rfl hv,⟨rfl,rfl,trivial⟩,rfl,.inr ⟨_,_,_,O3 _ v 1000 rfl hv,⟨rfl,trivial⟩,rfl,.inr ⟨_,_,_,O4 _ v 1000 rfl hv,⟨rfl,trivial⟩,rfl,_,fun w' _=>aV _ _ w',.inr ⟨_,_,_,O5 _ v 1000 rfl hv,⟨rfl,trivial⟩,rfl,.inr ⟨_,_,_,O6 _ v 1000 rfl hv,⟨rfl,trivial⟩,rfl,_,dt 1 (min 73048 (i64.wrap (day+i4))) known key ins cur cash rfl,AC.fits (M 1 [] 0 0 cash),_,AC.g0 (M 1 [] 0 0 cash),fun _=>.inr ⟨_,_,_,O7 _ v 1000 rfl hv,⟨rfl,trivial⟩,rfl,by decide,by decide,aO [1,2,3,10,1000,i64.wrap (1+i7)],by kernel_rfl,rfl,.inr ⟨_,_,_,O8 _ v 1000 33 (by decide) rfl hv,⟨rfl,rfl,trivial⟩,rfl,.inr ⟨_,_,_,O9 _ v 1000 rfl hv,⟨rfl,trivial⟩,rfl,by decide,by decide,aO [1,1,2,3,7,1000000,i64.wrap (1+i9)],by kernel_rfl,rfl,.inr ⟨_,_,_,O10 _ v 1000 39 (by decide) rfl hv,⟨rfl,rfl,trivial⟩,rfl,by decide,rfl,_,AC.set5 (M 1 [] 0 0 cash) num,by decide,rfl,_,AC.set6 (M 1 [] num 0 cash) den,_,AC.g0 (M 1 [] num den cash),(nf rfl),fun _=>⟨_,AC.g0 (M 1 [] num den cash),fun _=>.inr ⟨_,_,_,O11 _ v 1000 rfl hv,⟨rfl,trivial⟩,rfl,fun _=>.inl ⟨_,lj,by decide,RQ.A_fits _,_,AC.setcash (M 1 [] num den cash) (RQ.of 0 1),.inr ⟨_,_,_,O12 _ v 1000 rfl hv,⟨rfl,trivial⟩,rfl,(nf rfl),fun _=>⟨AC.fits _,rfl,rfl,trivial⟩⟩⟩,(nf rfl)⟩,(nf rfl)⟩⟩⟩⟩⟩,(nf rfl)⟩⟩⟩⟩⟩⟩
   ·refine ⟨_,k12,by omega,by omega,⟨AC.nil key known,rfl,n0⟩,fun E v d hE hv=>?_⟩
    refine bf [] af ah rq E hE d (25,2,tb v k,tb v k12) [SV.ptr 1000 0,SV.c (.int .i64 day),SV.c (.int .i64 known)] _ rfl rfl fun w b hT=>?_
    have hv:=hv.of_old hE.symm hT
    exact .inr ⟨_,_,_,O1 _ v 1000 rfl hv,⟨rfl,trivial⟩,rfl,by decide,by decide,fV fG,by kernel_rfl,rfl,.inr ⟨_,_,_,O2 _ v 1000 11 (by decide) rfl hv,⟨rfl,rfl,trivial⟩,rfl,.inr ⟨_,_,_,O3 _ v 1000 rfl hv,⟨rfl,trivial⟩,rfl,.inr ⟨_,_,_,O4 _ v 1000 rfl hv,⟨rfl,trivial⟩,rfl,_,fun w' _=>aV _ _ w',.inr ⟨_,_,_,O5 _ v 1000 rfl hv,⟨rfl,trivial⟩,rfl,.inr ⟨_,_,_,O6 _ v 1000 rfl hv,⟨rfl,trivial⟩,rfl,_,dt 1 (min 73048 (i64.wrap (day+i4))) known key ins cur cash rfl,AC.fits (M 1 [] 0 0 cash),_,AC.g0 (M 1 [] 0 0 cash),fun _=>.inr ⟨_,_,_,O7 _ v 1000 rfl hv,⟨rfl,trivial⟩,rfl,by decide,by decide,aO [1,2,3,10,1000,i64.wrap (1+i7)],by kernel_rfl,rfl,.inr ⟨_,_,_,O8 _ v 1000 33 (by decide) rfl hv,⟨rfl,rfl,trivial⟩,rfl,.inr ⟨_,_,_,O9 _ v 1000 rfl hv,⟨rfl,trivial⟩,rfl,by decide,by decide,aO [1,1,2,3,7,1000000,i64.wrap (1+i9)],by kernel_rfl,rfl,.inr ⟨_,_,_,O10 _ v 1000 39 (by decide) rfl hv,⟨rfl,rfl,trivial⟩,rfl,by decide,rfl,_,AC.set5 (M 1 [] 0 0 cash) num,by decide,rfl,_,AC.set6 (M 1 [] num 0 cash) den,_,AC.g0 (M 1 [] num den cash),(nf rfl),fun _=>⟨_,AC.g0 (M 1 [] num den cash),fun _=>.inr ⟨_,_,_,O11 _ v 1000 rfl hv,⟨rfl,trivial⟩,rfl,fun _=>.inl ⟨_,lj,by decide,RQ.A_fits _,_,AC.setcash (M 1 [] num den cash) (RQ.of 0 1),.inr ⟨_,_,_,O12 _ v 1000 rfl hv,⟨rfl,trivial⟩,rfl,fun _=>⟨_,AC.g1 (M 1 [] num den (RQ.of 0 1)),_,ft key known rfl,AC.fits _,rfl,rfl,trivial⟩,(nf rfl)⟩⟩,(nf rfl)⟩,(nf rfl)⟩⟩⟩⟩⟩,(nf rfl)⟩⟩⟩⟩⟩⟩
 ·subst hk3
  obtain ⟨r7,k7,a7,b7,⟨i7,rfl,c7⟩,O7⟩:=cA (n:=50) (by decide) zs k6 (by omega)
  have e7:i64.wrap (1+i7)=1+i7:=i64_in (by omega)
  obtain ⟨r8,k8,a8,b8,⟨num,rfl,c8⟩,O8⟩:=gI (xs:=[1,2,3,10,1000,i64.wrap (1+i7)]) (by simp) (by simp) zs k7 (by omega)
  obtain ⟨r9,k9,a9,b9,⟨i9,rfl,c9⟩,O9⟩:=cA (n:=50) (by decide) zs k8 (by omega)
  have e9:i64.wrap (1+i9)=1+i9:=i64_in (by omega)
  obtain ⟨r10,k10,a10,b10,⟨den,rfl,c10⟩,O10⟩:=gI (xs:=[1,1,2,3,7,1000000,i64.wrap (1+i9)]) (by simp) (by simp) zs k9 (by omega)
  have q8:1<=num/\num<=1000:=by rw [e7] at c8;simp at c8;omega
  have q10:1<=den/\den<=1000000:=by rw [e9] at c10;simp at c10;omega
  obtain ⟨r11,k11,a11,b11,⟨zero,rfl⟩,O11⟩:=d8 (a:=1) (b:=4) (by decide) zs k10 (by omega)
  obtain ⟨r12,k12,a12,b12,⟨void,rfl⟩,O12⟩:=d8 (a:=1) (b:=8) (by decide) zs k11 (by omega)
  cases zero
  ·cases void
   ·refine ⟨_,k12,by omega,by omega,⟨(M 3 [78,69,87,67,79] num den cash),rfl,mk _ _ _ _ _ (by simp) c5.in_ (.inl c5) (.inr ⟨.inr ⟨rfl,rfl⟩,q8.1,q8.2,q10.1,q10.2⟩)⟩,fun E v d hE hv=>?_⟩
    refine bf [] af ah rq E hE d (25,2,tb v k,tb v k12) [SV.ptr 1000 0,SV.c (.int .i64 day),SV.c (.int .i64 known)] _ rfl rfl fun w b hT=>?_
    have hv:=hv.of_old hE.symm hT
    exact .inr ⟨_,_,_,O1 _ v 1000 rfl hv,⟨rfl,trivial⟩,rfl,by decide,by decide,fV fG,by kernel_rfl,rfl,.inr ⟨_,_,_,O2 _ v 1000 11 (by decide) rfl hv,⟨rfl,rfl,trivial⟩,rfl,.inr ⟨_,_,_,O3 _ v 1000 rfl hv,⟨rfl,trivial⟩,rfl,.inr ⟨_,_,_,O4 _ v 1000 rfl hv,⟨rfl,trivial⟩,rfl,_,fun w' _=>aV _ _ w',.inr ⟨_,_,_,O5 _ v 1000 rfl hv,⟨rfl,trivial⟩,rfl,.inr ⟨_,_,_,O6 _ v 1000 rfl hv,⟨rfl,trivial⟩,rfl,_,dt 3 (min 73048 (i64.wrap (day+i4))) known key ins cur cash rfl,AC.fits (M 3 [] 0 0 cash),_,AC.g0 (M 3 [] 0 0 cash),fun _=>.inr ⟨_,_,_,O7 _ v 1000 rfl hv,⟨rfl,trivial⟩,rfl,by decide,by decide,aO [1,2,3,10,1000,i64.wrap (1+i7)],by kernel_rfl,rfl,.inr ⟨_,_,_,O8 _ v 1000 33 (by decide) rfl hv,⟨rfl,rfl,trivial⟩,rfl,.inr ⟨_,_,_,O9 _ v 1000 rfl hv,⟨rfl,trivial⟩,rfl,by decide,by decide,aO [1,1,2,3,7,1000000,i64.wrap (1+i9)],by kernel_rfl,rfl,.inr ⟨_,_,_,O10 _ v 1000 39 (by decide) rfl hv,⟨rfl,rfl,trivial⟩,rfl,by decide,rfl,_,AC.set5 (M 3 [] 0 0 cash) num,by decide,rfl,_,AC.set6 (M 3 [] num 0 cash) den,_,AC.g0 (M 3 [] num den cash),fun _=>⟨by decide,rfl,_,AC.set3 (M 3 [] num den cash) [78,69,87,67,79],_,AC.g0 (M 3 [78,69,87,67,79] num den cash),fun _=>.inr ⟨_,_,_,O11 _ v 1000 rfl hv,⟨rfl,trivial⟩,rfl,(nf rfl),fun _=>.inr ⟨_,_,_,O12 _ v 1000 rfl hv,⟨rfl,trivial⟩,rfl,(nf rfl),fun _=>⟨AC.fits _,rfl,rfl,trivial⟩⟩⟩,(nf rfl)⟩,(nf rfl)⟩⟩⟩⟩,(nf rfl)⟩⟩⟩⟩⟩⟩
   ·refine ⟨_,k12,by omega,by omega,⟨AC.nil key known,rfl,n0⟩,fun E v d hE hv=>?_⟩
    refine bf [] af ah rq E hE d (25,2,tb v k,tb v k12) [SV.ptr 1000 0,SV.c (.int .i64 day),SV.c (.int .i64 known)] _ rfl rfl fun w b hT=>?_
    have hv:=hv.of_old hE.symm hT
    exact .inr ⟨_,_,_,O1 _ v 1000 rfl hv,⟨rfl,trivial⟩,rfl,by decide,by decide,fV fG,by kernel_rfl,rfl,.inr ⟨_,_,_,O2 _ v 1000 11 (by decide) rfl hv,⟨rfl,rfl,trivial⟩,rfl,.inr ⟨_,_,_,O3 _ v 1000 rfl hv,⟨rfl,trivial⟩,rfl,.inr ⟨_,_,_,O4 _ v 1000 rfl hv,⟨rfl,trivial⟩,rfl,_,fun w' _=>aV _ _ w',.inr ⟨_,_,_,O5 _ v 1000 rfl hv,⟨rfl,trivial⟩,rfl,.inr ⟨_,_,_,O6 _ v 1000 rfl hv,⟨rfl,trivial⟩,rfl,_,dt 3 (min 73048 (i64.wrap (day+i4))) known key ins cur cash rfl,AC.fits (M 3 [] 0 0 cash),_,AC.g0 (M 3 [] 0 0 cash),fun _=>.inr ⟨_,_,_,O7 _ v 1000 rfl hv,⟨rfl,trivial⟩,rfl,by decide,by decide,aO [1,2,3,10,1000,i64.wrap (1+i7)],by kernel_rfl,rfl,.inr ⟨_,_,_,O8 _ v 1000 33 (by decide) rfl hv,⟨rfl,rfl,trivial⟩,rfl,.inr ⟨_,_,_,O9 _ v 1000 rfl hv,⟨rfl,trivial⟩,rfl,by decide,by decide,aO [1,1,2,3,7,1000000,i64.wrap (1+i9)],by kernel_rfl,rfl,.inr ⟨_,_,_,O10 _ v 1000 39 (by decide) rfl hv,⟨rfl,rfl,trivial⟩,rfl,by decide,rfl,_,AC.set5 (M 3 [] 0 0 cash) num,by decide,rfl,_,AC.set6 (M 3 [] num 0 cash) den,_,AC.g0 (M 3 [] num den cash),fun _=>⟨by decide,rfl,_,AC.set3 (M 3 [] num den cash) [78,69,87,67,79],_,AC.g0 (M 3 [78,69,87,67,79] num den cash),fun _=>.inr ⟨_,_,_,O11 _ v 1000 rfl hv,⟨rfl,trivial⟩,rfl,(nf rfl),fun _=>.inr ⟨_,_,_,O12 _ v 1000 rfl hv,⟨rfl,trivial⟩,rfl,fun _=>⟨_,AC.g1 (M 3 [78,69,87,67,79] num den cash),_,ft key known rfl,AC.fits _,rfl,rfl,trivial⟩,(nf rfl)⟩⟩,(nf rfl)⟩,(nf rfl)⟩⟩⟩⟩,(nf rfl)⟩⟩⟩⟩⟩⟩
  ·cases void
   ·refine ⟨_,k12,by omega,by omega,⟨(M 3 [78,69,87,67,79] num den (RQ.of 0 1)),rfl,mk _ _ _ _ _ (by simp) tk (.inr ⟨by decide,rfl⟩) (.inr ⟨.inr ⟨rfl,rfl⟩,q8.1,q8.2,q10.1,q10.2⟩)⟩,fun E v d hE hv=>?_⟩
    refine bf [] af ah rq E hE d (25,2,tb v k,tb v k12) [SV.ptr 1000 0,SV.c (.int .i64 day),SV.c (.int .i64 known)] _ rfl rfl fun w b hT=>?_
    have hv:=hv.of_old hE.symm hT
    exact .inr ⟨_,_,_,O1 _ v 1000 rfl hv,⟨rfl,trivial⟩,rfl,by decide,by decide,fV fG,by kernel_rfl,rfl,.inr ⟨_,_,_,O2 _ v 1000 11 (by decide) rfl hv,⟨rfl,rfl,trivial⟩,rfl,.inr ⟨_,_,_,O3 _ v 1000 rfl hv,⟨rfl,trivial⟩,rfl,.inr ⟨_,_,_,O4 _ v 1000 rfl hv,⟨rfl,trivial⟩,rfl,_,fun w' _=>aV _ _ w',.inr ⟨_,_,_,O5 _ v 1000 rfl hv,⟨rfl,trivial⟩,rfl,.inr ⟨_,_,_,O6 _ v 1000 rfl hv,⟨rfl,trivial⟩,rfl,_,dt 3 (min 73048 (i64.wrap (day+i4))) known key ins cur cash rfl,AC.fits (M 3 [] 0 0 cash),_,AC.g0 (M 3 [] 0 0 cash),fun _=>.inr ⟨_,_,_,O7 _ v 1000 rfl hv,⟨rfl,trivial⟩,rfl,by decide,by decide,aO [1,2,3,10,1000,i64.wrap (1+i7)],by kernel_rfl,rfl,.inr ⟨_,_,_,O8 _ v 1000 33 (by decide) rfl hv,⟨rfl,rfl,trivial⟩,rfl,.inr ⟨_,_,_,O9 _ v 1000 rfl hv,⟨rfl,trivial⟩,rfl,by decide,by decide,aO [1,1,2,3,7,1000000,i64.wrap (1+i9)],by kernel_rfl,rfl,.inr ⟨_,_,_,O10 _ v 1000 39 (by decide) rfl hv,⟨rfl,rfl,trivial⟩,rfl,by decide,rfl,_,AC.set5 (M 3 [] 0 0 cash) num,by decide,rfl,_,AC.set6 (M 3 [] num 0 cash) den,_,AC.g0 (M 3 [] num den cash),fun _=>⟨by decide,rfl,_,AC.set3 (M 3 [] num den cash) [78,69,87,67,79],_,AC.g0 (M 3 [78,69,87,67,79] num den cash),fun _=>.inr ⟨_,_,_,O11 _ v 1000 rfl hv,⟨rfl,trivial⟩,rfl,fun _=>.inl ⟨_,lj,by decide,RQ.A_fits _,_,AC.setcash (M 3 [78,69,87,67,79] num den cash) (RQ.of 0 1),.inr ⟨_,_,_,O12 _ v 1000 rfl hv,⟨rfl,trivial⟩,rfl,(nf rfl),fun _=>⟨AC.fits _,rfl,rfl,trivial⟩⟩⟩,(nf rfl)⟩,(nf rfl)⟩,(nf rfl)⟩⟩⟩⟩,(nf rfl)⟩⟩⟩⟩⟩⟩
   ·refine ⟨_,k12,by omega,by omega,⟨AC.nil key known,rfl,n0⟩,fun E v d hE hv=>?_⟩
    refine bf [] af ah rq E hE d (25,2,tb v k,tb v k12) [SV.ptr 1000 0,SV.c (.int .i64 day),SV.c (.int .i64 known)] _ rfl rfl fun w b hT=>?_
    have hv:=hv.of_old hE.symm hT
    exact .inr ⟨_,_,_,O1 _ v 1000 rfl hv,⟨rfl,trivial⟩,rfl,by decide,by decide,fV fG,by kernel_rfl,rfl,.inr ⟨_,_,_,O2 _ v 1000 11 (by decide) rfl hv,⟨rfl,rfl,trivial⟩,rfl,.inr ⟨_,_,_,O3 _ v 1000 rfl hv,⟨rfl,trivial⟩,rfl,.inr ⟨_,_,_,O4 _ v 1000 rfl hv,⟨rfl,trivial⟩,rfl,_,fun w' _=>aV _ _ w',.inr ⟨_,_,_,O5 _ v 1000 rfl hv,⟨rfl,trivial⟩,rfl,.inr ⟨_,_,_,O6 _ v 1000 rfl hv,⟨rfl,trivial⟩,rfl,_,dt 3 (min 73048 (i64.wrap (day+i4))) known key ins cur cash rfl,AC.fits (M 3 [] 0 0 cash),_,AC.g0 (M 3 [] 0 0 cash),fun _=>.inr ⟨_,_,_,O7 _ v 1000 rfl hv,⟨rfl,trivial⟩,rfl,by decide,by decide,aO [1,2,3,10,1000,i64.wrap (1+i7)],by kernel_rfl,rfl,.inr ⟨_,_,_,O8 _ v 1000 33 (by decide) rfl hv,⟨rfl,rfl,trivial⟩,rfl,.inr ⟨_,_,_,O9 _ v 1000 rfl hv,⟨rfl,trivial⟩,rfl,by decide,by decide,aO [1,1,2,3,7,1000000,i64.wrap (1+i9)],by kernel_rfl,rfl,.inr ⟨_,_,_,O10 _ v 1000 39 (by decide) rfl hv,⟨rfl,rfl,trivial⟩,rfl,by decide,rfl,_,AC.set5 (M 3 [] 0 0 cash) num,by decide,rfl,_,AC.set6 (M 3 [] num 0 cash) den,_,AC.g0 (M 3 [] num den cash),fun _=>⟨by decide,rfl,_,AC.set3 (M 3 [] num den cash) [78,69,87,67,79],_,AC.g0 (M 3 [78,69,87,67,79] num den cash),fun _=>.inr ⟨_,_,_,O11 _ v 1000 rfl hv,⟨rfl,trivial⟩,rfl,fun _=>.inl ⟨_,lj,by decide,RQ.A_fits _,_,AC.setcash (M 3 [78,69,87,67,79] num den cash) (RQ.of 0 1),.inr ⟨_,_,_,O12 _ v 1000 rfl hv,⟨rfl,trivial⟩,rfl,fun _=>⟨_,AC.g1 (M 3 [78,69,87,67,79] num den (RQ.of 0 1)),_,ft key known rfl,AC.fits _,rfl,rfl,trivial⟩,(nf rfl)⟩⟩,(nf rfl)⟩,(nf rfl)⟩,(nf rfl)⟩⟩⟩⟩,(nf rfl)⟩⟩⟩⟩⟩⟩
def OR (D:Int) (n:Nat) (k:Nat) (v:Value) (x:Value) (U:aA):Prop:=∃ (xs:List AC) (k':Nat) (b:Int),k<=k'/\k'<=k+1000/\IsL x n/\MkLA D n b xs/\b<=2+5*n/\U=[(1000,Blk.row 25 2 (tb v k')),(3000,Blk.own x 61 76 n (cat AC.A xs))]
theorem BF {E:Env} (hE:E.P=prog) {v:Value} {zs:List Int} (hv:Tp E v zs) {n k:Nat} (hn:n<=8) (hk:k+1000<=4000000000000000000) {day:Int} (hD:0<=day/\day<=73048):OwnC E 20 [SV.ptr 1000 0,SV.c (.int .i64 (n:Nat)),SV.c (.int .i64 day)] [(1000,Blk.row 25 2 (tb v k))] (OR day n k v):=by
 refine av [] af ah OF E hE [SV.ptr 1000 0,SV.c (.int .i64 (n:Nat)),SV.c (.int .i64 day)] [(1000,Blk.row 25 2 (tb v k))] _ rfl rfl fun w X β hT=>?_
 have hv':Tp (aN prog tt Tryz.f20.ntmps w X (ay [(1000,Blk.row 25 2 (tb v k))] β)).toEnv v zs:=hv.of_old hE.symm hT
 obtain ⟨r1,k1,a1,b1,⟨i1,rfl,c1⟩,O1⟩:=cA (n:=3) (by decide) zs k (by omega)
 refine .inr (.inl ⟨_,_,_,O1 _ v 1000 rfl hv',⟨rfl,trivial⟩,rfl,?_⟩)
 refine ⟨fun q f m=>∃ (i k2:Nat) (xs:List AC) (x:Value) (known:Int),q=n - i/\i<=n/\k<=k2/\k2<=k+1+100*i/\IsL x i/\MkLA day i known xs/\0<=known/\known<=2+5*i/\f=[(0,SV.ptr 1000 0),(1,SV.c (.int .i64 (n:Nat))),(2,SV.c (.int .i64 day)),(7,SV.c x),(8,SV.c (.int .i64 known)),(9,SV.c (.int .i64 (i:Nat)))]/\m=[(1000,Blk.row 25 2 (tb v k2)),(3000,Blk.own x 61 76 i (cat AC.A xs))],n,⟨_,_,⟨0,k1,[],.slice none 0 0,i1,by omega,by omega,by omega,by omega,.nil,.nil c1.1,c1.1,by omega,rfl,rfl⟩,⟨rfl,rfl,rfl,rfl,rfl,rfl,trivial⟩,⟨rfl,.inr ⟨rfl,rfl,rfl⟩,trivial⟩,rfl⟩,?_⟩
 rintro q f m ⟨i,k2,xs,x,known,rfl,hi,hk1,hk2,hx,hM,h0,hb,rfl,rfl⟩
 refine ⟨fun h=>?_,fun h=>?_⟩
 ·have h:i < n:=by have:=ab h;omega
  obtain ⟨r3,k3,a3,b3,⟨i3,rfl,c3⟩,O3⟩:=gI (xs:=[0,1,4]) (by decide) (by decide) zs k2 (by omega)
  have q3:0<=i3/\i3<=4:=by simp at c3;omega
  have e3:i64.wrap (known+i64.wrap (1+i3))=known+1+i3:=by rw [i64_in (x:=1+i3) (by omega),i64_in (by omega)];omega
  obtain ⟨r4,k4,a4,b4,⟨y,rfl,c4,c5⟩,O4⟩:=EM hD (i64.wrap (known+i64.wrap (1+i3))) zs k3 (by omega)
  rw [e3] at c5
  refine .inl ⟨by decide,by decide,aO [0,1,4],by kernel_rfl,rfl,.inr (.inl ⟨_,_,_,O3 _ v 1000 19 (by decide) rfl hv',⟨rfl,rfl,trivial⟩,rfl,?_⟩)⟩
  have F1:=nV y
  have F2:=y.fits.one
  have F3:=y.ext76
  have F4:y.A.size=1*76:=y.size
  have F5:cat AC.A xs++y.A=cat AC.A (xs++[y]):=qM xs y
  have F6:=y.fits
  generalize hY:y.A=YA at F1 F2 F3 F4 F5 F6 O4
  refine .inr (.inl ⟨_,_,_,O4 _ v 1000 rfl hv',⟨rfl,trivial⟩,rfl,.inl ⟨by decide,by decide,_,F1,F4,by decide,3000,i,_,.inl rfl,by decide,F2,F4,_,F3,?_⟩⟩)
  obtain ⟨q,hq,hb⟩:=qk
  refine ⟨by omega,by unfold maxLen;omega,⟨q,hq,by rw [hb];omega⟩,trivial,fun g2 cap2=>?_⟩
  refine ⟨n - (i+1),_,_,by omega,⟨i+1,k4,xs++[y],_,_,rfl,by omega,by omega,by omega,.some,?_,?_,?_,rfl,rfl⟩,⟨rfl,rfl,rfl,rfl,rfl,ag (aq (by omega)),trivial⟩,⟨rfl,.inl (aB F5),trivial⟩,rfl⟩
  ·rw [e3,<- c5];exact hM.snoc c4.1 c4.2.1 c4.2.2 (by omega) h0 (by omega) (by omega)
  ·rw [e3];omega
  ·rw [e3];omega
 ·have h:i=n:=by have:=ae h;omega
  subst h
  exact ⟨[(1000,Blk.row 25 2 (tb v k2)),(3000,Blk.own x 61 76 i (cat AC.A xs))],[],⟨xs,k2,known,by omega,by omega,hx,hM,hb,rfl⟩,⟨rfl,.inl rfl,trivial⟩,rfl⟩
theorem HU {D kind i s qty amt known:Int} {key ins cur:Bs} (hD:0<=D/\D<=73048) (hi:0<=i/\i < 8) (hs:0<=s/\s<=3) (ha : -100000<=amt/\amt<=100000) (hc:cur∈fP) (hk:(kind=1/\ins∈eQ/\qty≠0/\-2000<=qty/\qty<=2000)\/(kind=2/\ins=[]/\qty=0)):MkB D ⟨kind,key,min 73048 (i64.wrap (D+i)),min 73048 (i64.wrap (min 73048 (i64.wrap (D+i))+s)),ins,qty,amt,cur,known,false⟩:=by
 have e1:i64.wrap (D+i)=D+i:=i64_in (by omega)
 rw [e1]
 have e2:i64.wrap (min 73048 (D+i)+s)=min 73048 (D+i)+s:=i64_in (by omega)
 rw [e2]
 refine ⟨rfl,⟨?_,?_,?_⟩,⟨?_,?_,?_⟩,ha,hc,hk⟩
 ·show 0<=min 73048 (D+i);omega
 ·show D<=min 73048 (D+i)+1;omega
 ·show min 73048 (D+i)<=D+7;omega
 ·show min 73048 (D+i)<=min 73048 (min 73048 (D+i)+s);omega
 ·show min 73048 (min 73048 (D+i)+s)<=73048;omega
 ·show min 73048 (min 73048 (D+i)+s)<=D+10;omega
def RE (P:EC->Prop) (r:Value):Prop:=∃ x:EC,r=.agg x.A/\P x
theorem MkX.first {D:Int} {x:EC} (h:MkX D x) (hv:x.void=false) (hD:0<=D) (key:Bs):MkX D { x with key:=key,day:=max 0 (D - 1) }/\(x.kind=1->MkX D { x with key:=key,day:=max 0 (D - 1),qty:=2000 }):=by
 have hb:=h.live hv
 have h1:=hb.d
 have h2:=hb.s
 refine ⟨.inr ⟨hv,⟨by show (0:Int)<=max 0 (D - 1);omega,by show D<=max 0 (D - 1)+1;omega,by show max 0 (D - 1)<=D+7;omega⟩,⟨by show max 0 (D - 1)<=x.settle;omega,h2.2⟩,hb.a,hb.c,hb.k⟩,fun hk=>.inr ⟨hv,⟨by show (0:Int)<=max 0 (D - 1);omega,by show D<=max 0 (D - 1)+1;omega,by show max 0 (D - 1)<=D+7;omega⟩,⟨by show max 0 (D - 1)<=x.settle;omega,h2.2⟩,hb.a,hb.c,?_⟩⟩
 rcases hb.k with ⟨k1,k2,-⟩ | ⟨k1,-⟩
 ·exact .inl ⟨k1,k2,by show (2000:Int)≠0;decide,by show (-2000:Int)<=2000;decide,by show (2000:Int)<=2000;decide⟩
 ·omega
theorem fv (day known qty amt:Int) (key ins cur:Bs) {pl:List (Nat×Nat)} (hpl:pl=[(0,1),(1,1),(2,1),(3,1),(4,1),(5,1),(6,1),(7,1),(8,1),(9,1)]):Instr.fill (fun k=>pl[k]?) fe.zero [(0,.int .i64 1),(1,.string (S key)),(2,.int .i64 day),(4,.string (S ins)),(5,.int .i64 qty),(6,.int .i64 amt),(7,.string (S cur)),(8,.int .i64 known)]=some (EC.A ⟨1,key,day,0,ins,qty,amt,cur,known,false⟩):=by
 subst hpl;kernel_rfl
theorem EC.s0 (a:EC) (n:Int):a.A.setIfInBounds (0+0) (.int .i64 n)=({ a with kind:=n }:EC).A:=rfl
theorem EC.s1 (a:EC) (l:Bs):a.A.setIfInBounds (0+1) (.string (S l))=({ a with key:=l }:EC).A:=rfl
theorem EC.s2 (a:EC) (n:Int):a.A.setIfInBounds (0+2) (.int .i64 n)=({ a with day:=n }:EC).A:=rfl
theorem EC.s3 (a:EC) (n:Int):a.A.setIfInBounds (0+3) (.int .i64 n)=({ a with settle:=n }:EC).A:=rfl
theorem EC.s4 (a:EC) (l:Bs):a.A.setIfInBounds (0+4) (.string (S l))=({ a with ins:=l }:EC).A:=rfl
theorem EC.s5 (a:EC) (n:Int):a.A.setIfInBounds (0+5) (.int .i64 n)=({ a with qty:=n }:EC).A:=rfl
theorem Gf {day:Int} (hD:0<=day/\day<=73048) (known:Int):Gen 21 [SV.c (.int .i64 day),SV.c (.int .i64 known)] 20 (RE fun x=>(MkX day x/\x.key∈js)/\x.known=known):=by
 intro zs k hk
 obtain ⟨r1,k1,a1,b1,⟨key,rfl,c1⟩,O1⟩:=uY (xs:=[[101,49],[101,50],[101,51],[101,52],[101,53],[101,54]]) (by decide) (by decide) zs k (by omega)
 obtain ⟨r2,k2,a2,b2,⟨i2,rfl,c2⟩,O2⟩:=cA (n:=8) (by decide) zs k1 (by omega)
 obtain ⟨r3,k3,a3,b3,⟨ins,rfl,c3⟩,O3⟩:=yn zs k2 (by omega)
 obtain ⟨r4,k4,a4,b4,⟨i4,rfl,c4⟩,O4⟩:=cA (n:=1000) (by decide) zs k3 (by omega)
 obtain ⟨r5,k5,a5,b5,⟨amt,rfl,c5⟩,O5⟩:=yH (lo:=-100000) (hi:=100000) (by decide) (by decide) (by decide) zs k4 (by omega)
 obtain ⟨r6,k6,a6,b6,⟨cur,rfl,c6⟩,O6⟩:=En zs k5 (by omega)
 obtain ⟨r7,k7,a7,b7,⟨i7,rfl,c7⟩,O7⟩:=gI (xs:=[0,0,1,2,3]) (by decide) (by decide) zs k6 (by omega)
 obtain ⟨r8,k8,a8,b8,⟨flow,rfl⟩,O8⟩:=d8 (a:=1) (b:=4) (by decide) zs k7 (by omega)
 have ck:key∈js:=by
  simp only [List.mem_cons,List.not_mem_nil,or_false] at c1
  rcases c1 with rfl | rfl | rfl | rfl | rfl | rfl<;>decide
 have q7:0<=i7/\i7<=3:=by simp at c7;omega
 have q4:i64.wrap (1+i4)=1+i4:=i64_in (by omega)
 have n0:(MkX day (EC.nil key known)/\key∈js)/\known=known:=⟨⟨.inl rfl,ck⟩,rfl⟩
 have mk:∀ (kind:Int) (ins:Bs) (qty:Int),((kind=1/\ins∈eQ/\qty≠0/\-2000<=qty/\qty<=2000)\/(kind=2/\ins=[]/\qty=0))->(MkX day ⟨kind,key,min 73048 (i64.wrap (day+i2)),min 73048 (i64.wrap (min 73048 (i64.wrap (day+i2))+i7)),ins,qty,amt,cur,known,false⟩/\key∈js)/\known=known:=fun kind ins qty h=>⟨⟨.inr (HU hD ⟨c2.1,by omega⟩ q7 c5 c6 h),ck⟩,rfl⟩
 cases flow
 ·obtain ⟨r9,k9,a9,b9,⟨sale,rfl⟩,O9⟩:=d8 (a:=1) (b:=3) (by decide) zs k8 (by omega)
  cases sale
  ·obtain ⟨r10,k10,a10,b10,⟨void,rfl⟩,O10⟩:=d8 (a:=1) (b:=9) (by decide) zs k9 (by omega)
   cases void
   ·refine ⟨_,k10,by omega,by omega,⟨⟨1,key,min 73048 (i64.wrap (day+i2)),min 73048 (i64.wrap (min 73048 (i64.wrap (day+i2))+i7)),ins,i64.wrap (1+i4),amt,cur,known,false⟩,rfl,mk 1 ins _ (.inl ⟨rfl,c3,by rw [q4];omega,by rw [q4];omega,by rw [q4];omega⟩)⟩,fun E v d hE hv=>?_⟩
    refine bf [] af ah BD E hE d (25,2,tb v k,tb v k10) [SV.ptr 1000 0,SV.c (.int .i64 day),SV.c (.int .i64 known)] _ rfl rfl fun w b hT=>?_
    have hv:=hv.of_old hE.symm hT
    exact ⟨by decide,by decide,fV [[101,49],[101,50],[101,51],[101,52],[101,53],[101,54]],by kernel_rfl,rfl,.inr ⟨_,_,_,O1 _ v 1000 9 (by decide) rfl hv,⟨rfl,rfl,trivial⟩,rfl,.inr ⟨_,_,_,O2 _ v 1000 rfl hv,⟨rfl,trivial⟩,rfl,_,fun w' _=>aV _ _ w',.inr ⟨_,_,_,O3 _ v 1000 rfl hv,⟨rfl,trivial⟩,rfl,.inr ⟨_,_,_,O4 _ v 1000 rfl hv,⟨rfl,trivial⟩,rfl,.inr ⟨_,_,_,O5 _ v 1000 rfl hv,⟨rfl,trivial⟩,rfl,.inr ⟨_,_,_,O6 _ v 1000 rfl hv,⟨rfl,trivial⟩,rfl,_,fv (min 73048 (i64.wrap (day+i2))) known (i64.wrap (1+i4)) amt key ins cur rfl,EC.fits ⟨1,key,min 73048 (i64.wrap (day+i2)),0,ins,i64.wrap (1+i4),amt,cur,known,false⟩,_,EC.g2 ⟨1,key,min 73048 (i64.wrap (day+i2)),0,ins,i64.wrap (1+i4),amt,cur,known,false⟩,by decide,by decide,aO [0,0,1,2,3],by kernel_rfl,rfl,.inr ⟨_,_,_,O7 _ v 1000 30 (by decide) rfl hv,⟨rfl,rfl,trivial⟩,rfl,_,fun w' _=>aV _ _ w',by decide,rfl,_,EC.s3 ⟨1,key,min 73048 (i64.wrap (day+i2)),0,ins,i64.wrap (1+i4),amt,cur,known,false⟩ _,by kernel_rfl,.inr ⟨_,_,_,O8 _ v 1000 rfl hv,⟨rfl,trivial⟩,rfl,(nf rfl),fun _=>⟨_,EC.g0 ⟨1,key,min 73048 (i64.wrap (day+i2)),min 73048 (i64.wrap (min 73048 (i64.wrap (day+i2))+i7)),ins,i64.wrap (1+i4),amt,cur,known,false⟩,fun _=>.inr ⟨_,_,_,O9 _ v 1000 rfl hv,⟨rfl,trivial⟩,rfl,(nf rfl),fun _=>.inr ⟨_,_,_,O10 _ v 1000 rfl hv,⟨rfl,trivial⟩,rfl,(nf rfl),fun _=>⟨EC.fits _,rfl,rfl,trivial⟩⟩⟩,(nf rfl)⟩⟩⟩⟩⟩⟩⟩⟩⟩⟩
   ·refine ⟨_,k10,by omega,by omega,⟨EC.nil key known,rfl,n0⟩,fun E v d hE hv=>?_⟩
    refine bf [] af ah BD E hE d (25,2,tb v k,tb v k10) [SV.ptr 1000 0,SV.c (.int .i64 day),SV.c (.int .i64 known)] _ rfl rfl fun w b hT=>?_
    have hv:=hv.of_old hE.symm hT
    exact ⟨by decide,by decide,fV [[101,49],[101,50],[101,51],[101,52],[101,53],[101,54]],by kernel_rfl,rfl,.inr ⟨_,_,_,O1 _ v 1000 9 (by decide) rfl hv,⟨rfl,rfl,trivial⟩,rfl,.inr ⟨_,_,_,O2 _ v 1000 rfl hv,⟨rfl,trivial⟩,rfl,_,fun w' _=>aV _ _ w',.inr ⟨_,_,_,O3 _ v 1000 rfl hv,⟨rfl,trivial⟩,rfl,.inr ⟨_,_,_,O4 _ v 1000 rfl hv,⟨rfl,trivial⟩,rfl,.inr ⟨_,_,_,O5 _ v 1000 rfl hv,⟨rfl,trivial⟩,rfl,.inr ⟨_,_,_,O6 _ v 1000 rfl hv,⟨rfl,trivial⟩,rfl,_,fv (min 73048 (i64.wrap (day+i2))) known (i64.wrap (1+i4)) amt key ins cur rfl,EC.fits ⟨1,key,min 73048 (i64.wrap (day+i2)),0,ins,i64.wrap (1+i4),amt,cur,known,false⟩,_,EC.g2 ⟨1,key,min 73048 (i64.wrap (day+i2)),0,ins,i64.wrap (1+i4),amt,cur,known,false⟩,by decide,by decide,aO [0,0,1,2,3],by kernel_rfl,rfl,.inr ⟨_,_,_,O7 _ v 1000 30 (by decide) rfl hv,⟨rfl,rfl,trivial⟩,rfl,_,fun w' _=>aV _ _ w',by decide,rfl,_,EC.s3 ⟨1,key,min 73048 (i64.wrap (day+i2)),0,ins,i64.wrap (1+i4),amt,cur,known,false⟩ _,by kernel_rfl,.inr ⟨_,_,_,O8 _ v 1000 rfl hv,⟨rfl,trivial⟩,rfl,(nf rfl),fun _=>⟨_,EC.g0 ⟨1,key,min 73048 (i64.wrap (day+i2)),min 73048 (i64.wrap (min 73048 (i64.wrap (day+i2))+i7)),ins,i64.wrap (1+i4),amt,cur,known,false⟩,fun _=>.inr ⟨_,_,_,O9 _ v 1000 rfl hv,⟨rfl,trivial⟩,rfl,(nf rfl),fun _=>.inr ⟨_,_,_,O10 _ v 1000 rfl hv,⟨rfl,trivial⟩,rfl,fun _=>⟨_,EC.g1 ⟨1,key,min 73048 (i64.wrap (day+i2)),min 73048 (i64.wrap (min 73048 (i64.wrap (day+i2))+i7)),ins,i64.wrap (1+i4),amt,cur,known,false⟩,_,gP key known rfl,EC.fits _,rfl,rfl,trivial⟩,(nf rfl)⟩⟩,(nf rfl)⟩⟩⟩⟩⟩⟩⟩⟩⟩⟩
  ·obtain ⟨r10,k10,a10,b10,⟨i10,rfl,c10⟩,O10⟩:=cA (n:=60) (by decide) zs k9 (by omega)
   have q10:i64.wrap (0 - i64.wrap (1+i10))=-(1+i10):=by rw [i64_in (x:=1+i10) (by omega),i64_in (by omega)];omega
   obtain ⟨r11,k11,a11,b11,⟨void,rfl⟩,O11⟩:=d8 (a:=1) (b:=9) (by decide) zs k10 (by omega)
   cases void
   ·refine ⟨_,k11,by omega,by omega,⟨⟨1,key,min 73048 (i64.wrap (day+i2)),min 73048 (i64.wrap (min 73048 (i64.wrap (day+i2))+i7)),ins,i64.wrap (0 - i64.wrap (1+i10)),amt,cur,known,false⟩,rfl,mk 1 ins _ (.inl ⟨rfl,c3,by rw [q10];omega,by rw [q10];omega,by rw [q10];omega⟩)⟩,fun E v d hE hv=>?_⟩
    refine bf [] af ah BD E hE d (25,2,tb v k,tb v k11) [SV.ptr 1000 0,SV.c (.int .i64 day),SV.c (.int .i64 known)] _ rfl rfl fun w b hT=>?_
    have hv:=hv.of_old hE.symm hT
    exact ⟨by decide,by decide,fV [[101,49],[101,50],[101,51],[101,52],[101,53],[101,54]],by kernel_rfl,rfl,.inr ⟨_,_,_,O1 _ v 1000 9 (by decide) rfl hv,⟨rfl,rfl,trivial⟩,rfl,.inr ⟨_,_,_,O2 _ v 1000 rfl hv,⟨rfl,trivial⟩,rfl,_,fun w' _=>aV _ _ w',.inr ⟨_,_,_,O3 _ v 1000 rfl hv,⟨rfl,trivial⟩,rfl,.inr ⟨_,_,_,O4 _ v 1000 rfl hv,⟨rfl,trivial⟩,rfl,.inr ⟨_,_,_,O5 _ v 1000 rfl hv,⟨rfl,trivial⟩,rfl,.inr ⟨_,_,_,O6 _ v 1000 rfl hv,⟨rfl,trivial⟩,rfl,_,fv (min 73048 (i64.wrap (day+i2))) known (i64.wrap (1+i4)) amt key ins cur rfl,EC.fits ⟨1,key,min 73048 (i64.wrap (day+i2)),0,ins,i64.wrap (1+i4),amt,cur,known,false⟩,_,EC.g2 ⟨1,key,min 73048 (i64.wrap (day+i2)),0,ins,i64.wrap (1+i4),amt,cur,known,false⟩,by decide,by decide,aO [0,0,1,2,3],by kernel_rfl,rfl,.inr ⟨_,_,_,O7 _ v 1000 30 (by decide) rfl hv,⟨rfl,rfl,trivial⟩,rfl,_,fun w' _=>aV _ _ w',by decide,rfl,_,EC.s3 ⟨1,key,min 73048 (i64.wrap (day+i2)),0,ins,i64.wrap (1+i4),amt,cur,known,false⟩ _,by kernel_rfl,.inr ⟨_,_,_,O8 _ v 1000 rfl hv,⟨rfl,trivial⟩,rfl,(nf rfl),fun _=>⟨_,EC.g0 ⟨1,key,min 73048 (i64.wrap (day+i2)),min 73048 (i64.wrap (min 73048 (i64.wrap (day+i2))+i7)),ins,i64.wrap (1+i4),amt,cur,known,false⟩,fun _=>.inr ⟨_,_,_,O9 _ v 1000 rfl hv,⟨rfl,trivial⟩,rfl,fun _=>.inr ⟨_,_,_,O10 _ v 1000 rfl hv,⟨rfl,trivial⟩,rfl,by decide,rfl,_,EC.s5 ⟨1,key,min 73048 (i64.wrap (day+i2)),min 73048 (i64.wrap (min 73048 (i64.wrap (day+i2))+i7)),ins,i64.wrap (1+i4),amt,cur,known,false⟩ _,.inr ⟨_,_,_,O11 _ v 1000 rfl hv,⟨rfl,trivial⟩,rfl,(nf rfl),fun _=>⟨EC.fits _,rfl,rfl,trivial⟩⟩⟩,(nf rfl)⟩,(nf rfl)⟩⟩⟩⟩⟩⟩⟩⟩⟩⟩
   ·refine ⟨_,k11,by omega,by omega,⟨EC.nil key known,rfl,n0⟩,fun E v d hE hv=>?_⟩
    refine bf [] af ah BD E hE d (25,2,tb v k,tb v k11) [SV.ptr 1000 0,SV.c (.int .i64 day),SV.c (.int .i64 known)] _ rfl rfl fun w b hT=>?_
    have hv:=hv.of_old hE.symm hT
    exact ⟨by decide,by decide,fV [[101,49],[101,50],[101,51],[101,52],[101,53],[101,54]],by kernel_rfl,rfl,.inr ⟨_,_,_,O1 _ v 1000 9 (by decide) rfl hv,⟨rfl,rfl,trivial⟩,rfl,.inr ⟨_,_,_,O2 _ v 1000 rfl hv,⟨rfl,trivial⟩,rfl,_,fun w' _=>aV _ _ w',.inr ⟨_,_,_,O3 _ v 1000 rfl hv,⟨rfl,trivial⟩,rfl,.inr ⟨_,_,_,O4 _ v 1000 rfl hv,⟨rfl,trivial⟩,rfl,.inr ⟨_,_,_,O5 _ v 1000 rfl hv,⟨rfl,trivial⟩,rfl,.inr ⟨_,_,_,O6 _ v 1000 rfl hv,⟨rfl,trivial⟩,rfl,_,fv (min 73048 (i64.wrap (day+i2))) known (i64.wrap (1+i4)) amt key ins cur rfl,EC.fits ⟨1,key,min 73048 (i64.wrap (day+i2)),0,ins,i64.wrap (1+i4),amt,cur,known,false⟩,_,EC.g2 ⟨1,key,min 73048 (i64.wrap (day+i2)),0,ins,i64.wrap (1+i4),amt,cur,known,false⟩,by decide,by decide,aO [0,0,1,2,3],by kernel_rfl,rfl,.inr ⟨_,_,_,O7 _ v 1000 30 (by decide) rfl hv,⟨rfl,rfl,trivial⟩,rfl,_,fun w' _=>aV _ _ w',by decide,rfl,_,EC.s3 ⟨1,key,min 73048 (i64.wrap (day+i2)),0,ins,i64.wrap (1+i4),amt,cur,known,false⟩ _,by kernel_rfl,.inr ⟨_,_,_,O8 _ v 1000 rfl hv,⟨rfl,trivial⟩,rfl,(nf rfl),fun _=>⟨_,EC.g0 ⟨1,key,min 73048 (i64.wrap (day+i2)),min 73048 (i64.wrap (min 73048 (i64.wrap (day+i2))+i7)),ins,i64.wrap (1+i4),amt,cur,known,false⟩,fun _=>.inr ⟨_,_,_,O9 _ v 1000 rfl hv,⟨rfl,trivial⟩,rfl,fun _=>.inr ⟨_,_,_,O10 _ v 1000 rfl hv,⟨rfl,trivial⟩,rfl,by decide,rfl,_,EC.s5 ⟨1,key,min 73048 (i64.wrap (day+i2)),min 73048 (i64.wrap (min 73048 (i64.wrap (day+i2))+i7)),ins,i64.wrap (1+i4),amt,cur,known,false⟩ _,.inr ⟨_,_,_,O11 _ v 1000 rfl hv,⟨rfl,trivial⟩,rfl,fun _=>⟨_,EC.g1 ⟨1,key,min 73048 (i64.wrap (day+i2)),min 73048 (i64.wrap (min 73048 (i64.wrap (day+i2))+i7)),ins,i64.wrap (0 - i64.wrap (1+i10)),amt,cur,known,false⟩,_,gP key known rfl,EC.fits _,rfl,rfl,trivial⟩,(nf rfl)⟩⟩,(nf rfl)⟩,(nf rfl)⟩⟩⟩⟩⟩⟩⟩⟩⟩⟩
 ·obtain ⟨r9,k9,a9,b9,⟨void,rfl⟩,O9⟩:=d8 (a:=1) (b:=9) (by decide) zs k8 (by omega)
  cases void
  ·refine ⟨_,k9,by omega,by omega,⟨⟨2,key,min 73048 (i64.wrap (day+i2)),min 73048 (i64.wrap (min 73048 (i64.wrap (day+i2))+i7)),[],0,amt,cur,known,false⟩,rfl,mk 2 [] 0 (.inr ⟨rfl,rfl,rfl⟩)⟩,fun E v d hE hv=>?_⟩
   refine bf [] af ah BD E hE d (25,2,tb v k,tb v k9) [SV.ptr 1000 0,SV.c (.int .i64 day),SV.c (.int .i64 known)] _ rfl rfl fun w b hT=>?_
   have hv:=hv.of_old hE.symm hT
   exact ⟨by decide,by decide,fV [[101,49],[101,50],[101,51],[101,52],[101,53],[101,54]],by kernel_rfl,rfl,.inr ⟨_,_,_,O1 _ v 1000 9 (by decide) rfl hv,⟨rfl,rfl,trivial⟩,rfl,.inr ⟨_,_,_,O2 _ v 1000 rfl hv,⟨rfl,trivial⟩,rfl,_,fun w' _=>aV _ _ w',.inr ⟨_,_,_,O3 _ v 1000 rfl hv,⟨rfl,trivial⟩,rfl,.inr ⟨_,_,_,O4 _ v 1000 rfl hv,⟨rfl,trivial⟩,rfl,.inr ⟨_,_,_,O5 _ v 1000 rfl hv,⟨rfl,trivial⟩,rfl,.inr ⟨_,_,_,O6 _ v 1000 rfl hv,⟨rfl,trivial⟩,rfl,_,fv (min 73048 (i64.wrap (day+i2))) known (i64.wrap (1+i4)) amt key ins cur rfl,EC.fits ⟨1,key,min 73048 (i64.wrap (day+i2)),0,ins,i64.wrap (1+i4),amt,cur,known,false⟩,_,EC.g2 ⟨1,key,min 73048 (i64.wrap (day+i2)),0,ins,i64.wrap (1+i4),amt,cur,known,false⟩,by decide,by decide,aO [0,0,1,2,3],by kernel_rfl,rfl,.inr ⟨_,_,_,O7 _ v 1000 30 (by decide) rfl hv,⟨rfl,rfl,trivial⟩,rfl,_,fun w' _=>aV _ _ w',by decide,rfl,_,EC.s3 ⟨1,key,min 73048 (i64.wrap (day+i2)),0,ins,i64.wrap (1+i4),amt,cur,known,false⟩ _,by kernel_rfl,.inr ⟨_,_,_,O8 _ v 1000 rfl hv,⟨rfl,trivial⟩,rfl,fun _=>⟨by decide,rfl,_,EC.s0 ⟨1,key,min 73048 (i64.wrap (day+i2)),min 73048 (i64.wrap (min 73048 (i64.wrap (day+i2))+i7)),ins,i64.wrap (1+i4),amt,cur,known,false⟩ 2,by decide,rfl,_,EC.s4 ⟨2,key,min 73048 (i64.wrap (day+i2)),min 73048 (i64.wrap (min 73048 (i64.wrap (day+i2))+i7)),ins,i64.wrap (1+i4),amt,cur,known,false⟩ [],by decide,rfl,_,EC.s5 ⟨2,key,min 73048 (i64.wrap (day+i2)),min 73048 (i64.wrap (min 73048 (i64.wrap (day+i2))+i7)),[],i64.wrap (1+i4),amt,cur,known,false⟩ 0,_,EC.g0 ⟨2,key,min 73048 (i64.wrap (day+i2)),min 73048 (i64.wrap (min 73048 (i64.wrap (day+i2))+i7)),[],0,amt,cur,known,false⟩,(nf rfl),fun _=>⟨(nf rfl),fun _=>.inr ⟨_,_,_,O9 _ v 1000 rfl hv,⟨rfl,trivial⟩,rfl,(nf rfl),fun _=>⟨EC.fits _,rfl,rfl,trivial⟩⟩⟩⟩,(nf rfl)⟩⟩⟩⟩⟩⟩⟩⟩⟩
  ·refine ⟨_,k9,by omega,by omega,⟨EC.nil key known,rfl,n0⟩,fun E v d hE hv=>?_⟩
   refine bf [] af ah BD E hE d (25,2,tb v k,tb v k9) [SV.ptr 1000 0,SV.c (.int .i64 day),SV.c (.int .i64 known)] _ rfl rfl fun w b hT=>?_
   have hv:=hv.of_old hE.symm hT
   exact ⟨by decide,by decide,fV [[101,49],[101,50],[101,51],[101,52],[101,53],[101,54]],by kernel_rfl,rfl,.inr ⟨_,_,_,O1 _ v 1000 9 (by decide) rfl hv,⟨rfl,rfl,trivial⟩,rfl,.inr ⟨_,_,_,O2 _ v 1000 rfl hv,⟨rfl,trivial⟩,rfl,_,fun w' _=>aV _ _ w',.inr ⟨_,_,_,O3 _ v 1000 rfl hv,⟨rfl,trivial⟩,rfl,.inr ⟨_,_,_,O4 _ v 1000 rfl hv,⟨rfl,trivial⟩,rfl,.inr ⟨_,_,_,O5 _ v 1000 rfl hv,⟨rfl,trivial⟩,rfl,.inr ⟨_,_,_,O6 _ v 1000 rfl hv,⟨rfl,trivial⟩,rfl,_,fv (min 73048 (i64.wrap (day+i2))) known (i64.wrap (1+i4)) amt key ins cur rfl,EC.fits ⟨1,key,min 73048 (i64.wrap (day+i2)),0,ins,i64.wrap (1+i4),amt,cur,known,false⟩,_,EC.g2 ⟨1,key,min 73048 (i64.wrap (day+i2)),0,ins,i64.wrap (1+i4),amt,cur,known,false⟩,by decide,by decide,aO [0,0,1,2,3],by kernel_rfl,rfl,.inr ⟨_,_,_,O7 _ v 1000 30 (by decide) rfl hv,⟨rfl,rfl,trivial⟩,rfl,_,fun w' _=>aV _ _ w',by decide,rfl,_,EC.s3 ⟨1,key,min 73048 (i64.wrap (day+i2)),0,ins,i64.wrap (1+i4),amt,cur,known,false⟩ _,by kernel_rfl,.inr ⟨_,_,_,O8 _ v 1000 rfl hv,⟨rfl,trivial⟩,rfl,fun _=>⟨by decide,rfl,_,EC.s0 ⟨1,key,min 73048 (i64.wrap (day+i2)),min 73048 (i64.wrap (min 73048 (i64.wrap (day+i2))+i7)),ins,i64.wrap (1+i4),amt,cur,known,false⟩ 2,by decide,rfl,_,EC.s4 ⟨2,key,min 73048 (i64.wrap (day+i2)),min 73048 (i64.wrap (min 73048 (i64.wrap (day+i2))+i7)),ins,i64.wrap (1+i4),amt,cur,known,false⟩ [],by decide,rfl,_,EC.s5 ⟨2,key,min 73048 (i64.wrap (day+i2)),min 73048 (i64.wrap (min 73048 (i64.wrap (day+i2))+i7)),[],i64.wrap (1+i4),amt,cur,known,false⟩ 0,_,EC.g0 ⟨2,key,min 73048 (i64.wrap (day+i2)),min 73048 (i64.wrap (min 73048 (i64.wrap (day+i2))+i7)),[],0,amt,cur,known,false⟩,(nf rfl),fun _=>⟨(nf rfl),fun _=>.inr ⟨_,_,_,O9 _ v 1000 rfl hv,⟨rfl,trivial⟩,rfl,fun _=>⟨_,EC.g1 ⟨2,key,min 73048 (i64.wrap (day+i2)),min 73048 (i64.wrap (min 73048 (i64.wrap (day+i2))+i7)),[],0,amt,cur,known,false⟩,_,gP key known rfl,EC.fits _,rfl,rfl,trivial⟩,(nf rfl)⟩⟩⟩,(nf rfl)⟩⟩⟩⟩⟩⟩⟩⟩⟩
def OM (D:Int) (n:Nat) (k:Nat) (v:Value) (x:Value) (U:aA):Prop:=∃ (xs:List EC) (k':Nat) (b:Int),k<=k'/\k'<=k+4000/\IsL x n/\MkL D n b xs/\b<=2+5*n/\U=[(1000,Blk.row 25 2 (tb v k')),(3001,Blk.own x 31 10 n (cat EC.A xs))]
theorem CB {P:Program} {ats:Array TypeId} {ty:TypeId} {cs:Array Bool} (x y:Int) (w:World):(builtin .max ats ty cs #[.int .i64 x,.int .i64 y]).run P w=.ok (.value (.int .i64 (max x y))) w:=by
 simp [builtin,Go.Lib.run_max_ints]
theorem Bb {E:Env} (hE:E.P=prog) {v:Value} {zs:List Int} (hv:Tp E v zs) {n k:Nat} (hn:n<=30) (hk:k+4000<=4000000000000000000) {day:Int} (hD:0<=day/\day<=73048):OwnC E 11 [SV.ptr 1000 0,SV.c (.int .i64 (n:Nat)),SV.c (.int .i64 day)] [(1000,Blk.row 25 2 (tb v k))] (OM day n k v):=by
 refine av [13] af ah OJ E hE [SV.ptr 1000 0,SV.c (.int .i64 (n:Nat)),SV.c (.int .i64 day)] [(1000,Blk.row 25 2 (tb v k))] _ rfl rfl fun w X β hT=>?_
 have hv':Tp (aN prog tt Tryz.f11.ntmps w X (ay [(1000,Blk.row 25 2 (tb v k))] β)).toEnv v zs:=hv.of_old hE.symm hT
 obtain ⟨r1,k1,a1,b1,⟨i1,rfl,c1⟩,O1⟩:=cA (n:=3) (by decide) zs k (by omega)
 refine .inr (.inl ⟨_,_,_,O1 _ v 1000 rfl hv',⟨rfl,trivial⟩,rfl,?_⟩)
 refine ⟨fun q f m=>∃ (i k2:Nat) (xs:List EC) (x:Value) (known:Int),q=n - i/\i<=n/\k<=k2/\k2<=k+1+100*i/\IsL x i/\MkL day i known xs/\0<=known/\known<=2+5*i/\f=[(0,SV.ptr 1000 0),(1,SV.c (.int .i64 (n:Nat))),(2,SV.c (.int .i64 day)),(7,SV.c x),(8,SV.c (.int .i64 known)),(9,SV.c (.int .i64 (i:Nat)))]/\m=[(1000,Blk.row 25 2 (tb v k2)),(3001,Blk.own x 31 10 i (cat EC.A xs))],n,⟨_,_,⟨0,k1,[],.slice none 0 0,i1,by omega,by omega,by omega,by omega,.nil,.nil c1.1,c1.1,by omega,rfl,rfl⟩,⟨rfl,rfl,rfl,rfl,rfl,rfl,trivial⟩,⟨rfl,.inr ⟨rfl,rfl,rfl⟩,trivial⟩,rfl⟩,?_⟩
 rintro q f m ⟨i,k2,xs,x,known,rfl,hi,hk1,hk2,hx,hM,h0,hb,rfl,rfl⟩
 refine ⟨fun h=>?_,fun h=>?_⟩
 ·have h:i < n:=by have:=ab h;omega
  obtain ⟨r3,k3,a3,b3,⟨i3,rfl,c3⟩,O3⟩:=gI (xs:=[0,1,4]) (by decide) (by decide) zs k2 (by omega)
  have q3:0<=i3/\i3<=4:=by simp at c3;omega
  have e3:i64.wrap (known+i64.wrap (1+i3))=known+1+i3:=by rw [i64_in (x:=1+i3) (by omega),i64_in (by omega)];omega
  obtain ⟨r4,k4,a4,b4,⟨y,rfl,c4,c5⟩,O4⟩:=Gf hD (i64.wrap (known+i64.wrap (1+i3))) zs k3 (by omega)
  have ed:i64.wrap (day - 1)=day - 1:=i64_in (by omega)
  refine .inl ⟨by decide,by decide,aO [0,1,4],by kernel_rfl,rfl,.inr (.inl ⟨_,_,_,O3 _ v 1000 20 (by decide) rfl hv',⟨rfl,rfl,trivial⟩,rfl,?_⟩)⟩
  refine .inr (.inl ⟨_,_,_,O4 _ v 1000 rfl hv',⟨rfl,trivial⟩,rfl,y.fits,?_⟩)
  refine ⟨fun f m=>∃ (z:EC) (k5:Nat),k4<=k5/\k5<=k4+1/\(MkX day z/\z.key∈js)/\z.known=i64.wrap (known+i64.wrap (1+i3))/\f=[(0,SV.ptr 1000 0),(1,SV.c (.int .i64 (n:Nat))),(2,SV.c (.int .i64 day)),(7,SV.c x),(8,SV.c (.int .i64 (i64.wrap (known+i64.wrap (1+i3))))),(9,SV.c (.int .i64 (i:Nat))),(10,SV.ptr 10 0)]/\m=[(1000,Blk.row 25 2 (tb v k5)),(3001,Blk.own x 31 10 i (cat EC.A xs)),(10,Blk.row 31 10 z.A)],?_,?_⟩
  ·refine ⟨fun h3=>⟨_,EC.g9 y,fun hy=>?_,fun hy=>?_⟩,fun h3=>⟨nf rfl,fun _=>?_⟩⟩
   ·have hy:y.void=false:=by simpa using hy
    have hf:=c4.1.first hy hD.1
    obtain ⟨r5,k5,a5,b5,⟨key,rfl,c6⟩,O5⟩:=uY (xs:=[[112,49],[112,50],[112,51]]) (by decide) (by decide) zs k4 (by omega)
    have hk5:key∈js:=by
     simp only [List.mem_cons,List.not_mem_nil,or_false] at c6
     rcases c6 with rfl | rfl | rfl<;>decide
    refine .inl ⟨by decide,by decide,fV [[112,49],[112,50],[112,51]],by kernel_rfl,rfl,.inr (.inl ⟨_,_,_,O5 _ v 1000 36 (by decide) rfl hv',⟨rfl,rfl,trivial⟩,rfl,by decide,rfl,_,EC.s1 y key,?_⟩)⟩
    refine ⟨_,fun w' _=>CB _ _ w',by decide,rfl,_,EC.s2 ({ y with key:=key }:EC) _,?_⟩
    rw [ed]
    have fin:∀ z:EC,(MkX day z/\z.key∈js)->z.known=i64.wrap (known+i64.wrap (1+i3))->k4<=k5/\k5<=k4+1/\(MkX day z/\z.key∈js)/\z.known=i64.wrap (known+i64.wrap (1+i3)):=fun z h1 h2=>⟨by omega,by omega,h1,h2⟩
    refine ⟨_,EC.g0 ({ y with key:=key,day:=max 0 (day - 1) }:EC),fun hk=>⟨_,EC.g5 ({ y with key:=key,day:=max 0 (day - 1) }:EC),fun _=>⟨by decide,rfl,_,EC.s5 ({ y with key:=key,day:=max 0 (day - 1) }:EC) 2000,?_⟩,fun _=>?_⟩,fun _=>⟨nf rfl,fun _=>?_⟩⟩
    ·obtain ⟨d1,d2,d3,d4⟩:=fin { y with key:=key,day:=max 0 (day - 1),qty:=2000 } ⟨(hf key).2 (eq_of_beq hk),hk5⟩ c5
     exact ⟨_,_,⟨_,k5,d1,d2,d3,d4,rfl,rfl⟩,⟨rfl,rfl,rfl,rfl,rfl,rfl,rfl,trivial⟩,⟨rfl,.inl rfl,rfl,trivial⟩,rfl⟩
    all_goals
     obtain ⟨d1,d2,d3,d4⟩:=fin { y with key:=key,day:=max 0 (day - 1) } ⟨(hf key).1,hk5⟩ c5
     exact ⟨_,_,⟨_,k5,d1,d2,d3,d4,rfl,rfl⟩,⟨rfl,rfl,rfl,rfl,rfl,rfl,rfl,trivial⟩,⟨rfl,.inl rfl,rfl,trivial⟩,rfl⟩
   ·exact ⟨_,_,⟨y,k4,by omega,by omega,c4,c5,rfl,rfl⟩,⟨rfl,rfl,rfl,rfl,rfl,rfl,rfl,trivial⟩,⟨rfl,.inl rfl,rfl,trivial⟩,rfl⟩
   ·exact ⟨_,_,⟨y,k4,by omega,by omega,c4,c5,rfl,rfl⟩,⟨rfl,rfl,rfl,rfl,rfl,rfl,rfl,trivial⟩,⟨rfl,.inl rfl,rfl,trivial⟩,rfl⟩
  rintro f1 m1 ⟨z,k5,a6,b6,c6,c7,rfl,rfl⟩
  have F1:=nT z
  have F5:cat EC.A xs++z.A=cat EC.A (xs++[z]):=qM xs z
  obtain ⟨q,hq,hb'⟩:=qj
  refine .inl ⟨by decide,by decide,_,F1,z.size,by decide,3001,i,_,.inl rfl,by decide,z.one,z.size,_,z.ext10,?_⟩
  refine ⟨by omega,by unfold maxLen;omega,⟨q,hq,by rw [hb'];omega⟩,trivial,fun g2 cap2=>?_⟩
  refine ⟨n - (i+1),_,_,by omega,⟨i+1,k5,xs++[z],_,_,rfl,by omega,by omega,by omega,.some,?_,?_,?_,rfl,rfl⟩,⟨rfl,rfl,rfl,rfl,rfl,ag (aq (by omega)),trivial⟩,⟨rfl,.inl (aB F5),trivial⟩,rfl⟩
  ·rw [e3] at c7;rw [e3,<- c7];exact hM.snoc c6.1 c6.2 (by omega) h0 (by omega) (by omega)
  ·rw [e3];omega
  ·rw [e3];omega
 ·have h:i=n:=by have:=ae h;omega
  subst h
  exact ⟨[(1000,Blk.row 25 2 (tb v k2)),(3001,Blk.own x 31 10 i (cat EC.A xs))],[],⟨xs,k2,known,by omega,by omega,hx,hM,hb,rfl⟩,⟨rfl,.inl rfl,trivial⟩,rfl⟩
theorem oC {v:Value} {zs:List Int} (w:World) (hv:Tp (aN prog tt Tryz.f9.ntmps w [] []).toEnv v zs):Calls prog 9 #[v] w fun e w'=>e=.returned (.bool true)/\Below w.heap.size w w':=by
 refine Hz [] af ah at9 [v] _ w rfl ?_
 have hv0:=hv
 obtain ⟨a,cap,rfl,-⟩:=hv0
 refine ⟨_,A6 a zs.length cap rfl,rfl,?_⟩
 generalize hvv:Value.slice a zs.length cap=v at *
 have hE:(aN prog tt Tryz.f9.ntmps w [] []).toEnv.P=prog:=rfl
 obtain ⟨r1,k1,a1,b1,⟨day,rfl,c1⟩,O1⟩:=JO zs 0 (by omega)
 obtain ⟨r2,k2,a2,b2,⟨i2,rfl,c2⟩,O2⟩:=cA (n:=14) (by decide) zs k1 (by omega)
 obtain ⟨n,rfl⟩:∃ n:Nat,i2=(n:Nat):=⟨i2.toNat,by omega⟩
 have A1:=Bb hE hv (n:=n) (k:=k2) (by omega) (by omega) c1
 refine .inr (.inl ⟨_,_,_,O1 _ v 14 rfl hv,⟨rfl,trivial⟩,rfl,?_⟩)
 refine .inr (.inl ⟨_,_,_,O2 _ v 14 rfl hv,⟨rfl,trivial⟩,rfl,?_⟩)
 refine .inr (.inr (.inr ⟨[(1000,14)],[3001],[_,_,_],[_],_,A1,rfl,⟨rfl,trivial⟩,rfl,trivial,?_⟩))
 rintro x U ⟨xs,k3,b,a3,b3,hx,hM,hb,rfl⟩
 refine ⟨rfl,?_⟩
 obtain ⟨r4,k4,a4,b4,⟨i4,rfl,c4⟩,O4⟩:=cA (n:=5) (by decide) zs k3 (by omega)
 obtain ⟨n2,rfl⟩:∃ n:Nat,i4=(n:Nat):=⟨i4.toNat,by omega⟩
 have A2:=BF hE hv (n:=n2) (k:=k4) (by omega) (by omega) c1
 refine .inr (.inl ⟨_,_,_,O4 _ v 14 rfl hv,⟨rfl,trivial⟩,rfl,?_⟩)
 refine .inr (.inr (.inr ⟨[(1000,14)],[3000],[_,_,_],[_],_,A2,rfl,⟨rfl,trivial⟩,rfl,trivial,?_⟩))
 rintro y U ⟨al,k5,b',a5,b5,hy,hM2,hb',rfl⟩
 refine ⟨rfl,?_⟩
 have hin:=hM.in_
 have hina:∀ y∈al,y.In:=fun y h=>(hM2.x y h).2.2
 have hxn:=hM.l
 have hyn:=hM2.l
 refine ⟨fun q f m=>∃ (i k6:Nat),q=4 - i/\i<=4/\k6<=10000+10*i/\f=[(3,SV.ptr 14 0),(4,SV.c (.int .i64 day)),(5,SV.c x),(6,SV.c y),(7,SV.c (.int .i64 (i:Nat)))]/\m=[(14,Blk.row 25 2 (tb v k6)),(3001,Blk.own x 31 10 n (cat EC.A xs)),(3000,Blk.own y 61 76 n2 (cat AC.A al))],4,⟨_,_,⟨0,k5,by omega,by omega,by omega,rfl,rfl⟩,⟨rfl,rfl,rfl,rfl,rfl,trivial⟩,⟨rfl,.inl rfl,.inl rfl,trivial⟩,rfl⟩,?_⟩
 rintro q f m ⟨i,k6,rfl,hi,hk6,rfl,rfl⟩
 refine ⟨fun h=>?_,fun h=>?_⟩
 rotate_left
 ·exact .inl ⟨_,y8,rfl,trivial⟩
 have h:i < 4:=by have:=ab h;omega
 obtain ⟨r7,k7,a7,b7,⟨i7,rfl,c7⟩,O7⟩:=cA (n:=50) (by decide) zs k6 (by omega)
 obtain ⟨r8,k8,a8,b8,⟨i8,rfl,c8⟩,O8⟩:=gI (xs:=[2147483647,i7]) (by simp) (by simp) zs k7 (by omega)
 obtain ⟨r9,k9,a9,b9,⟨i9,rfl,c9⟩,O9⟩:=cA (n:=12) (by decide) zs k8 (by omega)
 refine .inr (.inl ⟨_,_,_,O7 _ v 14 rfl hv,⟨rfl,trivial⟩,rfl,?_⟩)
 refine .inl ⟨by decide,by decide,aO [2147483647,i7],by kernel_rfl,rfl,.inr (.inl ⟨_,_,_,O8 _ v 14 34 (by decide) rfl hv,⟨rfl,rfl,trivial⟩,rfl,?_⟩)⟩
 refine .inr (.inl ⟨_,_,_,O9 _ v 14 rfl hv,⟨rfl,trivial⟩,rfl,_,fun w' _=>aV _ _ w',?_⟩)
 generalize min 73048 (i64.wrap (day+i9))=d
 have X1:=Gc hE (x:=x) (y:=y) (k:=i8) (day:=d) hxn.symm hyn.symm (by omega) (by omega) hin hina
 refine .inr (.inr (.inl ⟨[(9640,3001),(9641,3000)],[_,_,_,_],[_,_],_,[_,_],X1,rfl,⟨.inl rfl,.inl rfl,trivial⟩,rfl,rfl,nf rfl,fun _=>?_⟩))
 have L1:=zL hE (x:=x) (y:=y) (k:=i8) (day:=d) hxn.symm hyn.symm (by omega) (by omega) hin hina
 have hval:=fun h=>ED (xs:=xs) (al:=al) (k:=i8) (day:=d) h
 have hlen:=zM xs al i8 d
 generalize atP xs al i8 d=R at L1 hval hlen
 refine .inr (.inr (.inr ⟨[(9640,3001),(9641,3000)],[9506,9507,9508],[_,_,_,_],[_,_],_,L1,rfl,⟨.inl rfl,.inl rfl,trivial⟩,rfl,trivial,?_⟩))
 rintro r U ⟨U0,⟨xh,xc,xp,q1,q2,q3,rfl,rfl⟩,rfl⟩
 refine ⟨rfl,ky (be q1) (be q2) (be q3),?_⟩
 have fin:4 - (i+1) < 4 - i/\i+1<=4/\k9<=10000+10*(i+1):=⟨by omega,by omega,by omega⟩
 refine ⟨fun he=>?_,fun he=>?_⟩
 ·have hv1:=hval (eq_of_beq he)
  have hown:=zX hv1 (by omega)
  have V1:=BU hE (xh:=xh) (xc:=xc) (xp:=xp) hown
  have V2:=BV hE (xh:=xh) (xc:=xc) (xp:=xp) hown
  rw [hv1] at V1 V2
  refine .inr (.inr (.inl ⟨[],[_],[_,_,_],_,[_,_,_],V1,rfl,⟨.inl rfl,.inl rfl,.inl rfl,trivial⟩,rfl,rfl,fun _=>?_,nf rfl⟩))
  refine .inr (.inr (.inl ⟨[],[_],[_,_,_],_,[_,_,_],V2,rfl,⟨.inl rfl,.inl rfl,.inl rfl,trivial⟩,rfl,rfl,nf rfl,fun _=>?_⟩))
  exact ⟨4 - (i+1),_,_,fin.1,⟨i+1,k9,rfl,fin.2.1,fin.2.2,rfl,rfl⟩,⟨rfl,rfl,rfl,rfl,ag (aq (by omega)),trivial⟩,⟨rfl,.inl rfl,.inl rfl,trivial⟩,rfl⟩
 ·exact ⟨nf rfl,fun _=>⟨4 - (i+1),_,_,fin.1,⟨i+1,k9,rfl,fin.2.1,fin.2.2,rfl,rfl⟩,⟨rfl,rfl,rfl,rfl,ag (aq (by omega)),trivial⟩,⟨rfl,.inl rfl,.inl rfl,trivial⟩,rfl⟩⟩
end Go.Proofs.YtekfkdddadcalaaGreatDoor
