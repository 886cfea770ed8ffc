/- what came in: quotes and policies. made quotes. made books a; no condition. -/
import Derived.Test.YtklehfchdoikeaaGreatDoorP18
import Derived.Test.YtklehfchdoikeaaGreatDoorP28
set_option maxRecDepth 100000
set_option maxHeartbeats 4000000
namespace Go.Proofs.YtklehfchdoikeaaGreatDoor
open Go Go.RowKit Go.SX
open ChangeShapes WideShapes
instance:Inhabited QC:=⟨noQ⟩
end Go.Proofs.YtklehfchdoikeaaGreatDoor
namespace Go.Proofs.YtklehfchdoikeaaGreatDoor
open Go Go.RowKit Go.SX
def gV:List (List UInt8):=[[65,67,77,69],[66,79,78,68],[71,79,76,68],[88,49],[69,85,82,85,83,68],[85,83,68,71,66,80]]
def js:List UInt8:=[85,83,68,71,66,80]
def tu:List UInt8:=[69,85,82,85,83,68]
theorem JS:Gen 99 [] 1 (RS (·∈gV)):=by
 intro zs k hk
 obtain ⟨r1,k1,a1,b1,⟨l,rfl,c1⟩,O1⟩:=BV (xs:=gV) (by decide) (by decide) zs k (by omega)
 refine ⟨_,k1,by omega,by omega,⟨l,rfl,c1⟩,fun E v d hE hv=>?_⟩
 refine aQ [] ai ak TY E hE d (53,2,tb v k,tb v k1) [SV.ptr 1000 0] _ rfl rfl fun w b hT=>?_
 have hv:=hv.of_old hE.symm hT
 exact ⟨by decide,by decide,kN gV,by kernel_rfl,rfl,.inr ⟨_,_,_,O1 _ v 1000 4 (by decide) rfl hv,⟨rfl,rfl,trivial⟩,rfl,rfl,rfl,trivial⟩⟩
theorem dy {P:Program} {ats:Array TypeId} {ty:TypeId} {cs:Array Bool} (x y:Int) (w:World):(builtin .max ats ty cs #[.int .i64 x,.int .i64 y]).run P w=.ok (.value (.int .i64 (max x y))) w:=by
 simp [builtin,Go.Lib.run_max_ints]
theorem QC.set2 (a:QC) (l:List UInt8):a.A.setIfInBounds (0+2) (.string (S l))=({ a with cur:=l }:QC).A:=by kernel_rfl
theorem QC.set71 (a:QC) (b:Bool):a.A.setIfInBounds (0+71) (.bool b)=({ a with void:=b }:QC).A:=by kernel_rfl
theorem QC.setpri (a:QC) (r:RQ):aM a.A (0+4) r.A.toList=({ a with price:=r }:QC).A:=by kernel_rfl
theorem HR (src ins:List UInt8) (day known:Int) (r:RQ) {pl:List (Nat×Nat)} (hpl:pl=[(0,1),(1,1),(2,1),(3,1),(4,66),(70,1),(71,1)]):Instr.fill (fun k=>pl[k]?) gJ.zero [(0,.string (S src)),(1,.string (S ins)),(2,.string (S [85,83,68])),(3,.int .i64 day),(4,.agg r.A),(5,.int .i64 known)]=some (QC.A ⟨src,ins,[85,83,68],day,r,known,false⟩):=by
 subst hpl
 kernel_rfl
def go (day known:Int) (q:QC):Prop:=q.src∈bO/\q.ins∈gV/\q.cur∈([[85,83,68],[69,85,82],[71,66,80]]:List (List UInt8))/\(0<=q.day/\(q.day<=day\/q.day=0))/\q.known=known/\((q.void=false/\isPrice q.price)\/(q.void=true/\q.price=aG))
def RQt (P:QC->Prop) (r:Value):Prop:=∃ q:QC,r=.agg q.A/\P q
theorem jo:Fits aG.A 66:=aG.A_fits
theorem Iq:Gen 66 [] 1 (RS (·∈([[85,83,68],[69,85,82],[71,66,80]]:List (List UInt8)))):=by
 intro zs k hk
 obtain ⟨r1,k1,a1,b1,⟨l,rfl,c1⟩,O1⟩:=BV (xs:=[[85,83,68],[85,83,68],[69,85,82],[71,66,80]]) (by decide) (by decide) zs k (by omega)
 refine ⟨_,k1,by omega,by omega,⟨l,rfl,by simp at c1 ⊢;exact c1⟩,fun E v d hE hv=>?_⟩
 refine aQ [] ai ak PR E hE d (53,2,tb v k,tb v k1) [SV.ptr 1000 0] _ rfl rfl fun w b hT=>?_
 have hv:=hv.of_old hE.symm hT
 exact ⟨by decide,by decide,kN [[85,83,68],[85,83,68],[69,85,82],[71,66,80]],by kernel_rfl,rfl,.inr ⟨_,_,_,O1 _ v 1000 4 (by decide) rfl hv,⟨rfl,rfl,trivial⟩,rfl,rfl,rfl,trivial⟩⟩
theorem vW {day known:Int} (hd:0<=day/\day<=1000000):Gen 42 [SV.c (.int .i64 day),SV.c (.int .i64 known)] 20 (RQt (go day known)):=by
 intro zs k hk
 obtain ⟨r1,k1,a1,b1,⟨i1,rfl,c1⟩,O1⟩:=bQ (n:=4) (by decide) zs k (by omega)
 obtain ⟨r2,k2,a2,b2,⟨ins,rfl,c2⟩,O2⟩:=JS zs k1 (by omega)
 obtain ⟨r3,k3,a3,b3,⟨i3,rfl,c3⟩,O3⟩:=dX (xs:=[0,0,0,1,2,5]) (by decide) (by decide) zs k2 (by omega)
 obtain ⟨r4,k4,a4,b4,⟨price,rfl,c4⟩,O4⟩:=rI zs k3 (by omega)
 have h3:0<=i3/\i3<=5:=by simp at c3;omega
 obtain ⟨j1,rfl⟩:∃ j:Nat,i1=j:=⟨i1.toNat,by omega⟩
 obtain ⟨src,hs⟩:∃ s,bO[j1]? = some s:=⟨_,List.getElem?_eq_getElem (show j1 < 4 by omega)⟩
 have hsm:src∈bO:=List.mem_of_getElem? hs
 have g1:(cat bF bO)[aO 0 ((j1:Nat):Int) ti9.size]? = some (.string (S src)):=by
  have:=dV dj bO j1 src 0 hs (by decide)
  rw [iC 0 j1]
  simpa [bF] using this
 have e3:IntKind.i64.wrap (day - i3)=day - i3:=i64_in (by omega)
 have F1:=HR src ins (max 0 (day - i3)) known price (pl:=[(0,1),(1,1),(2,1),(3,1),(4,66),(70,1),(71,1)]) rfl
 rw [<- e3] at F1
 generalize hz:(⟨src,ins,[85,83,68],max 0 (IntKind.i64.wrap (day - i3)),price,known,false⟩:QC)=z at F1
 have zsrc:z.src=src:=by rw [<- hz]
 have zins:z.ins=ins:=by rw [<- hz]
 have zday:0<=z.day/\(z.day<=day\/z.day=0):=by
  rw [<- hz,e3]
  show 0<=max 0 (day - i3)/\(max 0 (day - i3)<=day\/max 0 (day - i3)=0)
  omega
 have zkn:z.known=known:=by rw [<- hz]
 have zvo:z.void=false:=by rw [<- hz]
 have zpr:z.price=price:=by rw [<- hz]
 have zcu:z.cur=[85,83,68]:=by rw [<- hz]
 have mem0:([85,83,68]:List UInt8)∈([[85,83,68],[69,85,82],[71,66,80]]:List (List UInt8)):=by decide
 have mem1:([71,66,80]:List UInt8)∈([[85,83,68],[69,85,82],[71,66,80]]:List (List UInt8)):=by decide
 clear hz
 have isq:∀ (cur:List UInt8),cur∈([[85,83,68],[69,85,82],[71,66,80]]:List (List UInt8))->go day known { z with cur:=cur }:=fun cur h=>⟨by rw [zsrc];exact hsm,by rw [zins];exact c2,h,zday,zkn,.inl ⟨zvo,by rw [zpr];exact c4⟩⟩
 have isv:∀ (cur:List UInt8),cur∈([[85,83,68],[69,85,82],[71,66,80]]:List (List UInt8))->go day known { z with cur:=cur,void:=true,price:=aG }:=fun cur h=>⟨by rw [zsrc];exact hsm,by rw [zins];exact c2,h,zday,zkn,.inr ⟨rfl,rfl⟩⟩
 have ZF:=z.fits
 have Z1:=z.g1
 rw [zins] at Z1
 have nu:ins≠js->((S ins).toList == (S js).toList)=false:=fun h=>by rw [eG];exact decide_eq_false h
 have ne:ins≠tu->(!((S ins).toList == (S tu).toList))=true:=fun h=>by rw [eG,decide_eq_false h];rfl
 have ee:ins=tu->(!((S ins).toList == (S tu).toList))=false:=fun h=>by rw [eG,decide_eq_true h];rfl
 have zself:({ z with cur:=[85,83,68] }:QC)=z:=by rw [<- zcu]
 by_cases hg:ins=js
 ·subst hg
  obtain ⟨rv,k5,av,bv,⟨void,rfl⟩,O5⟩:=cU (a:=1) (b:=9) (by decide) zs k4 (by omega)
  cases void
  ·refine ⟨_,k5,by omega,by omega,⟨{ z with cur:=[71,66,80] },rfl,isq _ mem1⟩,fun E v d hE hv=>?_⟩
   refine aQ [] ai ak zq E hE d (53,2,tb v k,tb v k5) [SV.ptr 1000 0,SV.c (.int .i64 day),SV.c (.int .i64 known)] _ rfl rfl fun w b hT=>?_
   have hv:=hv.of_old hE.symm hT
   have S2:=QC.set2 z [71,66,80]
   have ZG:=({ z with cur:=[71,66,80] }:QC).fits
   generalize QC.A { z with cur:=[71,66,80] }=ZB at *
   generalize z.A=ZA at *
   refine .inr ⟨_,_,_,dB _ rfl 7777,trivial,rfl,.inr ⟨_,_,_,O1 _ v 1000 rfl hv,⟨rfl,trivial⟩,rfl,?_⟩⟩
   refine ⟨by omega,by omega,_,g1,.inr ⟨_,_,_,O2 _ v 1000 rfl hv,⟨rfl,trivial⟩,rfl,by decide,by decide,cd [0,0,0,1,2,5],by kernel_rfl,rfl,.inr ⟨_,_,_,O3 _ v 1000 17 (by decide) rfl hv,⟨rfl,rfl,trivial⟩,rfl,_,fun w' _=>dy _ _ w',.inr ⟨_,_,_,O4 _ v 1000 rfl hv,⟨rfl,trivial⟩,rfl,_,F1,ZF,?_⟩⟩⟩⟩
   exact ⟨by kernel_rfl,_,Z1,fun _=>⟨by decide,rfl,ZB,S2,.inr ⟨_,_,_,O5 _ v 1000 rfl hv,⟨rfl,trivial⟩,rfl,fun h=>absurd h (by decide),fun _=>⟨ZG,rfl,rfl,trivial⟩⟩⟩,fun h=>absurd ((zV js).symm.trans h) (by decide)⟩
  ·refine ⟨_,k5,by omega,by omega,⟨{ z with cur:=[71,66,80],void:=true,price:=aG },rfl,isv _ mem1⟩,fun E v d hE hv=>?_⟩
   refine aQ [] ai ak zq E hE d (53,2,tb v k,tb v k5) [SV.ptr 1000 0,SV.c (.int .i64 day),SV.c (.int .i64 known)] _ rfl rfl fun w b hT=>?_
   have hv:=hv.of_old hE.symm hT
   have S2:=QC.set2 z [71,66,80]
   have ZG:=({ z with cur:=[71,66,80] }:QC).fits
   have S3:=QC.set71 { z with cur:=[71,66,80] } true
   have S4:=QC.setpri { z with cur:=[71,66,80],void:=true } aG
   have ZH:=({ z with cur:=[71,66,80],void:=true,price:=aG }:QC).fits
   generalize QC.A { z with cur:=[71,66,80],void:=true,price:=aG }=ZD at *
   generalize QC.A { z with cur:=[71,66,80],void:=true }=ZC at *
   generalize QC.A { z with cur:=[71,66,80] }=ZB at *
   generalize z.A=ZA at *
   refine .inr ⟨_,_,_,dB _ rfl 7777,trivial,rfl,.inr ⟨_,_,_,O1 _ v 1000 rfl hv,⟨rfl,trivial⟩,rfl,?_⟩⟩
   refine ⟨by omega,by omega,_,g1,.inr ⟨_,_,_,O2 _ v 1000 rfl hv,⟨rfl,trivial⟩,rfl,by decide,by decide,cd [0,0,0,1,2,5],by kernel_rfl,rfl,.inr ⟨_,_,_,O3 _ v 1000 17 (by decide) rfl hv,⟨rfl,rfl,trivial⟩,rfl,_,fun w' _=>dy _ _ w',.inr ⟨_,_,_,O4 _ v 1000 rfl hv,⟨rfl,trivial⟩,rfl,_,F1,ZF,?_⟩⟩⟩⟩
   exact ⟨by kernel_rfl,_,Z1,fun _=>⟨by decide,rfl,ZB,S2,.inr ⟨_,_,_,O5 _ v 1000 rfl hv,⟨rfl,trivial⟩,rfl,fun _=>⟨_,rfl,by decide,rfl,ZC,S3,by decide,jo,ZD,S4,ZH,rfl,rfl,trivial⟩,fun h=>absurd h (by decide)⟩⟩,fun h=>absurd ((zV js).symm.trans h) (by decide)⟩
 by_cases he:ins=tu
 ·obtain ⟨rv,k5,av,bv,⟨void,rfl⟩,O5⟩:=cU (a:=1) (b:=9) (by decide) zs k4 (by omega)
  cases void
  ·refine ⟨_,k5,by omega,by omega,⟨z,rfl,(by have:=isq _ mem0;rw [zself] at this;exact this)⟩,fun E v d hE hv=>?_⟩
   refine aQ [] ai ak zq E hE d (53,2,tb v k,tb v k5) [SV.ptr 1000 0,SV.c (.int .i64 day),SV.c (.int .i64 known)] _ rfl rfl fun w b hT=>?_
   have hv:=hv.of_old hE.symm hT
   have ZG:=z.fits
   generalize z.A=ZA at *
   refine .inr ⟨_,_,_,dB _ rfl 7777,trivial,rfl,.inr ⟨_,_,_,O1 _ v 1000 rfl hv,⟨rfl,trivial⟩,rfl,?_⟩⟩
   refine ⟨by omega,by omega,_,g1,.inr ⟨_,_,_,O2 _ v 1000 rfl hv,⟨rfl,trivial⟩,rfl,by decide,by decide,cd [0,0,0,1,2,5],by kernel_rfl,rfl,.inr ⟨_,_,_,O3 _ v 1000 17 (by decide) rfl hv,⟨rfl,rfl,trivial⟩,rfl,_,fun w' _=>dy _ _ w',.inr ⟨_,_,_,O4 _ v 1000 rfl hv,⟨rfl,trivial⟩,rfl,_,F1,ZF,?_⟩⟩⟩⟩
   exact ⟨by kernel_rfl,_,Z1,fun h=>absurd ((nu hg).symm.trans h) (by decide),fun _=>⟨_,Z1,fun h=>absurd ((ee he).symm.trans h) (by decide),fun _=>⟨fun h=>absurd h (by decide),fun _=>.inr ⟨_,_,_,O5 _ v 1000 rfl hv,⟨rfl,trivial⟩,rfl,fun h=>absurd h (by decide),fun _=>⟨ZG,rfl,rfl,trivial⟩⟩⟩⟩⟩
  ·refine ⟨_,k5,by omega,by omega,⟨{ z with void:=true,price:=aG },rfl,(by have:=isv _ mem0;rw [show ({ z with cur:=[85,83,68],void:=true,price:=aG }:QC)={ z with void:=true,price:=aG } by rw [<- zcu]] at this;exact this)⟩,fun E v d hE hv=>?_⟩
   refine aQ [] ai ak zq E hE d (53,2,tb v k,tb v k5) [SV.ptr 1000 0,SV.c (.int .i64 day),SV.c (.int .i64 known)] _ rfl rfl fun w b hT=>?_
   have hv:=hv.of_old hE.symm hT
   have ZG:=z.fits
   have S3:=QC.set71 z true
   have S4:=QC.setpri { z with void:=true } aG
   have ZH:=({ z with void:=true,price:=aG }:QC).fits
   generalize QC.A { z with void:=true,price:=aG }=ZD at *
   generalize QC.A { z with void:=true }=ZC at *
   generalize z.A=ZA at *
   refine .inr ⟨_,_,_,dB _ rfl 7777,trivial,rfl,.inr ⟨_,_,_,O1 _ v 1000 rfl hv,⟨rfl,trivial⟩,rfl,?_⟩⟩
   refine ⟨by omega,by omega,_,g1,.inr ⟨_,_,_,O2 _ v 1000 rfl hv,⟨rfl,trivial⟩,rfl,by decide,by decide,cd [0,0,0,1,2,5],by kernel_rfl,rfl,.inr ⟨_,_,_,O3 _ v 1000 17 (by decide) rfl hv,⟨rfl,rfl,trivial⟩,rfl,_,fun w' _=>dy _ _ w',.inr ⟨_,_,_,O4 _ v 1000 rfl hv,⟨rfl,trivial⟩,rfl,_,F1,ZF,?_⟩⟩⟩⟩
   exact ⟨by kernel_rfl,_,Z1,fun h=>absurd ((nu hg).symm.trans h) (by decide),fun _=>⟨_,Z1,fun h=>absurd ((ee he).symm.trans h) (by decide),fun _=>⟨fun h=>absurd h (by decide),fun _=>.inr ⟨_,_,_,O5 _ v 1000 rfl hv,⟨rfl,trivial⟩,rfl,fun _=>⟨_,rfl,by decide,rfl,ZC,S3,by decide,jo,ZD,S4,ZH,rfl,rfl,trivial⟩,fun h=>absurd h (by decide)⟩⟩⟩⟩
 obtain ⟨r5,k5,a5,b5,⟨ch,rfl⟩,O5⟩:=cU (a:=1) (b:=4) (by decide) zs k4 (by omega)
 cases ch
 ·obtain ⟨rv,k6,av,bv,⟨void,rfl⟩,O7⟩:=cU (a:=1) (b:=9) (by decide) zs k5 (by omega)
  cases void
  ·refine ⟨_,k6,by omega,by omega,⟨z,rfl,(by have:=isq _ mem0;rw [zself] at this;exact this)⟩,fun E v d hE hv=>?_⟩
   refine aQ [] ai ak zq E hE d (53,2,tb v k,tb v k6) [SV.ptr 1000 0,SV.c (.int .i64 day),SV.c (.int .i64 known)] _ rfl rfl fun w b hT=>?_
   have hv:=hv.of_old hE.symm hT
   have ZG:=z.fits
   generalize z.A=ZA at *
   refine .inr ⟨_,_,_,dB _ rfl 7777,trivial,rfl,.inr ⟨_,_,_,O1 _ v 1000 rfl hv,⟨rfl,trivial⟩,rfl,?_⟩⟩
   refine ⟨by omega,by omega,_,g1,.inr ⟨_,_,_,O2 _ v 1000 rfl hv,⟨rfl,trivial⟩,rfl,by decide,by decide,cd [0,0,0,1,2,5],by kernel_rfl,rfl,.inr ⟨_,_,_,O3 _ v 1000 17 (by decide) rfl hv,⟨rfl,rfl,trivial⟩,rfl,_,fun w' _=>dy _ _ w',.inr ⟨_,_,_,O4 _ v 1000 rfl hv,⟨rfl,trivial⟩,rfl,_,F1,ZF,?_⟩⟩⟩⟩
   exact ⟨by kernel_rfl,_,Z1,fun h=>absurd ((nu hg).symm.trans h) (by decide),fun _=>⟨_,Z1,fun _=>.inr ⟨_,_,_,O5 _ v 1000 rfl hv,⟨rfl,trivial⟩,rfl,fun h=>absurd h (by decide),fun _=>.inr ⟨_,_,_,O7 _ v 1000 rfl hv,⟨rfl,trivial⟩,rfl,fun h=>absurd h (by decide),fun _=>⟨ZG,rfl,rfl,trivial⟩⟩⟩,fun h=>absurd ((ne he).symm.trans h) (by decide)⟩⟩
  ·refine ⟨_,k6,by omega,by omega,⟨{ z with void:=true,price:=aG },rfl,(by have:=isv _ mem0;rw [show ({ z with cur:=[85,83,68],void:=true,price:=aG }:QC)={ z with void:=true,price:=aG } by rw [<- zcu]] at this;exact this)⟩,fun E v d hE hv=>?_⟩
   refine aQ [] ai ak zq E hE d (53,2,tb v k,tb v k6) [SV.ptr 1000 0,SV.c (.int .i64 day),SV.c (.int .i64 known)] _ rfl rfl fun w b hT=>?_
   have hv:=hv.of_old hE.symm hT
   have ZG:=z.fits
   have S3:=QC.set71 z true
   have S4:=QC.setpri { z with void:=true } aG
   have ZH:=({ z with void:=true,price:=aG }:QC).fits
   generalize QC.A { z with void:=true,price:=aG }=ZD at *
   generalize QC.A { z with void:=true }=ZC at *
   generalize z.A=ZA at *
   refine .inr ⟨_,_,_,dB _ rfl 7777,trivial,rfl,.inr ⟨_,_,_,O1 _ v 1000 rfl hv,⟨rfl,trivial⟩,rfl,?_⟩⟩
   refine ⟨by omega,by omega,_,g1,.inr ⟨_,_,_,O2 _ v 1000 rfl hv,⟨rfl,trivial⟩,rfl,by decide,by decide,cd [0,0,0,1,2,5],by kernel_rfl,rfl,.inr ⟨_,_,_,O3 _ v 1000 17 (by decide) rfl hv,⟨rfl,rfl,trivial⟩,rfl,_,fun w' _=>dy _ _ w',.inr ⟨_,_,_,O4 _ v 1000 rfl hv,⟨rfl,trivial⟩,rfl,_,F1,ZF,?_⟩⟩⟩⟩
   exact ⟨by kernel_rfl,_,Z1,fun h=>absurd ((nu hg).symm.trans h) (by decide),fun _=>⟨_,Z1,fun _=>.inr ⟨_,_,_,O5 _ v 1000 rfl hv,⟨rfl,trivial⟩,rfl,fun h=>absurd h (by decide),fun _=>.inr ⟨_,_,_,O7 _ v 1000 rfl hv,⟨rfl,trivial⟩,rfl,fun _=>⟨_,rfl,by decide,rfl,ZC,S3,by decide,jo,ZD,S4,ZH,rfl,rfl,trivial⟩,fun h=>absurd h (by decide)⟩⟩,fun h=>absurd ((ne he).symm.trans h) (by decide)⟩⟩
 ·obtain ⟨r6,k6,a6,b6,⟨cur,rfl,c6⟩,O6⟩:=Iq zs k5 (by omega)
  obtain ⟨rv,k7,av,bv,⟨void,rfl⟩,O7⟩:=cU (a:=1) (b:=9) (by decide) zs k6 (by omega)
  cases void
  ·refine ⟨_,k7,by omega,by omega,⟨{ z with cur:=cur },rfl,isq _ c6⟩,fun E v d hE hv=>?_⟩
   refine aQ [] ai ak zq E hE d (53,2,tb v k,tb v k7) [SV.ptr 1000 0,SV.c (.int .i64 day),SV.c (.int .i64 known)] _ rfl rfl fun w b hT=>?_
   have hv:=hv.of_old hE.symm hT
   have S2:=QC.set2 z cur
   have ZG:=({ z with cur:=cur }:QC).fits
   generalize QC.A { z with cur:=cur }=ZB at *
   generalize z.A=ZA at *
   refine .inr ⟨_,_,_,dB _ rfl 7777,trivial,rfl,.inr ⟨_,_,_,O1 _ v 1000 rfl hv,⟨rfl,trivial⟩,rfl,?_⟩⟩
   refine ⟨by omega,by omega,_,g1,.inr ⟨_,_,_,O2 _ v 1000 rfl hv,⟨rfl,trivial⟩,rfl,by decide,by decide,cd [0,0,0,1,2,5],by kernel_rfl,rfl,.inr ⟨_,_,_,O3 _ v 1000 17 (by decide) rfl hv,⟨rfl,rfl,trivial⟩,rfl,_,fun w' _=>dy _ _ w',.inr ⟨_,_,_,O4 _ v 1000 rfl hv,⟨rfl,trivial⟩,rfl,_,F1,ZF,?_⟩⟩⟩⟩
   exact ⟨by kernel_rfl,_,Z1,fun h=>absurd ((nu hg).symm.trans h) (by decide),fun _=>⟨_,Z1,fun _=>.inr ⟨_,_,_,O5 _ v 1000 rfl hv,⟨rfl,trivial⟩,rfl,fun _=>.inr ⟨_,_,_,O6 _ v 1000 rfl hv,⟨rfl,trivial⟩,rfl,by decide,rfl,ZB,S2,.inr ⟨_,_,_,O7 _ v 1000 rfl hv,⟨rfl,trivial⟩,rfl,fun h=>absurd h (by decide),fun _=>⟨ZG,rfl,rfl,trivial⟩⟩⟩,fun h=>absurd h (by decide)⟩,fun h=>absurd ((ne he).symm.trans h) (by decide)⟩⟩
  ·refine ⟨_,k7,by omega,by omega,⟨{ z with cur:=cur,void:=true,price:=aG },rfl,isv _ c6⟩,fun E v d hE hv=>?_⟩
   refine aQ [] ai ak zq E hE d (53,2,tb v k,tb v k7) [SV.ptr 1000 0,SV.c (.int .i64 day),SV.c (.int .i64 known)] _ rfl rfl fun w b hT=>?_
   have hv:=hv.of_old hE.symm hT
   have S2:=QC.set2 z cur
   have ZG:=({ z with cur:=cur }:QC).fits
   have S3:=QC.set71 { z with cur:=cur } true
   have S4:=QC.setpri { z with cur:=cur,void:=true } aG
   have ZH:=({ z with cur:=cur,void:=true,price:=aG }:QC).fits
   generalize QC.A { z with cur:=cur,void:=true,price:=aG }=ZD at *
   generalize QC.A { z with cur:=cur,void:=true }=ZC at *
   generalize QC.A { z with cur:=cur }=ZB at *
   generalize z.A=ZA at *
   refine .inr ⟨_,_,_,dB _ rfl 7777,trivial,rfl,.inr ⟨_,_,_,O1 _ v 1000 rfl hv,⟨rfl,trivial⟩,rfl,?_⟩⟩
   refine ⟨by omega,by omega,_,g1,.inr ⟨_,_,_,O2 _ v 1000 rfl hv,⟨rfl,trivial⟩,rfl,by decide,by decide,cd [0,0,0,1,2,5],by kernel_rfl,rfl,.inr ⟨_,_,_,O3 _ v 1000 17 (by decide) rfl hv,⟨rfl,rfl,trivial⟩,rfl,_,fun w' _=>dy _ _ w',.inr ⟨_,_,_,O4 _ v 1000 rfl hv,⟨rfl,trivial⟩,rfl,_,F1,ZF,?_⟩⟩⟩⟩
   exact ⟨by kernel_rfl,_,Z1,fun h=>absurd ((nu hg).symm.trans h) (by decide),fun _=>⟨_,Z1,fun _=>.inr ⟨_,_,_,O5 _ v 1000 rfl hv,⟨rfl,trivial⟩,rfl,fun _=>.inr ⟨_,_,_,O6 _ v 1000 rfl hv,⟨rfl,trivial⟩,rfl,by decide,rfl,ZB,S2,.inr ⟨_,_,_,O7 _ v 1000 rfl hv,⟨rfl,trivial⟩,rfl,fun _=>⟨_,rfl,by decide,rfl,ZC,S3,by decide,jo,ZD,S4,ZH,rfl,rfl,trivial⟩,fun h=>absurd h (by decide)⟩⟩,fun h=>absurd h (by decide)⟩,fun h=>absurd ((ne he).symm.trans h) (by decide)⟩⟩
def LO (day:Int) (a:QC):Prop:=∃ dd kn:Int,go dd kn a/\0<=dd/\dd<=73048/\dd<=day+1
structure IsBook (day last:Int) (xs:List QC):Prop where
 each:∀ a∈xs,LO day a
 up:xs.Pairwise (fun a b=>a.known < b.known)
 bd:∀ a∈xs,1<=a.known/\a.known<=last
theorem IsBook.snoc {day last kn dd:Int} {xs:List QC} {y:QC} (h:IsBook day last xs) (hl:0<=last) (hk:last < kn) (hy:go dd kn y) (h1:0<=dd) (h2:dd<=73048) (h3:dd<=day+1):IsBook day kn (xs++[y]):=by
 have hyk:y.known=kn:=hy.2.2.2.2.1
 refine ⟨fun a ha=>?_,?_,fun a ha=>?_⟩
 ·rcases List.mem_append.1 ha with h4 | h4
  ·exact h.each a h4
  ·have:a=y:=by simpa using h4
   rw [this];exact ⟨dd,kn,hy,h1,h2,h3⟩
 ·rw [List.pairwise_append]
  refine ⟨h.up,by simp,fun a ha b hb=>?_⟩
  have:b=y:=by simpa using hb
  rw [this,hyk]
  have:=(h.bd a ha).2
  omega
 ·rcases List.mem_append.1 ha with h4 | h4
  ·have:=h.bd a h4
   omega
  ·have:a=y:=by simpa using h4
   rw [this,hyk];omega
theorem sX {day:Int} {a:QC} (h:LO day a):a.In:=by
 obtain ⟨dd,kn,⟨h1,h2,h3,h4,h5,h6⟩,d1,d2,d3⟩:=h
 refine ⟨?_,?_,?_,?_,by omega⟩
 ·rcases h6 with ⟨-,h6⟩ | ⟨-,h6⟩
  ·exact h6.in_
  ·rw [h6];exact iS
 ·simp [bO] at h1;rcases h1 with h | h | h | h<;>rw [h]<;>decide
 ·simp [gV] at h2;rcases h2 with h | h | h | h | h | h<;>rw [h]<;>decide
 ·simp at h3;rcases h3 with h | h | h<;>rw [h]<;>decide
def uA (r:RQ):Prop:=r.In/\j8 r=true/\dE r 0 1=true
theorem sR {n d:Int} (h0:0<=n) (h1:n<=d) (d1:1<=d) (d2:d ∣ 100000000):uA (mkQ n d).1:=by
 have hd8:d<=100000000:=Int.le_of_dvd (by decide) d2
 have bn:Bd 60 n:=uf (by omega) (by omega)
 have bd:Bd 60 d:=uf (by omega) (by omega)
 have b100:Bd 60 100:=uf (by decide) (by decide)
 have b1:Bd 60 (1:Int):=uf (by decide) (by decide)
 refine ⟨cD _ _,?_,?_⟩
 ·obtain ⟨r,e1,e2,e3,e4,e5⟩:=mq (show 0 < d by omega) bn bd
  obtain ⟨-,-,q1,-,-⟩:=RQ.ok_bits e2
  have hm:bR (mkQ n d).1 (.of 100 1)=mkQ (n*100) (d*1):=by
   rw [LJ b100]
   exact J4 (by omega) (by decide) bn bd b100 b1
  rw [Int.mul_one] at hm
  have bx:Bd 120 (n*100):=bn.mul b100
  obtain ⟨s,f1,f2,f3,f4,f5⟩:=mq (show 0 < d by omega) bx bd
  obtain ⟨-,-,s1,-,-⟩:=RQ.ok_bits f2
  rw [e1] at hm ⊢
  have hp0:0<=r.p:=by
   have:0<=r.p*d:=by rw [e3];exact Int.mul_nonneg h0 (by omega)
   exact Int.nonneg_of_mul_nonneg_left this (by omega)
  obtain ⟨m,hm8⟩:=d2
  have hz:s.p*1000000=(n*m)*s.q:=by
   have x1:s.p*1000000*100=(n*m)*s.q*100:=by
    calc s.p*1000000*100=s.p*100000000:=by rw [Int.mul_assoc];rfl
     _=s.p*(d*m):=by rw [hm8]
     _=s.p*d*m:=by rw [Int.mul_assoc]
     _=n*100*s.q*m:=by rw [f3]
     _=(n*m)*s.q*100:=by ac_rfl
   exact Int.eq_of_mul_eq_mul_right (by decide) x1
  have hnm:0<=n*m/\n*m<=100000000:=by
   have hm0:0<=m:=by
    rcases Int.lt_or_le m 0 with h | h
    ·have:=Int.mul_neg_of_pos_of_neg (show 0 < d by omega) h
     omega
    ·exact h
   refine ⟨Int.mul_nonneg h0 hm0,?_⟩
   have:=Int.mul_le_mul_of_nonneg_right h1 hm0
   omega
  have ht:((tp (6:Int).toNat:Nat):Int)=1000000:=rfl
  have hdiv:(n*m)*s.q / s.q=n*m:=Int.mul_ediv_cancel _ (by omega)
  have hlen:¬ 15 < (iL 6 (iO (n*m).natAbs)).length - 6:=by
   have h9:=tk (k:=9) (N:=(n*m).natAbs) (by decide) (by omega)
   unfold iL
   split
   ·rename_i h
    simp only [List.length_append,List.length_replicate]
    omega
   ·omega
  unfold j8 qF
  rw [hm,f1,e2]
  unfold iX
  rw [f2,ht,hz,hdiv]
  have ez:(zI (n*m) 6).2=0:=by
   unfold zI
   simp only []
   rw [if_neg hlen]
  simp [Int.not_lt.2 hp0]
  rw [if_pos ez]
 ·obtain ⟨r,e1,e2,e3,e4,e5⟩:=mq (show 0 < d by omega) bn bd
  obtain ⟨-,-,q1,-,-⟩:=RQ.ok_bits e2
  rw [e1]
  have hp0:0<=r.p:=by
   have:0<=r.p*d:=by rw [e3];exact Int.mul_nonneg h0 (by omega)
   exact Int.nonneg_of_mul_nonneg_left this (by omega)
  have hp1:r.p<=r.q:=by
   have:r.p*d<=r.q*d:=by rw [e3,Int.mul_comm];exact Int.mul_le_mul_of_nonneg_left h1 (by omega)
   exact Int.le_of_mul_le_mul_right this (by omega)
  unfold dE
  rw [e2]
  simp
  omega
def iH (a i:Nat):List (List UInt8):=(List.range i).map fun j=>bO.getD ((a+j) % 4) []
theorem zO (a i:Nat):(iH a i).length=i:=by simp [iH]
theorem xj (a i:Nat):iH a (i+1)=iH a i++[bO.getD ((a+i) % 4) []]:=by simp [iH,List.range_succ]
theorem zM {a i:Nat} {s:List UInt8} (h:s∈iH a i):s∈bO:=by
 unfold iH at h
 rw [List.mem_map] at h
 obtain ⟨j,-,rfl⟩:=h
 have hj:(a+j) % 4 < 4:=Nat.mod_lt _ (by decide)
 generalize (a+j) % 4=k at *
 rcases k with _ | _ | _ | _ | k
 ·decide
 ·decide
 ·decide
 ·decide
 ·omega
theorem Gn {p:PL} (h1:0 < p.srcs.length) (h2:p.srcs.length<=8) (h3:gX p.srcs=true) (h4:uA p.tol) (h5:0<=p.stale/\p.stale<=30):bc p=true:=by
 unfold bc
 rw [decide_eq_true h1,decide_eq_true h2,h3,h4.2.1,h4.2.2,decide_eq_true h5.1,decide_eq_true h5.2];rfl
theorem Di {a i:Nat} (ha:a < 4) (h1:1<=i) (h4:i<=4):gX (iH a i)=true:=by
 have ha:a=0\/a=1\/a=2\/a=3:=by omega
 have hi:i=1\/i=2\/i=3\/i=4:=by omega
 clear h1 h4
 rcases ha with h | h | h | h<;>rcases hi with h' | h' | h' | h'<;>rw [h,h']<;>decide
theorem vY {a b c d':RQ}:Ln 22 33 (gd [a,b,c,d']) 264 4 1 (RA (·∈[a,b,c,d'])):=by
 intro zs k hk
 obtain ⟨r,k',h4,h5,⟨i,rfl,h6,h7⟩,hO⟩:=bQ (n:=4) (by decide) zs k hk
 have hi:i.toNat < [a,b,c,d'].length:=by show i.toNat < 4;omega
 refine ⟨_,k',h4,h5,⟨[a,b,c,d'][i.toNat],rfl,List.getElem_mem hi⟩,fun E v d e hde hE hv=>?_⟩
 refine pb [] ai ak Q5 E hE d e hde (53,2,tb v k,tb v k') (33,264,gd [a,b,c,d'],gd [a,b,c,d']) [SV.ptr 1000 0,SV.sl 1001 0 4 4] _ rfl rfl fun w b b' hT=>?_
 have:=hO _ v 1000 rfl (hv.of_old hE.symm hT)
 have hoff:0+i.toNat*66+66<=264:=by omega
 exact ⟨nofun,fun _=>.inr ⟨_,_,_,this,⟨rfl,trivial⟩,rfl,h6,by show i < 4;omega,hoff,_,sI hi,RQ.A_fits _,rfl,rfl,rfl,trivial⟩⟩
theorem uz:Gen 199 [] 5 (RA uA):=by
 intro zs k hk
 obtain ⟨r1,k1,a1,b1,⟨i1,rfl,c1⟩,O1⟩:=dX (xs:=[1,4,10,20,100,200,1000,10000,100000000]) (by decide) (by decide) zs k (by omega)
 have h1:1<=i1/\i1<=100000000:=by simp at c1;omega
 have h8:i1 ∣ 100000000:=by simp at c1;rcases c1 with h | h | h | h | h | h | h | h | h<;>rw [h]<;>decide
 obtain ⟨r2,k2,a2,b2,⟨ch,rfl⟩,O2⟩:=cU (a:=3) (b:=4) (by decide) zs k1 (by omega)
 cases ch
 ·obtain ⟨r3,k3,a3,b3,⟨i3,rfl,c3⟩,O3⟩:=bQ (n:=i1+1) (by omega) zs k2 (by omega)
  have M:=dT (n:=i3) (d:=i1) (by omega) (by omega) (by omega) (by omega)
  refine ⟨_,k3,by omega,by omega,⟨_,rfl,sR (n:=i3) (d:=i1) (by omega) (by omega) (by omega) h8⟩,fun E v d hE hv=>?_⟩
  refine aQ [] ai ak Mf E hE d (53,2,tb v k,tb v k3) [SV.ptr 1000 0] _ rfl rfl fun w b hT=>?_
  have hv:=hv.of_old hE.symm hT
  have O:=O3 _ v 1000 rfl hv
  rw [show i1+1=IntKind.i64.wrap (i1+1) from (i64_in (by omega)).symm] at O
  have RF:=(mkQ i3 i1).1.A_fits
  generalize (mkQ i3 i1).1.A=RA' at *
  exact ⟨by decide,by decide,cd [1,4,10,20,100,200,1000,10000,100000000],by kernel_rfl,rfl,.inr ⟨_,_,_,O1 _ v 1000 5 (by decide) rfl hv,⟨rfl,rfl,trivial⟩,rfl,.inr ⟨_,_,_,O2 _ v 1000 rfl hv,⟨rfl,trivial⟩,rfl,fun h=>absurd h (by decide),fun _=>.inr ⟨_,_,_,O,⟨rfl,trivial⟩,rfl,.inl ⟨_,M,RF,rfl,rfl,trivial⟩⟩⟩⟩⟩
 ·obtain ⟨r4,k4,a4,b4,⟨i4,rfl,c4⟩,O4⟩:=dX (xs:=[50,100,200,1000]) (by decide) (by decide) zs k2 (by omega)
  have h4:50<=i4/\i4<=1000:=by simp at c4;omega
  have h8:i4 ∣ 100000000:=by simp at c4;rcases c4 with h | h | h | h<;>rw [h]<;>decide
  have hq:i4.tdiv 10=i4 / 10:=Int.tdiv_eq_ediv_of_nonneg (by omega)
  obtain ⟨r3,k3,a3,b3,⟨i3,rfl,c3⟩,O3⟩:=bQ (n:=i4 / 10+1) (by omega) zs k4 (by omega)
  have M:=dT (n:=i3) (d:=i4) (by omega) (by omega) (by omega) (by omega)
  refine ⟨_,k3,by omega,by omega,⟨_,rfl,sR (n:=i3) (d:=i4) (by omega) (by omega) (by omega) h8⟩,fun E v d hE hv=>?_⟩
  refine aQ [] ai ak Mf E hE d (53,2,tb v k,tb v k3) [SV.ptr 1000 0] _ rfl rfl fun w b hT=>?_
  have hv:=hv.of_old hE.symm hT
  have O:=O3 _ v 1000 rfl hv
  rw [show i4 / 10+1=IntKind.i64.wrap (IntKind.i64.wrap (i4.tdiv 10)+1) by rw [hq,i64_in (show -9223372036854775808<=i4 / 10/\i4 / 10<=9223372036854775807 by omega),i64_in (by omega)]] at O
  have RF:=(mkQ i3 i4).1.A_fits
  generalize (mkQ i3 i4).1.A=RA' at *
  exact ⟨by decide,by decide,cd [1,4,10,20,100,200,1000,10000,100000000],by kernel_rfl,rfl,.inr ⟨_,_,_,O1 _ v 1000 5 (by decide) rfl hv,⟨rfl,rfl,trivial⟩,rfl,.inr ⟨_,_,_,O2 _ v 1000 rfl hv,⟨rfl,trivial⟩,rfl,fun _=>⟨by decide,by decide,cd [50,100,200,1000],by kernel_rfl,rfl,.inr ⟨_,_,_,O4 _ v 1000 10 (by decide) rfl hv,⟨rfl,rfl,trivial⟩,rfl,by decide,.inr ⟨_,_,_,O,⟨rfl,trivial⟩,rfl,.inl ⟨_,M,RF,rfl,rfl,trivial⟩⟩⟩⟩,fun h=>absurd h (by decide)⟩⟩⟩
theorem AH (a b c d':RQ):Instr.fill (fun k=>some (k*cR.size,cR.size)) (madeCells cR.zero (4*cR.size)) [(0,.agg a.A),(1,.agg b.A),(2,.agg c.A),(3,.agg d'.A)]=some (gd [a,b,c,d']):=by
 have hs:(madeCells cR.zero (4*cR.size)).size=264:=by kernel_rfl
 have:=ld (pl:=fun k=>some (k*cR.size,cR.size)) (vs:=[.agg a.A,.agg b.A,.agg c.A,.agg d'.A]) (Z:=madeCells cR.zero (4*cR.size)) ⟨by simp [Value.cells,RQ.A_size];rfl,by simp [Value.cells,RQ.A_size];rfl,by simp [Value.cells,RQ.A_size];exact ⟨rfl,rfl⟩,by simp [Value.cells,RQ.A_size];exact ⟨rfl,rfl⟩,trivial⟩ (by rw [hs];simp [ir,Value.cells,RQ.A_size])
 rw [show ir [.agg a.A,.agg b.A,.agg c.A,.agg d'.A]=gd [a,b,c,d'] by simp [ir,gd,Value.cells]] at this
 exact this
theorem Ed (r:RQ) (n:Int) {pl:List (Nat×Nat)} (hpl:pl=[(0,1),(1,66),(67,1)]):Instr.fill (fun k=>pl[k]?) Jo.zero [(1,.agg r.A),(2,.int .i64 n)]=some (PL.A ⟨[],r,n⟩ (.slice none 0 0)):=by
 subst hpl
 kernel_rfl
theorem PL.set0 (p:PL) (v u:Value):(p.A v).setIfInBounds (0+0) u=p.A u:=by kernel_rfl
theorem TN:PL.A ⟨[],RQ.of 0 0,0⟩ (.slice none 0 0)=Jo.zero:=by kernel_rfl
def U9 (k:Nat) (v:Value) (x:Value) (U:aA):Prop:=∃ (p:PL) (y:Value) (n k':Nat),k<=k'/\k'<=k+20/\p.In/\bc p=true/\(∀ y∈p.srcs,y∈bO)/\IsL y n/\n=p.srcs.length/\1<=n/\n<=4/\x=.agg (p.A y)/\U=[(1000,Blk.row 53 2 (tb v k')),(9101,Blk.own y 9 1 n (cat bF p.srcs))]
theorem Gm {E:Env} (hE:E.P=Tryz.prog) {v:Value} {zs:List Int} (hv:Tp E v zs) {k:Nat} (hk:k+20<=4000000000000000000):OwnC E 139 [SV.ptr 1000 0] [(1000,Blk.row 53 2 (tb v k))] (U9 k v):=by
 refine aD [] ai ak Sn E hE [SV.ptr 1000 0] [(1000,Blk.row 53 2 (tb v k))] _ rfl rfl fun w X β hT=>?_
 have hv':Tp (aY Tryz.prog tt Tryz.f139.ntmps w X (aJ [(1000,Blk.row 53 2 (tb v k))] β)).toEnv v zs:=hv.of_old hE.symm hT
 obtain ⟨r1,k1,a1,b1,⟨pc,rfl,c1⟩,O1⟩:=uz zs k (by omega)
 have M1:=dT (n:=0) (d:=1) (by decide) (by decide) (by decide) (by decide)
 have M2:=dT (n:=3) (d:=100) (by decide) (by decide) (by decide) (by decide)
 have M3:=dT (n:=1) (d:=2) (by decide) (by decide) (by decide) (by decide)
 obtain ⟨r2,k2,a2,b2,⟨tol,rfl,c2⟩,O2⟩:=vY (a:=(mkQ 0 1).1) (b:=(mkQ 3 100).1) (c:=(mkQ 1 2).1) (d':=pc) zs k1 (by omega)
 have c2:uA tol:=by
  simp at c2
  rcases c2 with h | h | h | h<;>rw [h]
  ·exact sR (by decide) (by decide) (by decide) (by decide)
  ·exact sR (by decide) (by decide) (by decide) (by decide)
  ·exact sR (by decide) (by decide) (by decide) (by decide)
  ·exact c1
 obtain ⟨r3,k3,a3,b3,⟨stale,rfl,c3⟩,O3⟩:=dX (xs:=[0,1,2,5,30]) (by decide) (by decide) zs k2 (by omega)
 obtain ⟨r4,k4,a4,b4,⟨at_,rfl,c4⟩,O4⟩:=bQ (n:=4) (by decide) zs k3 (by omega)
 have hst:0<=stale/\stale<=30:=by simp at c3;omega
 have R4:=AH (mkQ 0 1).1 (mkQ 3 100).1 (mkQ 1 2).1 pc
 have R5:(gd [(mkQ 0 1).1,(mkQ 3 100).1,(mkQ 1 2).1,pc]).size=264:=by simp [gd,RQ.A_size]
 have P0:=Ed tol stale (pl:=[(0,1),(1,66),(67,1)]) rfl
 have PF:=(⟨[],tol,stale⟩:PL).fits (v:=.slice none 0 0) rfl
 have PI:∀ l:List (List UInt8),(∀ y∈l,y∈bO)->(⟨l,tol,stale⟩:PL).In:=fun l hl=>⟨c2.1,fun y hy=>by have:=hl y hy;simp [bO] at this;rcases this with h | h | h | h<;>rw [h]<;>decide,by show (-9223372036854775808:Int)<=stale/\stale<=9223372036854775807;omega⟩
 generalize gd [(mkQ 0 1).1,(mkQ 3 100).1,(mkQ 1 2).1,pc]=RS4 at *
 generalize (mkQ 0 1).1.A=RA1 at *
 generalize (mkQ 3 100).1.A=RA2 at *
 generalize (mkQ 1 2).1.A=RA3 at *
 refine .inl ⟨_,M1,.inl ⟨_,M2,.inl ⟨_,M3,.inr (.inl ⟨_,_,_,O1 _ v 1000 rfl hv',⟨rfl,trivial⟩,rfl,?_⟩)⟩⟩⟩
 refine .inl ⟨by decide,by decide,RS4,R4,R5,.inr (.inl ⟨_,_,_,O2 _ v 1000 13 (by decide) rfl hv',⟨rfl,rfl,trivial⟩,rfl,?_⟩)⟩
 refine .inl ⟨by decide,by decide,cd [0,1,2,5,30],by kernel_rfl,rfl,.inr (.inl ⟨_,_,_,O3 _ v 1000 16 (by decide) rfl hv',⟨rfl,rfl,trivial⟩,rfl,_,P0,PF,?_⟩)⟩
 refine .inr (.inl ⟨_,_,_,dB _ rfl 7777,trivial,rfl,?_⟩)
 refine .inr (.inl ⟨_,_,_,O4 _ v 1000 rfl hv',⟨rfl,trivial⟩,rfl,?_⟩)
 clear R4 R5 P0 O1 O2 O3 O4
 refine ⟨fun q f m=>∃ (i k5:Nat) (l:List (List UInt8)) (y:Value),q=4 - i/\i<=4/\k<=k5/\k5<=k+12+i/\IsL y i/\l=iH at_.toNat i/\f=[(0,SV.ptr 1000 0),(2,SV.ptr 2 0),(3,SV.ptr 3 0),(4,SV.sl 7777 0 4 4),(5,SV.c (.int .i64 at_)),(6,SV.c (.int .i64 (i:Nat)))]/\m=[(9101,Blk.own y 9 1 i (cat bF l)),(1000,Blk.row 53 2 (tb v k5)),(3,Blk.row 35 68 (PL.A ⟨l,tol,stale⟩ y)),(2,Blk.row 35 68 (PL.A ⟨[],RQ.of 0 0,0⟩ (.slice none 0 0))),(7777,Blk.row 9 4 (cat bF bO))],4,⟨_,_,⟨0,k4,[],.slice none 0 0,by omega,by omega,by omega,by omega,.nil,rfl,rfl,rfl⟩,⟨rfl,rfl,rfl,rfl,rfl,rfl,trivial⟩,⟨.inr ⟨rfl,rfl,rfl⟩,rfl,rfl,congrArg (fun A=>some (Blk.row 35 68 A)) TN.symm,rfl,trivial⟩,rfl⟩,?_⟩
 rintro q f m ⟨i,k5,l,y,rfl,hi,hk1,hk2,hy,hla,rfl,rfl⟩
 have hl:l.length=i:=by rw [hla,zO]
 have hls:∀ y∈l,y∈bO:=fun y h=>zM (by rw [<- hla];exact h)
 obtain ⟨r6,k6,a6,b6,⟨i6,rfl,c6⟩,O6⟩:=bQ (n:=4) (by decide) zs k5 (by omega)
 have e6:IntKind.i64.wrap (1+i6)=1+i6:=i64_in (by omega)
 have G0:=PL.g0 ⟨l,tol,stale⟩ y
 have S0:=fun u=>PL.set0 ⟨l,tol,stale⟩ y u
 have PF2:Fits (PL.A ⟨l,tol,stale⟩ y) 68:=by obtain ⟨ya,yc,rfl⟩:=hy.len;exact PL.fits _ rfl
 generalize hPA:PL.A ⟨l,tol,stale⟩ y=PA at *
 refine .inr (.inl ⟨_,_,_,O6 _ v 1000 rfl hv',⟨rfl,trivial⟩,rfl,fun h=>?_,fun h=>?_⟩)
 ·have h:(i:Int) < IntKind.i64.wrap (1+i6):=af h
  rw [e6] at h
  have hi3:i<=3:=by omega
  obtain ⟨aj,rfl⟩:∃ j:Nat,at_=j:=⟨at_.toNat,by omega⟩
  have ew:(IntKind.i64.wrap (((aj:Nat):Int)+(i:Int))).tmod 4=(((aj+i) % 4:Nat):Int):=by
   rw [i64_in (by omega),Int.tmod_eq_emod_of_nonneg (by omega)];omega
  obtain ⟨src,hs⟩:∃ s,bO[(aj+i) % 4]? = some s:=⟨_,List.getElem?_eq_getElem (show (aj+i) % 4 < 4 by omega)⟩
  have g1:(cat bF bO)[aO 0 (((aj+i) % 4:Nat):Int) ti9.size]? = some (.string (S src)):=by
   have:=dV dj bO ((aj+i) % 4) src 0 hs (by decide)
   rw [iC 0 ((aj+i) % 4)]
   simpa [bF] using this
  have hlb:l++[src]=iH ((aj:Nat):Int).toNat (i+1):=by rw [xj,<- hla];show _=l++[bO.getD ((aj+i) % 4) []];rw [List.getD_eq_getElem?_getD,hs];rfl
  generalize hX:cat bF bO=XA at *
  refine ⟨_,G0,by decide,by rw [ew];omega,by rw [ew];show (((aj+i) % 4:Nat):Int) < ((4:Nat):Int);omega,_,(by rw [ew];exact g1),.inl ⟨by decide,by decide,_,qR src,rfl,by decide,9101,i,_,.inl rfl,by decide,gP src,rfl,_,sn src,?_⟩⟩
  obtain ⟨q,hq,hb⟩:=s6
  refine ⟨by omega,by unfold maxLen;omega,⟨q,hq,by rw [hb];omega⟩,by change _=true;kernel_rfl,fun g2 cap2=>?_⟩
  refine ⟨by decide,rfl,_,S0 _,by kernel_rfl,?_⟩
  refine ⟨4 - (i+1),_,_,by omega,⟨i+1,k6,l++[src],_,rfl,by omega,by omega,by omega,.some,hlb,rfl,rfl⟩,⟨rfl,rfl,rfl,rfl,rfl,ar (ax (by omega)),trivial⟩,⟨.inl (bC (fg l src)),rfl,rfl,rfl,rfl,trivial⟩,rfl⟩
 ·have h:¬ (i:Int) < IntKind.i64.wrap (1+i6):=ag h
  rw [e6] at h
  have hPO:bc ⟨l,tol,stale⟩=true:=Gn (by show 0 < l.length;omega) (by show l.length<=8;omega) (by show gX l=true;rw [hla];exact Di (by omega) (by omega) (by omega)) c2 hst
  refine ⟨PF2,[(1000,Blk.row 53 2 (tb v k6)),(9101,Blk.own y 9 1 i (cat bF l))],[],⟨⟨l,tol,stale⟩,y,i,k6,by omega,by omega,PI l hls,hPO,hls,hy,hl.symm,by omega,by omega,by rw [hPA];rfl,rfl⟩,⟨rfl,.inl rfl,trivial⟩,rfl⟩
def Vc (n:Nat) (k:Nat) (day:Int) (v:Value) (x:Value) (U:aA):Prop:=∃ (xs:List QC) (k':Nat) (last:Int),k<=k'/\k'<=k+300/\IsL x (6+n)/\xs.length=6+n/\IsBook day last xs/\6<=last/\last<=60/\U=[(1000,Blk.row 53 2 (tb v k')),(3000,Blk.own x 63 72 (6+n) (cat QC.A xs))]
theorem Nl {E:Env} (hE:E.P=Tryz.prog) {v:Value} {zs:List Int} (hv:Tp E v zs) {n k:Nat} (hn:n<=7) (hk:k+300<=4000000000000000000) {day:Int} (hD:0<=day/\day<=73048):OwnC E 68 [SV.ptr 1000 0,SV.c (.int .i64 (n:Nat)),SV.c (.int .i64 day)] [(1000,Blk.row 53 2 (tb v k))] (Vc n k day v):=by
 refine aD [] ai ak Ur E hE [SV.ptr 1000 0,SV.c (.int .i64 (n:Nat)),SV.c (.int .i64 day)] [(1000,Blk.row 53 2 (tb v k))] _ rfl rfl fun w X β hT=>?_
 have hv':Tp (aY Tryz.prog tt Tryz.f68.ntmps w X (aJ [(1000,Blk.row 53 2 (tb v k))] β)).toEnv v zs:=hv.of_old hE.symm hT
 refine .inl ⟨by decide,by decide,kN gV,by kernel_rfl,rfl,?_⟩
 refine ⟨fun q f m=>∃ (i k2:Nat) (xs:List QC) (x:Value),q=6 - i/\i<=6/\k<=k2/\k2<=k+5*i/\IsL x i/\xs.length=i/\IsBook day ((i:Nat):Int) xs/\f=[(0,SV.ptr 1000 0),(1,SV.c (.int .i64 (n:Nat))),(2,SV.c (.int .i64 day)),(7,SV.c x),(8,SV.sl 13 0 6 6),(9,SV.c (.int .i64 (i:Nat)))]/\m=[(1000,Blk.row 53 2 (tb v k2)),(3000,Blk.own x 63 72 i (cat QC.A xs)),(13,Blk.row 9 6 (kN gV))],6,⟨_,_,⟨0,k,[],.slice none 0 0,by omega,by omega,by omega,by omega,.nil,rfl,⟨fun a h=>by simp at h,by simp,fun a h=>by simp at h⟩,rfl,rfl⟩,⟨rfl,rfl,rfl,rfl,rfl,rfl,trivial⟩,⟨rfl,.inr ⟨rfl,rfl,rfl⟩,rfl,trivial⟩,rfl⟩,?_⟩
 rintro q f m ⟨i,k2,xs,x,rfl,hi,hk1,hk2,hx,hxs,hb,rfl,rfl⟩
 refine ⟨fun h=>?_,fun h=>?_⟩
 ·have h:i < 6:=by have:=af h;omega
  obtain ⟨r3,k3,a3,b3,⟨price,rfl,c3⟩,O3⟩:=rI zs k2 (by omega)
  have e3:IntKind.i64.wrap (((i:Nat):Int)+1)=((i+1:Nat):Int):=ax (by omega)
  obtain ⟨ins,hins⟩:∃ s,s=gV[i]:=⟨_,rfl⟩
  have G0:=i0 (xs:=gV) (i:=i) h
  rw [<- hins] at G0
  have him:ins∈gV:=by rw [hins];exact List.getElem_mem h
  have F0:=HR [97] ins day (IntKind.i64.wrap (((i:Nat):Int)+1)) price (pl:=[(0,1),(1,1),(2,1),(3,1),(4,66),(70,1),(71,1)]) rfl
  generalize hz:(⟨[97],ins,[85,83,68],day,price,IntKind.i64.wrap (((i:Nat):Int)+1),false⟩:QC)=z at F0
  have zsrc:z.src=[97]:=by rw [<- hz]
  have zins:z.ins=ins:=by rw [<- hz]
  have zday:z.day=day:=by rw [<- hz]
  have zkn:z.known=((i+1:Nat):Int):=by rw [<- hz];exact e3
  have zvo:z.void=false:=by rw [<- hz]
  have zpr:z.price=price:=by rw [<- hz]
  have zcu:z.cur=[85,83,68]:=by rw [<- hz]
  have mem0:([85,83,68]:List UInt8)∈([[85,83,68],[69,85,82],[71,66,80]]:List (List UInt8)):=by decide
  have mem1:([71,66,80]:List UInt8)∈([[85,83,68],[69,85,82],[71,66,80]]:List (List UInt8)):=by decide
  clear hz
  have isq:∀ (cur:List UInt8),cur∈([[85,83,68],[69,85,82],[71,66,80]]:List (List UInt8))->go day ((i+1:Nat):Int) { z with cur:=cur }:=fun cur h=>⟨by rw [zsrc];decide,by rw [zins];exact him,h,⟨by rw [zday];exact hD.1,.inl (by rw [zday];omega)⟩,zkn,.inl ⟨zvo,by rw [zpr];exact c3⟩⟩
  have snoc:∀ (cur:List UInt8),cur∈([[85,83,68],[69,85,82],[71,66,80]]:List (List UInt8))->IsBook day ((i+1:Nat):Int) (xs++[{ z with cur:=cur }]):=fun cur hc=>hb.snoc (by omega) (show ((i:Nat):Int) < ((i+1:Nat):Int) by omega) (isq cur hc) hD.1 hD.2 (by omega)
  have zself:({ z with cur:=[85,83,68] }:QC)=z:=by rw [<- zcu]
  have ZF:=z.fits
  have F1:=fun (y:QC)=>lM y
  have F2:=fun (y:QC)=>y.fits.one
  have F3:=fun (y:QC)=>y.ext72
  have F4:∀ y:QC,y.A.size=1*72:=fun y=>y.size
  have F5:∀ y:QC,cat QC.A xs++y.A=cat QC.A (xs++[y]):=fun y=>fg xs y
  obtain ⟨q,hq,hb'⟩:=jk
  have hcap:∀ t:Nat,t<=1000->t*72<=1000000:=fun t ht=>by omega
  obtain ⟨r5,k5,a5,b5,⟨ch,rfl⟩,O5⟩:=cU (a:=1) (b:=4) (by decide) zs k3 (by omega)
  obtain ⟨r6,k6,a6,b6,⟨cur,rfl,c6⟩,O6⟩:=Iq zs k5 (by omega)
  by_cases hg:ins=js
  ·have S2:=QC.set2 z [71,66,80]
   have S3:=QC.set2 ({ z with cur:=[71,66,80] }:QC) cur
   have hgt:((S ins).toList == (S js).toList)=true:=by rw [hg];exact zV js
   have cF1:=F1 ({ z with cur:=cur }:QC)
   have cF2:=F2 ({ z with cur:=cur }:QC)
   have cF3:=F3 ({ z with cur:=cur }:QC)
   have cF4:=F4 ({ z with cur:=cur }:QC)
   have cF5:=F5 ({ z with cur:=cur }:QC)
   have bF1:=F1 ({ z with cur:=[71,66,80] }:QC)
   have bF2:=F2 ({ z with cur:=[71,66,80] }:QC)
   have bF3:=F3 ({ z with cur:=[71,66,80] }:QC)
   have bF4:=F4 ({ z with cur:=[71,66,80] }:QC)
   have bF5:=F5 ({ z with cur:=[71,66,80] }:QC)
   generalize hYC:QC.A ({ z with cur:=cur }:QC)=ZC at *
   generalize hYB:QC.A ({ z with cur:=[71,66,80] }:QC)=ZB at *
   generalize hYA:QC.A z=ZA at *
   clear F1 F2 F3 F4 F5
   refine ⟨by omega,by omega,_,G0,.inr (.inl ⟨_,_,_,O3 _ v 1000 rfl hv',⟨rfl,trivial⟩,rfl,_,F0,ZF,by kernel_rfl,by omega,by omega,_,G0,?_⟩)⟩
   refine ⟨fun _=>⟨by decide,rfl,ZB,S2,?_⟩,fun h=>absurd (hgt.symm.trans h) (by decide)⟩
   refine ⟨fun h4=>.inr (.inl ⟨_,_,_,O5 _ v 1000 rfl hv',⟨rfl,trivial⟩,rfl,fun ht=>.inr (.inl ⟨_,_,_,O6 _ v 1000 rfl hv',⟨rfl,trivial⟩,rfl,by decide,rfl,ZC,S3,?_⟩),fun ht=>?_⟩),fun h4=>⟨fun h=>absurd h (by decide),fun _=>?_⟩⟩
   ·refine .inl ⟨by decide,by decide,_,cF1,cF4,by decide,3000,i,_,.inl rfl,by decide,cF2,cF4,_,cF3,?_⟩
    refine ⟨by omega,by unfold maxLen;omega,⟨q,hq,by rw [hb'];omega⟩,trivial,fun g2 cap2=>?_⟩
    exact ⟨6 - (i+1),_,_,by omega,⟨i+1,k6,xs++[({ z with cur:=cur }:QC)],_,rfl,by omega,by omega,by omega,.some,by simp [hxs],snoc _ c6,rfl,rfl⟩,⟨rfl,rfl,rfl,rfl,rfl,ar (ax (by omega)),trivial⟩,⟨rfl,.inl (bC cF5),rfl,trivial⟩,rfl⟩
   ·refine .inl ⟨by decide,by decide,_,bF1,bF4,by decide,3000,i,_,.inl rfl,by decide,bF2,bF4,_,bF3,?_⟩
    refine ⟨by omega,by unfold maxLen;omega,⟨q,hq,by rw [hb'];omega⟩,trivial,fun g2 cap2=>?_⟩
    exact ⟨6 - (i+1),_,_,by omega,⟨i+1,k5,xs++[({ z with cur:=[71,66,80] }:QC)],_,rfl,by omega,by omega,by omega,.some,by simp [hxs],snoc _ mem1,rfl,rfl⟩,⟨rfl,rfl,rfl,rfl,rfl,ar (ax (by omega)),trivial⟩,⟨rfl,.inl (bC bF5),rfl,trivial⟩,rfl⟩
   ·refine .inl ⟨by decide,by decide,_,bF1,bF4,by decide,3000,i,_,.inl rfl,by decide,bF2,bF4,_,bF3,?_⟩
    refine ⟨by omega,by unfold maxLen;omega,⟨q,hq,by rw [hb'];omega⟩,trivial,fun g2 cap2=>?_⟩
    exact ⟨6 - (i+1),_,_,by omega,⟨i+1,k3,xs++[({ z with cur:=[71,66,80] }:QC)],_,rfl,by omega,by omega,by omega,.some,by simp [hxs],snoc _ mem1,rfl,rfl⟩,⟨rfl,rfl,rfl,rfl,rfl,ar (ax (by omega)),trivial⟩,⟨rfl,.inl (bC bF5),rfl,trivial⟩,rfl⟩
  ·have S3:=QC.set2 z cur
   have hgf:((S ins).toList == (S js).toList)=false:=by rw [eG];exact decide_eq_false hg
   have cF1:=F1 ({ z with cur:=cur }:QC)
   have cF2:=F2 ({ z with cur:=cur }:QC)
   have cF3:=F3 ({ z with cur:=cur }:QC)
   have cF4:=F4 ({ z with cur:=cur }:QC)
   have cF5:=F5 ({ z with cur:=cur }:QC)
   have bF1:=F1 z
   have bF2:=F2 z
   have bF3:=F3 z
   have bF4:=F4 z
   have bF5:=F5 z
   generalize hYC:QC.A ({ z with cur:=cur }:QC)=ZC at *
   generalize hYA:QC.A z=ZA at *
   clear F1 F2 F3 F4 F5
   refine ⟨by omega,by omega,_,G0,.inr (.inl ⟨_,_,_,O3 _ v 1000 rfl hv',⟨rfl,trivial⟩,rfl,_,F0,ZF,by kernel_rfl,by omega,by omega,_,G0,?_⟩)⟩
   refine ⟨fun h=>absurd (hgf.symm.trans h) (by decide),fun _=>?_⟩
   refine ⟨fun h4=>.inr (.inl ⟨_,_,_,O5 _ v 1000 rfl hv',⟨rfl,trivial⟩,rfl,fun ht=>.inr (.inl ⟨_,_,_,O6 _ v 1000 rfl hv',⟨rfl,trivial⟩,rfl,by decide,rfl,ZC,S3,?_⟩),fun ht=>?_⟩),fun h4=>⟨fun h=>absurd h (by decide),fun _=>?_⟩⟩
   ·refine .inl ⟨by decide,by decide,_,cF1,cF4,by decide,3000,i,_,.inl rfl,by decide,cF2,cF4,_,cF3,?_⟩
    refine ⟨by omega,by unfold maxLen;omega,⟨q,hq,by rw [hb'];omega⟩,trivial,fun g2 cap2=>?_⟩
    exact ⟨6 - (i+1),_,_,by omega,⟨i+1,k6,xs++[({ z with cur:=cur }:QC)],_,rfl,by omega,by omega,by omega,.some,by simp [hxs],snoc _ c6,rfl,rfl⟩,⟨rfl,rfl,rfl,rfl,rfl,ar (ax (by omega)),trivial⟩,⟨rfl,.inl (bC cF5),rfl,trivial⟩,rfl⟩
   ·refine .inl ⟨by decide,by decide,_,bF1,bF4,by decide,3000,i,_,.inl rfl,by decide,bF2,bF4,_,bF3,?_⟩
    refine ⟨by omega,by unfold maxLen;omega,⟨q,hq,by rw [hb'];omega⟩,trivial,fun g2 cap2=>?_⟩
    exact ⟨6 - (i+1),_,_,by omega,⟨i+1,k5,xs++[z],_,rfl,by omega,by omega,by omega,.some,by simp [hxs],(by have:=snoc _ mem0;rw [zself] at this;exact this),rfl,rfl⟩,⟨rfl,rfl,rfl,rfl,rfl,ar (ax (by omega)),trivial⟩,⟨rfl,.inl (bC bF5),rfl,trivial⟩,rfl⟩
   ·refine .inl ⟨by decide,by decide,_,bF1,bF4,by decide,3000,i,_,.inl rfl,by decide,bF2,bF4,_,bF3,?_⟩
    refine ⟨by omega,by unfold maxLen;omega,⟨q,hq,by rw [hb'];omega⟩,trivial,fun g2 cap2=>?_⟩
    exact ⟨6 - (i+1),_,_,by omega,⟨i+1,k3,xs++[z],_,rfl,by omega,by omega,by omega,.some,by simp [hxs],(by have:=snoc _ mem0;rw [zself] at this;exact this),rfl,rfl⟩,⟨rfl,rfl,rfl,rfl,rfl,ar (ax (by omega)),trivial⟩,⟨rfl,.inl (bC bF5),rfl,trivial⟩,rfl⟩
 have h:i=6:=by have:=ag h;omega
 subst h
 refine ⟨fun q f m=>∃ (j k3:Nat) (ys:List QC) (y:Value) (known:Int),q=n - j/\j<=n/\k<=k3/\k3<=k+30+30*j/\IsL y (6+j)/\ys.length=6+j/\IsBook day known ys/\6<=known/\known<=6+3*(j:Int)/\f=[(0,SV.ptr 1000 0),(1,SV.c (.int .i64 (n:Nat))),(2,SV.c (.int .i64 day)),(7,SV.c y),(11,SV.c (.int .i64 known)),(12,SV.c (.int .i64 (j:Nat)))]/\m=[(1000,Blk.row 53 2 (tb v k3)),(3000,Blk.own y 63 72 (6+j) (cat QC.A ys))],n,⟨_,_,⟨0,k2,xs,x,6,by omega,by omega,by omega,by omega,hx,hxs,hb,by omega,by omega,rfl,rfl⟩,⟨rfl,rfl,rfl,rfl,rfl,rfl,trivial⟩,⟨rfl,.inl rfl,trivial⟩,rfl⟩,?_⟩
 rintro q f m ⟨j,k3,ys,y,known,rfl,hj,hk3,hk4,hy,hys,hb2,hkn0,hkn,rfl,rfl⟩
 refine ⟨fun h=>?_,fun h=>?_⟩
 ·have h:j < n:=by have:=af h;omega
  obtain ⟨r4,k4,a4,b4,⟨i4,rfl,c4⟩,O4⟩:=bQ (n:=3) (by decide) zs k3 (by omega)
  have e3:IntKind.i64.wrap (known+IntKind.i64.wrap (1+i4))=known+(1+i4):=by rw [i64_in (show -9223372036854775808<=1+i4/\1+i4<=9223372036854775807 by omega),i64_in (by omega)]
  obtain ⟨r5,k5,a5,b5,⟨z,rfl,c5⟩,O5⟩:=vW (day:=day) (known:=known+(1+i4)) (by omega) zs k4 (by omega)
  have hb3:=hb2.snoc (by omega) (show known < known+(1+i4) by omega) c5 hD.1 hD.2 (by omega)
  rw [<- e3] at O5
  have F1:=lM z
  have F2:=z.fits.one
  have F3:=z.ext72
  have F4:z.A.size=1*72:=z.size
  have F5:cat QC.A ys++z.A=cat QC.A (ys++[z]):=fg ys z
  generalize hY:z.A=YA at *
  refine .inr (.inl ⟨_,_,_,O4 _ v 1000 rfl hv',⟨rfl,trivial⟩,rfl,?_⟩)
  refine .inr (.inl ⟨_,_,_,O5 _ v 1000 rfl hv',⟨rfl,trivial⟩,rfl,.inl ⟨by decide,by decide,_,F1,F4,by decide,3000,6+j,_,.inl rfl,by decide,F2,F4,_,F3,?_⟩⟩)
  obtain ⟨q,hq,hb'⟩:=jk
  refine ⟨by omega,by unfold maxLen;omega,⟨q,hq,by rw [hb'];omega⟩,trivial,fun g2 cap2=>?_⟩
  exact ⟨n - (j+1),_,_,by omega,⟨j+1,k5,ys++[z],_,known+(1+i4),rfl,by omega,by omega,by omega,.some,by simp [hys];omega,hb3,by omega,by omega,rfl,rfl⟩,⟨rfl,rfl,rfl,rfl,ar e3,ar (ax (by omega)),trivial⟩,⟨rfl,.inl (bC F5),trivial⟩,rfl⟩
 ·have h:j=n:=by have:=ag h;omega
  subst h
  exact ⟨[(1000,Blk.row 53 2 (tb v k3)),(3000,Blk.own y 63 72 (6+j) (cat QC.A ys))],[],⟨ys,k3,known,by omega,by omega,hy,hys,hb2,by omega,by omega,rfl⟩,⟨rfl,.inl rfl,trivial⟩,rfl⟩
theorem CM {last:Int}:∀ {l:List MK},(∀ m∈l,1<=m.key.length/\m.key.length<=64/\last < m.known/\m.known<=2147483647)->l.Pairwise (fun a b=>a.known < b.known)->iQ last l=true
 | [],_,_=>rfl
 | m :: r,h,hp=>by
  obtain ⟨h1,h2,h3,h4⟩:=h m (by simp)
  rw [List.pairwise_cons] at hp
  unfold iQ gZ
  rw [decide_eq_true h1,decide_eq_true h2,decide_eq_true h3,decide_eq_true h4]
  simp only [Bool.true_and]
  exact CM (fun m' hm'=>⟨(h m' (by simp [hm'])).1,(h m' (by simp [hm'])).2.1,hp.1 m' hm',(h m' (by simp [hm'])).2.2.2⟩) hp.2
theorem Iu {xs:List QC} (hv:∀ q∈xs,dl q=true) (hl:xs.length<=4096) (hp:xs.Pairwise (fun a b=>a.known < b.known)):cf xs=0:=by
 unfold cf
 rw [if_pos (by rw [List.all_eq_true];exact hv)]
 unfold jL
 rw [if_neg (by rw [List.length_map];omega),if_pos]
 refine CM (fun m hm=>?_) ?_
 ·obtain ⟨q,hq,rfl⟩:=List.mem_map.1 hm
  have hvq:=hv q hq
  unfold dl at hvq
  rw [Bool.and_eq_true] at hvq
  obtain ⟨h1,h2,h3,h4⟩:=kS hvq.1
  have h5:=oa h1
  have h6:=Cm h2
  have h7:=hvq.2
  unfold DU at h7
  simp only [Bool.and_eq_true,decide_eq_true_eq] at h7
  have hk:(dz q).key.length=q.src.length+(q.ins.length+12):=by
   show (ow q).length=_
   unfold ow
   simp only [List.length_append,List.length_cons,yR]
  refine ⟨by omega,by omega,?_,?_⟩
  ·show 0 < q.known;omega
  ·exact h7.2
 ·rw [List.pairwise_map]
  exact hp
theorem xH {dd kn:Int} {q:QC} (h:go dd kn q) (hd:q.day<=73048) (h1:1<=kn) (h2:kn<=2147483647):dl q=true:=by
 obtain ⟨a1,a2,a3,a4,a5,a6⟩:=h
 unfold dl bW DU
 have u1:cQ q.src=true:=by
  simp [bO] at a1;rcases a1 with h | h | h | h<;>rw [h]<;>decide
 have u2:cB q.ins=true:=by
  simp [gV] at a2;rcases a2 with h | h | h | h | h | h<;>rw [h]<;>decide
 have u3:aF q.cur=true:=by
  simp at a3;rcases a3 with h | h | h<;>rw [h]<;>decide
 rw [u1,u2,u3,a5,decide_eq_true a4.1,decide_eq_true hd,decide_eq_true h1,decide_eq_true h2]
 rcases a6 with ⟨v,p⟩ | ⟨v,p⟩
 ·obtain ⟨n,d,e,g1,g2,g3,g4,g5,g6,g7,g8⟩:=Gl p
  rw [v]
  have:pA q.price=true:=by
   unfold pA sgn
   rw [g6,if_neg (by omega),if_neg (by omega)];rfl
  simp [this]
 ·rw [v,p];rfl
theorem qh {day last:Int} {xs:List QC} (h:IsBook day last xs) (hl:last<=100000) (hn:xs.length<=4096):cf xs=0:=by
 refine Iu (fun q hq=>?_) hn h.up
 obtain ⟨dd,kn,h1,h2,h3,h4⟩:=h.each q hq
 have hk:=h.bd q hq
 refine xH h1 ?_ (by rw [<- h1.2.2.2.2.1];exact hk.1) (by rw [<- h1.2.2.2.2.1];omega)
 rcases h1.2.2.2.1.2 with h5 | h5<;>omega
theorem rm (k:Int) (key:List UInt8) (m:MK):∀ (r:List MK) (i:Nat) (a:Int),jH k key i (r++[m]) a=if m.known<=k/\m.key=key then ((i+r.length:Nat):Int) else jH k key i r a
 | [],i,a=>rfl
 | z :: r,i,a=>by
  rw [List.cons_append,jH,rm k key m r,jH,List.length_cons]
  rw [show i+1+r.length=i+(r.length+1) by omega]
theorem Ja {k:Int} {xs:List QC} {q:QC} {i:Nat} (hi:i < xs.length) (h:k < q.known\/ow (xs[i])≠ow q):rr ((xs++[q]).map dz) k i=rr (xs.map dz) k i:=by
 unfold rr
 rw [List.getElem?_map,List.getElem?_map,List.getElem?_append_left hi,List.getElem?_eq_getElem hi]
 simp only [Option.map_some]
 unfold Ci
 rw [List.map_append,List.map_cons,List.map_nil,rm,if_neg]
 rintro ⟨h1,h2⟩
 rcases h with h | h
 ·have h1:q.known<=k:=h1
  omega
 ·exact h h2.symm
theorem yG {α β:Type} {f g:α->Option β}:∀ {l:List α},(∀ x∈l,f x=g x)->l.filterMap f=l.filterMap g
 | [],_=>rfl
 | x :: r,h=>by
  rw [List.filterMap_cons,List.filterMap_cons,h x (by simp),yG fun y hy=>h y (by simp [hy])]
theorem wY {xs:List QC} {q:QC} {k:Int} {alive:QC->Bool} (h0:cf xs=0) (h1:cf (xs++[q])=0) (hd:k < q.known\/(alive q=false/\∀ x∈xs,alive x=true->ow x≠ow q)):(eQ (xs++[q]) k).filter alive=(eQ xs k).filter alive:=by
 unfold eQ
 rw [if_pos h0,if_pos h1]
 unfold kb rq
 rw [List.filterMap_filter,List.filter_filterMap,List.filterMap_filter,List.filter_filterMap]
 rw [List.length_map,List.length_map,List.length_append,List.length_singleton,List.range_succ,List.filterMap_append]
 have e1:List.filterMap (fun x=>Option.filter alive (if rr (List.map dz (xs++[q])) k x=true then (xs++[q])[x]? else none)) [xs.length]=[]:=by
  rw [List.filterMap_cons]
  have:Option.filter alive (if rr (List.map dz (xs++[q])) k xs.length=true then (xs++[q])[xs.length]? else none)=none:=by
   rw [List.getElem?_append_right (Nat.le_refl _),Nat.sub_self]
   split
   ·rename_i hv
    unfold rr at hv
    rw [List.getElem?_map,List.getElem?_append_right (Nat.le_refl _),Nat.sub_self] at hv
    rcases hd with hd | hd
    ·simp only [List.getElem?_cons_zero,Option.map_some,Bool.and_eq_true,decide_eq_true_eq] at hv
     have:q.known<=k:=hv.2.1
     omega
    ·simp [hd.1]
   ·rfl
  rw [this];rfl
 rw [e1,List.append_nil]
 apply yG
 intro i hi
 have hi:=List.mem_range.1 hi
 rw [List.getElem?_append_left hi,List.getElem?_eq_getElem hi]
 by_cases hk:k < q.known\/ow (xs[i])≠ow q
 ·rw [Ja hi hk]
 ·have hk1:¬ k < q.known:=fun h=>hk (.inl h)
  have hk2:ow (xs[i])=ow q:=by
   by_cases e:ow (xs[i])=ow q
   ·exact e
   ·exact absurd (.inr e) hk
  rcases hd with hd | ⟨-,hd⟩
  ·exact absurd hd hk1
  ·have ha:alive xs[i]=false:=by
     cases e:alive xs[i] with
     | false=>rfl
     | true=>exact absurd hk2 (hd _ (List.getElem_mem hi) e)
   split<;>split<;>simp [Option.filter,ha]
end Go.Proofs.YtklehfchdoikeaaGreatDoor
