/- the law ValuationLines; no condition. -/
import Derived.Test.YtklehfchdoikeaaGreatDoorP37
set_option maxRecDepth 100000
set_option maxHeartbeats 4000000
namespace Go.Proofs.YtklehfchdoikeaaGreatDoor
open Go Go.RowKit Go.SX
theorem qn {v:Value} {zs:List Int} (w:World) (hv:Tp (aY Tryz.prog tt Tryz.f6.ntmps w [] []).toEnv v zs):Calls Tryz.prog 6 #[v] w fun e w'=>e=.returned (.bool true)/\Below w.heap.size w w':=by
 refine vO [] ai ak at6 [v] _ w rfl ?_
 have hv0:=hv
 obtain ⟨a,cap,rfl,-⟩:=hv0
 refine ⟨_,lL a zs.length cap rfl,rfl,?_⟩
 generalize hvv:Value.slice a zs.length cap=v at *
 refine ⟨fun q f m=>∃ (i k:Nat),q=4 - i/\i<=4/\k<=10000*i/\f=[(3,SV.ptr 7 0),(4,SV.c (.int .i64 (i:Nat)))]/\m=[(7,Blk.row 53 2 (tb v k))],4,⟨_,_,⟨0,0,by omega,by omega,by omega,rfl,rfl⟩,⟨rfl,rfl,trivial⟩,⟨rfl,trivial⟩,rfl⟩,?_⟩
 rintro q f m ⟨i,k,rfl,hi,hk,rfl,rfl⟩
 refine ⟨fun h=>?_,fun h=>?_⟩
 rotate_left
 ·exact .inl ⟨_,fb,rfl,trivial⟩
 have h:i < 4:=by have:=af h;omega
 obtain ⟨r1,k1,a1,b1,⟨i1,rfl,c1⟩,O1⟩:=py (lo:=-1000000) (hi:=1000000) (by decide) (by decide) (by decide) zs k (by omega)
 obtain ⟨r2,k2,a2,b2,⟨i2,rfl,c2⟩,O2⟩:=dX (xs:=[0,1,-1,i1,1000000000000000,-1000000000000001]) (by simp) (by simp) zs k1 (by omega)
 obtain ⟨r3,k3,a3,b3,⟨x1,rfl,c3⟩,O3⟩:=rI zs k2 (by omega)
 obtain ⟨r4,k4,a4,b4,⟨x2,rfl,c4⟩,O4⟩:=BO zs k3 (by omega)
 obtain ⟨r5,k5,a5,b5,⟨x3,rfl,c5⟩,O5⟩:=G7 zs k4 (by omega)
 obtain ⟨r6,k6,a6,b6,⟨p,rfl,c6⟩,O6⟩:=pC (a:=x1) (b:=x2) (c:=x3) (by intro x hx;simp at hx;rcases hx with rfl | rfl | rfl;exact c3.in_;exact c4;exact c5) zs k5 (by omega)
 obtain ⟨r7,k7,a7,b7,⟨x4,rfl,c7⟩,O7⟩:=rI zs k6 (by omega)
 obtain ⟨r8,k8,a8,b8,⟨x5,rfl,c8⟩,O8⟩:=G7 zs k7 (by omega)
 obtain ⟨r9,k9,a9,b9,⟨rt,rfl,c9⟩,O9⟩:=pC (a:=df) (b:=x4) (c:=x5) (by intro x hx;simp at hx;rcases hx with rfl | rfl | rfl;exact wb;exact c7.in_;exact c8) zs k8 (by omega)
 have q2 : -9223372036854775808<=i2/\i2<=9223372036854775807:=by simp at c2;omega
 have LW:=zr q2 c6 c9
 have R1:=tn x1 x2 x3
 have R2:(gd [x1,x2,x3]).size=198:=by simp [gd,RQ.A_size]
 have R3:=tn df x4 x5
 have R4:(gd [df,x4,x5]).size=198:=by simp [gd,RQ.A_size]
 have PF:=p.A_fits
 have RF:=rt.A_fits
 have W1:=Ph
 generalize gd [x1,x2,x3]=RS at *
 generalize gd [df,x4,x5]=RT at *
 generalize x1.A=XA1 at *
 generalize x2.A=XA2 at *
 generalize x3.A=XA3 at *
 generalize x4.A=XA4 at *
 generalize x5.A=XA5 at *
 generalize df.A=XA6 at *
 generalize p.A=PA at *
 generalize rt.A=TA at *
 refine .inr (.inl ⟨_,_,_,O1 _ v 7 rfl hv,⟨rfl,trivial⟩,rfl,?_⟩)
 refine .inl ⟨by decide,by decide,cd [0,1,-1,i1,1000000000000000,-1000000000000001],by kernel_rfl,rfl,.inr (.inl ⟨_,_,_,O2 _ v 7 15 (by decide) rfl hv,⟨rfl,rfl,trivial⟩,rfl,?_⟩)⟩
 refine .inr (.inl ⟨_,_,_,O3 _ v 7 rfl hv,⟨rfl,trivial⟩,rfl,.inr (.inl ⟨_,_,_,O4 _ v 7 rfl hv,⟨rfl,trivial⟩,rfl,.inr (.inl ⟨_,_,_,O5 _ v 7 rfl hv,⟨rfl,trivial⟩,rfl,?_⟩)⟩)⟩)
 refine .inl ⟨by decide,by decide,RS,R1,R2,.inr (.inl ⟨_,_,_,O6 _ v 7 24 (by decide) rfl hv,⟨rfl,rfl,trivial⟩,rfl,?_⟩)⟩
 refine .inl ⟨_,W1,?_⟩
 refine .inr (.inl ⟨_,_,_,O7 _ v 7 rfl hv,⟨rfl,trivial⟩,rfl,.inr (.inl ⟨_,_,_,O8 _ v 7 rfl hv,⟨rfl,trivial⟩,rfl,?_⟩)⟩)
 refine .inl ⟨by decide,by decide,RT,R3,R4,.inr (.inl ⟨_,_,_,O9 _ v 7 32 (by decide) rfl hv,⟨rfl,rfl,trivial⟩,rfl,?_⟩)⟩
 refine .inl ⟨_,LW,nf rfl,fun _=>?_⟩
 exact ⟨4 - (i+1),_,_,by omega,⟨i+1,k9,rfl,by omega,by omega,rfl,rfl⟩,⟨rfl,ar (ax (by omega)),trivial⟩,⟨rfl,trivial⟩,rfl⟩
end Go.Proofs.YtklehfchdoikeaaGreatDoor
