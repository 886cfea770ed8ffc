/- the law ExchangeAmounts; no condition. -/
import Derived.Test.YtjkgmglmgndaoaaGreatDoorP33
set_option maxRecDepth 100000
set_option maxHeartbeats 4000000
namespace Go.Proofs.YtjkgmglmgndaoaaGreatDoor
open Go Go.RowKit Go.SX
theorem exchangeAmounts_f {v:Value} {zs:List Int} (w:World) (hv:Tp (envC Tryz.prog tt Tryz.f10.ntmps w [] []).toEnv v zs):Calls Tryz.prog 10 #[v] w fun e w'=>e=.returned (.bool true)∧Below w.heap.size w w':=by
 refine sx_atX [] tt_ok mixed at10 [v] _ w rfl ?_
 have hv0:=hv
 obtain ⟨a,cap,rfl,-⟩:=hv0
 refine ⟨_,fill_tape a zs.length cap rfl,rfl,?_⟩
 generalize hvv:Value.slice a zs.length cap=v at *
 obtain ⟨r1,k1,a1,b1,⟨x1,rfl,c1⟩,O1⟩:=price_g zs 0 (by omega)
 obtain ⟨r2,k2,a2,b2,⟨x2,rfl,c2⟩,O2⟩:=ratio_g zs k1 (by omega)
 obtain ⟨r3,k3,a3,b3,⟨x3,rfl,c3⟩,O3⟩:=long_g zs k2 (by omega)
 obtain ⟨r4,k4,a4,b4,⟨rate,rfl,c4⟩,O4⟩:=pickratio3_g (a:=x1) (b:=x2) (c:=x3) (by intro x hx;simp at hx;rcases hx with rfl | rfl | rfl;exact c1.in_;exact c2;exact c3) zs k3 (by omega)
 obtain ⟨r5,k5,a5,b5,⟨i5,rfl,c5⟩,O5⟩:=range_g (lo:=-1000000) (hi:=1000000) (by decide) (by decide) (by decide) zs k4 (by omega)
 obtain ⟨r6,k6,a6,b6,⟨i6,rfl,c6⟩,O6⟩:=pick_g (xs:=[1,1,1000,1000000000]) (by decide) (by decide) zs k5 (by omega)
 obtain ⟨r7,k7,a7,b7,⟨mode,rfl,c7⟩,O7⟩:=range_g (lo:=0) (hi:=7) (by decide) (by decide) (by decide) zs k6 (by omega)
 obtain ⟨r8,k8,a8,b8,⟨pr,rfl,c8⟩,O8⟩:=price_g zs k7 (by omega)
 obtain ⟨r9,k9,a9,b9,⟨i9,rfl,c9⟩,O9⟩:=next_g (n:=9) (by decide) zs k8 (by omega)
 obtain ⟨am,ham⟩:∃ am:Int,am=i5*i6:=⟨_,rfl⟩
 have hb : -1000000000000000≤am∧am≤1000000000000000:=by
  simp at c6
  rcases c6 with h | h | h<;>rw [ham,h]<;>omega
 have ew:IntKind.i64.wrap (i5*i6)=am:=by rw [← ham];exact i64_in (by omega)
 have R4:=fill_rats3 x1 x2 x3
 have R5:(rats [x1,x2,x3]).size=198:=by simp [rats,RQ.A_size]
 have C1:=exchangeConverts_f c4 (a:=am) (by omega) mode
 have C2:=Convert_e one_in (a:=am) (by omega) 3
 rw [conv_one hb.1 hb.2] at C2
 have ht : -999999≤am.tmod 1000000∧am.tmod 1000000≤999999:=by
  rcases Int.le_total 0 am with h | h
  ·rw [Int.tmod_eq_emod_of_nonneg h];omega
  ·obtain ⟨b,rfl⟩:∃ b,am=-b:=⟨-am,by omega⟩
   rw [Int.neg_tmod,Int.tmod_eq_emod_of_nonneg (by omega)];omega
 obtain ⟨cx,cy,m1,m2,hle⟩:=conv_mono c8 (a:=am.tmod 1000000) (b:=am.tmod 1000000+i9) (by omega) (by omega) (by omega)
 have e9:IntKind.i64.wrap (am.tmod 1000000+i9)=am.tmod 1000000+i9:=i64_in (by omega)
 have C3:=Convert_e c8.in_ (a:=am.tmod 1000000) (by omega) 6
 have C4:=Convert_e c8.in_ (a:=am.tmod 1000000+i9) (by omega) 6
 rw [m1] at C3
 rw [m2,← e9] at C4
 have RF:=rate.A_fits
 have PF:=pr.A_fits
 generalize rats [x1,x2,x3]=RS at *
 generalize x1.A=XA1 at *
 generalize x2.A=XA2 at *
 generalize x3.A=XA3 at *
 generalize rate.A=RA1 at *
 generalize pr.A=PA1 at *
 rw [← ew] at C1 C2 C3 C4
 refine .inr (.inl ⟨_,_,_,O1 _ v 16 rfl hv,⟨rfl,trivial⟩,rfl,.inr (.inl ⟨_,_,_,O2 _ v 16 rfl hv,⟨rfl,trivial⟩,rfl,.inr (.inl ⟨_,_,_,O3 _ v 16 rfl hv,⟨rfl,trivial⟩,rfl,?_⟩)⟩)⟩)
 refine .inl ⟨by decide,by decide,RS,R4,R5,.inr (.inl ⟨_,_,_,O4 _ v 16 24 (by decide) rfl hv,⟨rfl,rfl,trivial⟩,rfl,RF,?_⟩)⟩
 refine .inr (.inl ⟨_,_,_,O5 _ v 16 rfl hv,⟨rfl,trivial⟩,rfl,?_⟩)
 refine .inl ⟨by decide,by decide,ints [1,1,1000,1000000000],by kernel_rfl,rfl,.inr (.inl ⟨_,_,_,O6 _ v 16 29 (by decide) rfl hv,⟨rfl,rfl,trivial⟩,rfl,?_⟩)⟩
 refine .inr (.inl ⟨_,_,_,O7 _ v 16 rfl hv,⟨rfl,trivial⟩,rfl,?_⟩)
 refine .inl ⟨_,C1,fun h=>absurd (show false=true from h) (by decide),fun _=>?_⟩
 refine .inl ⟨_,one_r,.inl ⟨_,C2,?_⟩⟩
 refine .inr (.inl ⟨_,_,_,O8 _ v 16 rfl hv,⟨rfl,trivial⟩,rfl,PF,?_⟩)
 refine ⟨by decide,.inl ⟨_,C3,?_⟩⟩
 refine ⟨by decide,.inr (.inl ⟨_,_,_,O9 _ v 16 rfl hv,⟨rfl,trivial⟩,rfl,?_⟩)⟩
 refine .inl ⟨_,C4,by kernel_rfl,?_⟩
 refine .inl ⟨_,known_x,fun _=>⟨fun _=>⟨fun _=>?_,fun h=>absurd (show true=false from h) (by decide)⟩,fun h=>absurd (show false=true from h) (by decide)⟩,fun h=>absurd h (by decide)⟩
 refine ⟨fun _=>?_,fun h=>absurd ((beq_self' _).symm.trans h) (by decide)⟩
 refine ⟨fun _=>⟨fun _=>⟨?_,trivial⟩,fun h=>absurd (show true=false from h) (by decide)⟩,fun h=>absurd (show true=false from h) (by decide)⟩
 show mkRes [.bool (decide (cx≤cy))]=_
 rw [decide_eq_true hle];rfl
end Go.Proofs.YtjkgmglmgndaoaaGreatDoor
