/- places in lists. the law Later walked; no condition. -/
import Derived.Test.YtekfkdddadcalaaGreatDoorPositionLaterQ30
set_option maxRecDepth 100000
set_option maxHeartbeats 4000000
namespace Go.Proofs.YtekfkdddadcalaaGreatDoor
open Go Go.RowKit Go.SX
theorem src_eq {E:Env} {m:Mem} {R:List Key} {s:SV} {sz k:Nat} {X Y:Array Value} (h:Go.SX.Src E m R s sz k X) (e:X=Y):Go.SX.Src E m R s sz k Y:=e ▸ h
theorem own_eqm {v:Value} {e:TypeId} {sz n m:Nat} {A B:Array Value} (h:n=m) (h2:A=B):some (Blk.own v e sz n A)=some (Blk.own v e sz m B):=by rw [h,h2]
theorem positionLater_f {v:Value} {zs:List Int} (w:World) (hv:Tp (envC Tryz.prog tt Tryz.f5.ntmps w [] []).toEnv v zs):Calls Tryz.prog 5 #[v] w fun e w'=>e=.returned (.bool true)∧Below w.heap.size w w':=by
 refine sx_atXP [(12,[1,3,4,7,9,10,12,17,0,6,2,5,8,11,13,14,15,16,18,19],[8,0,10,1,2,11,9,3,12,4,5,13,6,14,15,16,17,7,18,19])] [10,12,13] tt_ok mixed at5 [v] _ w rfl ?_
 have hv0:=hv
 obtain ⟨a,cap,rfl,-⟩:=hv0
 refine ⟨_,fill_tape a zs.length cap rfl,rfl,?_⟩
 generalize hvv:Value.slice a zs.length cap=v at *
 have hE:(envC Tryz.prog tt Tryz.f5.ntmps w [] [] [10,12,13]).toEnv.P=Tryz.prog:=rfl
 obtain ⟨r2,k2,a2,b2,⟨i2,rfl,c2⟩,O2⟩:=next_g (n:=10) (by decide) zs 0 (by omega)
 obtain ⟨n,rfl⟩:∃ n:Nat,i2=(n:Nat):=⟨i2.toNat,by omega⟩
 have A1:=entries_m hE hv (n:=n) (k:=k2) (by omega) (by omega) (day:=9497) (by decide)
 refine .inr (.inl ⟨_,_,_,O2 _ v 16 rfl hv,⟨rfl,trivial⟩,rfl,?_⟩)
 refine .inr (.inr (.inr ⟨[(1000,16)],[3001],[_,_,_],[_],_,A1,rfl,⟨rfl,trivial⟩,rfl,trivial,?_⟩))
 rintro x U ⟨xs,k3,b,a3,b3,hx,hM,hb,rfl⟩
 refine ⟨rfl,?_⟩
 obtain ⟨r4,k4,a4,b4,⟨i4,rfl,c4⟩,O4⟩:=next_g (n:=4) (by decide) zs k3 (by omega)
 obtain ⟨n2,rfl⟩:∃ n:Nat,i4=(n:Nat):=⟨i4.toNat,by omega⟩
 have A2:=actions_m hE hv (n:=n2) (k:=k4) (by omega) (by omega) (day:=9497) (by decide)
 refine .inr (.inl ⟨_,_,_,O4 _ v 16 rfl hv,⟨rfl,trivial⟩,rfl,?_⟩)
 refine .inr (.inr (.inr ⟨[(1000,16)],[3000],[_,_,_],[_],_,A2,rfl,⟨rfl,trivial⟩,rfl,trivial,?_⟩))
 rintro y U ⟨al,k5,b',a5,b5,hy,hM2,hb',rfl⟩
 refine ⟨rfl,?_⟩
 have hin:=hM.in_
 have hina:∀ y∈al,y.In:=fun y h=>(hM2.x y h).2.2
 have hxn:=hM.l
 have hyn:=hM2.l
 obtain ⟨r6,k6,a6,b6,⟨i6,rfl,c6⟩,O6⟩:=next_g (n:=9) (by decide) zs k5 (by omega)
 refine .inr (.inl ⟨_,_,_,O6 _ v 16 rfl hv,⟨rfl,trivial⟩,rfl,?_⟩)
 obtain ⟨d,hd⟩:∃ d,IntKind.i64.wrap (9497+i6)=d:=⟨_,rfl⟩
 have hd2:d=9497+i6:=by rw [← hd];exact i64_in (by omega)
 have L1:=at_zo hE (x:=x) (y:=y) (k:=100) (day:=IntKind.i64.wrap (9497+i6)) hxn.symm hyn.symm (by omega) (by omega) hin hina
 have hlen:=atP_len xs al 100 d
 obtain ⟨R,hR⟩:∃ R,atP xs al 100 d=R:=⟨_,rfl⟩
 rw [hR] at hlen
 have hR2:atP xs al 100 (IntKind.i64.wrap (9497+i6))=R:=by rw [hd];exact hR
 rw [hR2] at L1
 refine .inr (.inr (.inr ⟨[(9640,3001),(9641,3000)],[9506,9507,9508],[_,_,_,_],[_,_],_,L1,rfl,⟨.inl rfl,.inl rfl,trivial⟩,rfl,trivial,?_⟩))
 rintro r U ⟨U0,⟨xh,xc,xp,q1,q2,q3,rfl,rfl⟩,rfl⟩
 refine ⟨rfl,fits3 (isL_one q1) (isL_one q2) (isL_one q3),?_⟩
 obtain ⟨r7,k7,a7,b7,⟨kn,rfl,c7⟩,O7⟩:=pick_g (xs:=[100,101]) (by decide) (by decide) zs k6 (by omega)
 obtain ⟨r8,k8,a8,b8,⟨z,rfl,c8,d8⟩,O8⟩:=entry_m (day:=9497) (by decide) kn zs k7 (by omega)
 obtain ⟨r9,k9,a9,b9,⟨kn2,rfl,c9⟩,O9⟩:=pick_g (xs:=[100,101]) (by decide) (by decide) zs k8 (by omega)
 obtain ⟨r10,k10,a10,b10,⟨ac,rfl,c10,d10⟩,O10⟩:=action_m (day:=9497) (by decide) kn2 zs k9 (by omega)
 have hkn:kn=100∨kn=101:=by simpa using c7
 have hkn2:kn2=100∨kn2=101:=by simpa using c9
 refine .inl ⟨by decide,by decide,ints [100,101],by kernel_rfl,rfl,.inr (.inl ⟨_,_,_,O7 _ v 16 41 (by decide) rfl hv,⟨rfl,rfl,trivial⟩,rfl,?_⟩)⟩
 refine .inr (.inl ⟨_,_,_,O8 _ v 16 rfl hv,⟨rfl,trivial⟩,rfl,?_⟩)
 refine .inl ⟨by decide,by decide,ints [100,101],by kernel_rfl,rfl,.inr (.inl ⟨_,_,_,O9 _ v 16 47 (by decide) rfl hv,⟨rfl,rfl,trivial⟩,rfl,?_⟩)⟩
 have QF:=ac.fits
 have QB:=({ ac with key:=kLater }:AC).fits
 have S1:ac.A.setIfInBounds (0+1) (.string (S kLater))=AC.A { ac with key:=kLater }:=AC.set1 ac kLater
 have G74:(AC.A { ac with key:=kLater })[74]? = some (.int .i64 ac.known):=AC.g74 { ac with key:=kLater }
 have G75:(AC.A { ac with key:=kLater })[75]? = some (.bool ac.void):=AC.g75 { ac with key:=kLater }
 have S4:(AC.A { ac with key:=kLater }).setIfInBounds (0+4) (.int .i64 (IntKind.i64.wrap (d+1)))=AC.A { ac with key:=kLater,day:=IntKind.i64.wrap (d+1) }:=AC.set4 { ac with key:=kLater } _
 generalize hA0:ac.A=A0 at QF S1 O10
 generalize hA1:AC.A { ac with key:=kLater }=A1 at S1 G74 G75 S4 QB
 refine .inr (.inl ⟨_,_,_,O10 _ v 16 rfl hv,⟨rfl,trivial⟩,rfl,z.fits,QF,?_⟩)
 refine ⟨by decide,rfl,_,EC.s1 z kLater,by decide,rfl,_,S1,?_⟩
 refine ⟨fun f m=>∃ z':EC,LtX d z'∧f=[(5,SV.c x),(6,SV.c y),(7,SV.c (.int .i64 d)),(8,SV.ptr 8 0),(9,SV.c (.int .i64 R.2)),(10,SV.ptr 10 0),(11,SV.ptr 11 0)]∧m=[(8,Blk.row 40 3 #[xh,xc,xp]),(9506,Blk.own xh 66 2 R.1.h.length (cat sumA R.1.h)),(9507,Blk.own xc 49 3 R.1.c.length (cat sumK R.1.c)),(9508,Blk.own xp 49 3 R.1.p.length (cat sumK R.1.p)),(3001,Blk.own x 31 10 n (cat EC.A xs)),(3000,Blk.own y 61 76 n2 (cat AC.A al)),(10,Blk.row 31 10 z'.A),(11,Blk.row 61 76 A1)],?_,?_⟩
 ·refine ⟨_,EC.g8 ({ z with key:=kLater }:EC),fun h=>⟨_,EC.g9 ({ z with key:=kLater }:EC),fun hz=>?_,fun hz=>?_⟩,fun h=>⟨nf rfl,fun _=>?_⟩⟩
  ·have e1:IntKind.i64.wrap (IntKind.i64.wrap (9497+i6)+1)=d+1:=by rw [hd];exact i64_in (by omega)
   have e2:IntKind.i64.wrap (IntKind.i64.wrap (9497+i6)+2)=d+2:=by rw [hd];exact i64_in (by omega)
   have hz:z.void=false:=by simpa using hz
   refine ⟨by decide,rfl,_,EC.s2 ({ z with key:=kLater }:EC) _,by decide,rfl,_,EC.s3 ({ z with key:=kLater,day:=IntKind.i64.wrap (IntKind.i64.wrap (9497+i6)+1) }:EC) _,?_⟩
   rw [e1,e2]
   exact ⟨_,_,⟨_,lt_xd ⟨by omega,by omega⟩ c8.1 (eq_of_beq h) hz,rfl,rfl⟩,⟨rfl,rfl,c_int hd,rfl,rfl,rfl,rfl,trivial⟩,⟨rfl,.inl rfl,.inl rfl,.inl rfl,.inl rfl,.inl rfl,rfl,rfl,trivial⟩,rfl⟩
  ·have hz:z.void=true:=by simpa using hz
   exact ⟨_,_,⟨_,lt_x c8.1 (by omega) (.inl hz),rfl,rfl⟩,⟨rfl,rfl,c_int hd,rfl,rfl,rfl,rfl,trivial⟩,⟨rfl,.inl rfl,.inl rfl,.inl rfl,.inl rfl,.inl rfl,rfl,rfl,trivial⟩,rfl⟩
  ·have h:¬ z.known=100:=by simpa using h
   exact ⟨_,_,⟨_,lt_x c8.1 (by omega) (.inr (by omega)),rfl,rfl⟩,⟨rfl,rfl,c_int hd,rfl,rfl,rfl,rfl,trivial⟩,⟨rfl,.inl rfl,.inl rfl,.inl rfl,.inl rfl,.inl rfl,rfl,rfl,trivial⟩,rfl⟩
 rintro f1 m1 ⟨z',hz',rfl,rfl⟩
 refine ⟨fun f m=>∃ ac':AC,LtA d ac'∧f=[(5,SV.c x),(6,SV.c y),(7,SV.c (.int .i64 d)),(8,SV.ptr 8 0),(9,SV.c (.int .i64 R.2)),(10,SV.ptr 10 0),(11,SV.ptr 11 0)]∧m=[(8,Blk.row 40 3 #[xh,xc,xp]),(9506,Blk.own xh 66 2 R.1.h.length (cat sumA R.1.h)),(9507,Blk.own xc 49 3 R.1.c.length (cat sumK R.1.c)),(9508,Blk.own xp 49 3 R.1.p.length (cat sumK R.1.p)),(3001,Blk.own x 31 10 n (cat EC.A xs)),(3000,Blk.own y 61 76 n2 (cat AC.A al)),(10,Blk.row 31 10 z'.A),(11,Blk.row 61 76 ac'.A)],?_,?_⟩
 ·refine ⟨_,G74,fun h=>⟨_,G75,fun hz=>?_,fun hz=>?_⟩,fun h=>⟨nf rfl,fun _=>?_⟩⟩
  ·have hz:ac.void=false:=by simpa using hz
   have e1:IntKind.i64.wrap (d+1)=d+1:=i64_in (by omega)
   refine ⟨by decide,rfl,_,S4,_,_,⟨_,lt_ad ⟨by omega,by omega⟩ c10.1 c10.2.2 (eq_of_beq h) hz,rfl,rfl⟩,⟨rfl,rfl,rfl,rfl,rfl,rfl,rfl,trivial⟩,⟨rfl,.inl rfl,.inl rfl,.inl rfl,.inl rfl,.inl rfl,rfl,row_eq (by rw [e1]),trivial⟩,rfl⟩
  ·have hz:ac.void=true:=by simpa using hz
   exact ⟨_,_,⟨_,lt_a c10.1 c10.2.2 (by omega) (.inl hz),rfl,rfl⟩,⟨rfl,rfl,rfl,rfl,rfl,rfl,rfl,trivial⟩,⟨rfl,.inl rfl,.inl rfl,.inl rfl,.inl rfl,.inl rfl,rfl,row_eq (by rw [← hA1]),trivial⟩,rfl⟩
  ·have h:¬ ac.known=100:=by simpa using h
   exact ⟨_,_,⟨_,lt_a c10.1 c10.2.2 (by omega) (.inr (by omega)),rfl,rfl⟩,⟨rfl,rfl,rfl,rfl,rfl,rfl,rfl,trivial⟩,⟨rfl,.inl rfl,.inl rfl,.inl rfl,.inl rfl,.inl rfl,rfl,row_eq (by rw [← hA1]),trivial⟩,rfl⟩
 rintro f1 m1 ⟨ac',hac',rfl,rfl⟩
 clear O2 O4 O6 O7 O8 O9 O10 QF QB S1 G74 G75 S4
 have LL:=later_law (d:=d) (by omega) (by omega) hM hb hM2 hb' hz' hac'
 rw [hR] at LL
 have L2:=fun (u1 u2:Value)=>at_zo hE (x:=u1) (y:=u2) (k:=100) (day:=d) (xs:=xs++[z']) (al:=al++[ac']) (nx:=n+1) (na:=n2+1) (by simp [hxn]) (by simp [hyn]) (by omega) (by omega) (fun q hq=>by
  rcases List.mem_append.1 hq with h | h
  ·exact hin q h
  ·rw [List.mem_singleton.1 h];exact hz'.inn) (fun q hq=>by
  rcases List.mem_append.1 hq with h | h
  ·exact hina q h
  ·rw [List.mem_singleton.1 h];exact hac'.i)
 rw [LL] at L2
 refine ⟨fun f m=>∃ uh uc up:Value,IsL uh R.1.h.length∧IsL uc R.1.c.length∧IsL up R.1.p.length∧f=[(8,SV.ptr 8 0),(9,SV.c (.int .i64 R.2)),(12,SV.ptr 12 0),(13,SV.c (.int .i64 R.2))]∧m=[(8,Blk.row 40 3 #[xh,xc,xp]),(9506,Blk.own xh 66 2 R.1.h.length (cat sumA R.1.h)),(9507,Blk.own xc 49 3 R.1.c.length (cat sumK R.1.c)),(9508,Blk.own xp 49 3 R.1.p.length (cat sumK R.1.p)),(12,Blk.row 40 3 #[uh,uc,up]),(9516,Blk.own uh 66 2 R.1.h.length (cat sumA R.1.h)),(9517,Blk.own uc 49 3 R.1.c.length (cat sumK R.1.c)),(9518,Blk.own up 49 3 R.1.p.length (cat sumK R.1.p))],?_,?_⟩
 ·obtain ⟨q0,hq0,hb0⟩:=info_ent
  obtain ⟨q1,hq1,hb1⟩:=info_act
  have F1:=fill_ent1 z'
  have F2:=z'.one
  have F3:=z'.ext10
  have F4:z'.A.size=1*10:=z'.size
  have F5:cat EC.A xs++z'.A=cat EC.A (xs++[z']):=cat_snoc xs z'
  have H1:=fill_act1 ac'
  have H2:=ac'.fits.one
  have H3:=ac'.ext76
  have H4:ac'.A.size=1*76:=ac'.size
  have H5:cat AC.A al++ac'.A=cat AC.A (al++[ac']):=cat_snoc al ac'
  rw [← F5,← H5] at L2
  generalize hZA:z'.A=ZA at *
  generalize hYA:ac'.A=YA at *
  have xa1:(cat EC.A xs).all (·.oneCell')=true:=Go.SX.cat_all EC.one xs
  have xa2:(cat EC.A xs).size=n*10:=by rw [Go.SX.cat_size EC.size,hxn]
  have ya1:(cat AC.A al).all (·.oneCell')=true:=Go.SX.cat_all AC.all1 al
  have ya2:(cat AC.A al).size=n2*76:=by rw [Go.SX.cat_size AC.size,hyn]
  generalize cat EC.A xs=XA at *
  generalize cat AC.A al=LA at *
  refine ⟨by kernel_rfl,?_⟩
  refine .inl ⟨by decide,by decide,_,F1,F4,?_⟩
  refine .inl ⟨by decide,by decide,_,H1,H4,?_⟩
  refine goodX_build0 tt_ok rfl rfl rfl rfl rfl rfl rfl rfl ?_
  refine goodX_build0 tt_ok rfl rfl rfl rfl rfl rfl rfl rfl ?_
  rcases Nat.eq_zero_or_pos n with hn | hn
  ·subst hn
   have hXe:XA=#[]:=Array.eq_empty_of_size_eq_zero (by omega)
   subst hXe
   obtain ⟨xa,xc',rfl⟩:=hx.len
   refine goodX_append00 tt_ok rfl rfl rfl rfl rfl rfl rfl rfl rfl hq0 rfl ?_
   refine goodX_append0 tt_ok rfl rfl rfl rfl rfl rfl rfl rfl rfl (by decide) (dN:=80) rfl (k:=1) (X:=ZA) (src_eq (src_sl (d:=82) rfl (by decide) F2 F4) F3) (by decide) (by unfold maxLen;omega) hq0 (by rw [hb0];omega) (by change _=true;kernel_rfl) fun g3 cap3=>?_
   rcases Nat.eq_zero_or_pos n2 with hn2 | hn2
   ·subst hn2
    have hLe:LA=#[]:=Array.eq_empty_of_size_eq_zero (by omega)
    subst hLe
    obtain ⟨ya,yc',rfl⟩:=hy.len
    refine goodX_append00 tt_ok rfl rfl rfl rfl rfl rfl rfl rfl rfl hq1 rfl ?_
    refine goodX_append0 tt_ok rfl rfl rfl rfl rfl rfl rfl rfl rfl (by decide) (dN:=86) rfl (k:=1) (X:=YA) (src_eq (src_sl (d:=88) rfl (by decide) H2 H4) H3) (by decide) (by unfold maxLen;omega) hq1 (by rw [hb1];omega) (by change _=true;kernel_rfl) fun g6 cap6=>?_
    have X3:=L2 (.slice (some ⟨g3,0,none⟩) 1 cap3) (.slice (some ⟨g6,0,none⟩) 1 cap6)
    refine .inr (.inr (.inr ⟨[(9640,80),(9641,86),(9506,9516),(9507,9517),(9508,9518)],[9516,9517,9518],[_,_,_,_],[_,_],_,X3,rfl,⟨.inl (own_eqm (by omega) (by simp)),.inl (own_eqm (by omega) (by simp)),trivial⟩,by kernel_rfl,(by change _=true;kernel_rfl),?_⟩))
    rintro r U ⟨U0,⟨uh,uc,up,p1,p2,p3,rfl,rfl⟩,rfl⟩
    refine ⟨by kernel_rfl,fits3 (isL_one p1) (isL_one p2) (isL_one p3),by kernel_rfl,?_⟩
    exact ⟨_,_,⟨uh,uc,up,p1,p2,p3,rfl,rfl⟩,⟨rfl,rfl,rfl,rfl,trivial⟩,⟨rfl,.inl rfl,.inl rfl,.inl rfl,rfl,.inl rfl,.inl rfl,.inl rfl,trivial⟩,rfl⟩
   ·refine goodX_append0 tt_ok rfl rfl rfl rfl rfl rfl rfl rfl rfl (by decide) (dN:=86) rfl (src_own (d:=3000) rfl ya1 ya2 hn2) hn2 (by unfold maxLen;omega) hq1 (by rw [hb1];omega) (by change _=true;kernel_rfl) fun g5 cap5=>?_
    refine ⟨by decide,86,n2,LA,.inl rfl,by decide,H2,H4,_,H3,by omega,by unfold maxLen;omega,⟨q1,hq1,by rw [hb1];omega⟩,by change _=true;kernel_rfl,fun g6 cap6=>?_⟩
    have X3:=L2 (.slice (some ⟨g3,0,none⟩) 1 cap3) (.slice (some ⟨g6,0,none⟩) (n2+1) cap6)
    refine .inr (.inr (.inr ⟨[(9640,80),(9641,86),(9506,9516),(9507,9517),(9508,9518)],[9516,9517,9518],[_,_,_,_],[_,_],_,X3,rfl,⟨.inl (own_eqm (by omega) (by simp)),.inl (own_eqm (by omega) (by simp)),trivial⟩,by kernel_rfl,(by change _=true;kernel_rfl),?_⟩))
    rintro r U ⟨U0,⟨uh,uc,up,p1,p2,p3,rfl,rfl⟩,rfl⟩
    refine ⟨by kernel_rfl,fits3 (isL_one p1) (isL_one p2) (isL_one p3),by kernel_rfl,?_⟩
    exact ⟨_,_,⟨uh,uc,up,p1,p2,p3,rfl,rfl⟩,⟨rfl,rfl,rfl,rfl,trivial⟩,⟨rfl,.inl rfl,.inl rfl,.inl rfl,rfl,.inl rfl,.inl rfl,.inl rfl,trivial⟩,rfl⟩
  ·refine goodX_append0 tt_ok rfl rfl rfl rfl rfl rfl rfl rfl rfl (by decide) (dN:=80) rfl (src_own (d:=3001) rfl xa1 xa2 hn) hn (by unfold maxLen;omega) hq0 (by rw [hb0];omega) (by change _=true;kernel_rfl) fun g2 cap2=>?_
   refine ⟨by decide,80,n,XA,.inl rfl,by decide,F2,F4,_,F3,by omega,by unfold maxLen;omega,⟨q0,hq0,by rw [hb0];omega⟩,by change _=true;kernel_rfl,fun g3 cap3=>?_⟩
   rcases Nat.eq_zero_or_pos n2 with hn2 | hn2
   ·subst hn2
    have hLe:LA=#[]:=Array.eq_empty_of_size_eq_zero (by omega)
    subst hLe
    obtain ⟨ya,yc',rfl⟩:=hy.len
    refine goodX_append00 tt_ok rfl rfl rfl rfl rfl rfl rfl rfl rfl hq1 rfl ?_
    refine goodX_append0 tt_ok rfl rfl rfl rfl rfl rfl rfl rfl rfl (by decide) (dN:=86) rfl (k:=1) (X:=YA) (src_eq (src_sl (d:=88) rfl (by decide) H2 H4) H3) (by decide) (by unfold maxLen;omega) hq1 (by rw [hb1];omega) (by change _=true;kernel_rfl) fun g6 cap6=>?_
    have X3:=L2 (.slice (some ⟨g3,0,none⟩) (n+1) cap3) (.slice (some ⟨g6,0,none⟩) 1 cap6)
    refine .inr (.inr (.inr ⟨[(9640,80),(9641,86),(9506,9516),(9507,9517),(9508,9518)],[9516,9517,9518],[_,_,_,_],[_,_],_,X3,rfl,⟨.inl (own_eqm (by omega) (by simp)),.inl (own_eqm (by omega) (by simp)),trivial⟩,by kernel_rfl,(by change _=true;kernel_rfl),?_⟩))
    rintro r U ⟨U0,⟨uh,uc,up,p1,p2,p3,rfl,rfl⟩,rfl⟩
    refine ⟨by kernel_rfl,fits3 (isL_one p1) (isL_one p2) (isL_one p3),by kernel_rfl,?_⟩
    exact ⟨_,_,⟨uh,uc,up,p1,p2,p3,rfl,rfl⟩,⟨rfl,rfl,rfl,rfl,trivial⟩,⟨rfl,.inl rfl,.inl rfl,.inl rfl,rfl,.inl rfl,.inl rfl,.inl rfl,trivial⟩,rfl⟩
   ·refine goodX_append0 tt_ok rfl rfl rfl rfl rfl rfl rfl rfl rfl (by decide) (dN:=86) rfl (src_own (d:=3000) rfl ya1 ya2 hn2) hn2 (by unfold maxLen;omega) hq1 (by rw [hb1];omega) (by change _=true;kernel_rfl) fun g5 cap5=>?_
    refine ⟨by decide,86,n2,LA,.inl rfl,by decide,H2,H4,_,H3,by omega,by unfold maxLen;omega,⟨q1,hq1,by rw [hb1];omega⟩,by change _=true;kernel_rfl,fun g6 cap6=>?_⟩
    have X3:=L2 (.slice (some ⟨g3,0,none⟩) (n+1) cap3) (.slice (some ⟨g6,0,none⟩) (n2+1) cap6)
    refine .inr (.inr (.inr ⟨[(9640,80),(9641,86),(9506,9516),(9507,9517),(9508,9518)],[9516,9517,9518],[_,_,_,_],[_,_],_,X3,rfl,⟨.inl (own_eqm (by omega) (by simp)),.inl (own_eqm (by omega) (by simp)),trivial⟩,by kernel_rfl,(by change _=true;kernel_rfl),?_⟩))
    rintro r U ⟨U0,⟨uh,uc,up,p1,p2,p3,rfl,rfl⟩,rfl⟩
    refine ⟨by kernel_rfl,fits3 (isL_one p1) (isL_one p2) (isL_one p3),by kernel_rfl,?_⟩
    exact ⟨_,_,⟨uh,uc,up,p1,p2,p3,rfl,rfl⟩,⟨rfl,rfl,rfl,rfl,trivial⟩,⟨rfl,.inl rfl,.inl rfl,.inl rfl,rfl,.inl rfl,.inl rfl,.inl rfl,trivial⟩,rfl⟩
 ·rintro f1 m1 ⟨uh,uc,up,p1,p2,p3,rfl,rfl⟩
  have SO:=same_o hE (g:=R.1) q1 q2 q3 p1 p2 p3 (by omega)
  refine .inl ⟨_,known_p,fun _=>⟨fun _=>?_,fun h=>absurd h (by simp)⟩,nf rfl⟩
  exact .inr (.inr (.inl ⟨[],[_,_],[_,_,_,_,_,_],_,[_,_,_,_,_,_],SO,rfl,⟨.inl rfl,.inl rfl,.inl rfl,.inl rfl,.inl rfl,.inl rfl,trivial⟩,rfl,rfl,rfl,trivial⟩))
end Go.Proofs.YtekfkdddadcalaaGreatDoor
