/- the law ValuationParts; no condition. -/
import Derived.Test.YtklehfchdoikeaaGreatDoorP38
import Derived.Test.YtklehfchdoikeaaGreatDoorValuationPartsQ1
set_option maxRecDepth 100000
set_option maxHeartbeats 4000000
namespace Go.Proofs.YtklehfchdoikeaaGreatDoor
open Go Go.RowKit Go.SX
theorem yH (a b c:Option Addr) (n1 n2 n3 c1 c2 c3:Nat) {pl:List (Nat×Nat)} (hpl:pl=[(0,1),(1,1),(2,1)]):Instr.fill (fun k=>pl[k]?) De.zero [(0,.slice a n1 c1),(1,.slice b n2 c2),(2,.slice c n3 c3)]=some #[.slice a n1 c1,.slice b n2 c2,.slice c n3 c3]:=by
 subst hpl
 kernel_rfl
theorem qm {v:Value} {zs:List Int} (w:World) (hv:Tp (aY Tryz.prog tt Tryz.f10.ntmps w [] []).toEnv v zs):Calls Tryz.prog 10 #[v] w fun e w'=>e=.returned (.bool true)/\Below w.heap.size w w':=by
 refine vO [] ai ak U2 [v] _ w rfl ?_
 have hv0:=hv
 obtain ⟨a,cap,rfl,-⟩:=hv0
 refine ⟨_,lL a zs.length cap rfl,rfl,?_⟩
 generalize hvv:Value.slice a zs.length cap=v at *
 have hE:(aY Tryz.prog tt Tryz.f10.ntmps w [] []).toEnv.P=Tryz.prog:=rfl
 have hE':VOk (aY Tryz.prog tt Tryz.f10.ntmps w [] []):=ai
 have A1:=OwnC.capsV (ke hE hv (k:=0) (by omega) (day:=9497) (by decide))
 refine .inr (.inr (.inr ⟨[(1000,19)],[9506,9507,9508,3000,9102,9303,9304],[_,_],[_],_,A1,rfl,⟨rfl,trivial⟩,rfl,trivial,?_⟩))
 rintro r U ⟨⟨u,k1,vh,vc,vp,vq,vn,va,g,m,a1,b1,hM,i1,i2,i3,i4,i5,i6,m1,m4,hs,rfl,rfl⟩,hcap⟩
 have hI:=hM.inv (by decide)
 have hck:=hM.chk (by decide)
 have l1:=hM.g.hl
 have l2:=hM.g.cl
 have l3:=hM.g.pl
 have l4:=hM.acs.1
 obtain ⟨ah,ch,rfl,hch⟩:=wO i1 fun g' c' e=>hcap 9506 g' _ c' 59 2 (cat dI u.g.h) (by subst e;rfl)
 obtain ⟨ac,cc,rfl,hcc⟩:=wO i2 fun g' c' e=>hcap 9507 g' _ c' 88 3 (cat cj u.g.c) (by subst e;rfl)
 obtain ⟨ap,cp,rfl,hcp⟩:=wO i3 fun g' c' e=>hcap 9508 g' _ c' 88 3 (cat cj u.g.p) (by subst e;rfl)
 obtain ⟨aa,ca,rfl,hca⟩:=wO i6 fun g' c' e=>hcap 9304 g' _ c' 69 136 (cat AcQ.A u.acs) (by subst e;rfl)
 clear hcap
 have FT:=VQ.fitsL (v:=u) (vs:=.slice (some ⟨g,0,none⟩) m 4) i1 i2 i3 i4 (.inr ⟨g,4,rfl⟩) i5 i6
 have VV:=VQ.at u (.slice ah u.g.h.length ch) (.slice ac u.g.c.length cc) (.slice ap u.g.p.length cp) vq (.slice (some ⟨g,0,none⟩) m 4) vn (.slice aa u.acs.length ca)
 obtain ⟨r2,k2,a2,b2,⟨i2',rfl,c2⟩,O2⟩:=bQ (n:=((u.g.h.length:Nat):Int)+1) (by omega) zs k1 (by omega)
 obtain ⟨r3,k3,a3,b3,⟨i3',rfl,c3⟩,O3⟩:=bQ (n:=((u.g.c.length:Nat):Int)+1) (by omega) zs k2 (by omega)
 obtain ⟨r4,k4,a4,b4,⟨i4',rfl,c4⟩,O4⟩:=bQ (n:=((u.g.p.length:Nat):Int)+1) (by omega) zs k3 (by omega)
 obtain ⟨r5,k5,a5,b5,⟨i5',rfl,c5⟩,O5⟩:=bQ (n:=((u.acs.length:Nat):Int)+1) (by omega) zs k4 (by omega)
 obtain ⟨j1,rfl⟩:∃ j:Nat,i2'=(j:Nat):=⟨i2'.toNat,by omega⟩
 obtain ⟨j2,rfl⟩:∃ j:Nat,i3'=(j:Nat):=⟨i3'.toNat,by omega⟩
 obtain ⟨j3,rfl⟩:∃ j:Nat,i4'=(j:Nat):=⟨i4'.toNat,by omega⟩
 obtain ⟨j4,rfl⟩:∃ j:Nat,i5'=(j:Nat):=⟨i5'.toNat,by omega⟩
 have d1:j1<=u.g.h.length:=by omega
 have d2:j2<=u.g.c.length:=by omega
 have d3:j3<=u.g.p.length:=by omega
 have d4:j4<=u.acs.length:=by omega
 have w1:IntKind.i64.wrap (((u.g.h.length:Nat):Int)+1)=((u.g.h.length:Nat):Int)+1:=i64_in (by omega)
 have w2:IntKind.i64.wrap (((u.g.c.length:Nat):Int)+1)=((u.g.c.length:Nat):Int)+1:=i64_in (by omega)
 have w3:IntKind.i64.wrap (((u.g.p.length:Nat):Int)+1)=((u.g.p.length:Nat):Int)+1:=i64_in (by omega)
 have w4:IntKind.i64.wrap (((u.acs.length:Nat):Int)+1)=((u.acs.length:Nat):Int)+1:=i64_in (by omega)
 rw [<- w1] at O2
 rw [<- w2] at O3
 rw [<- w3] at O4
 rw [<- w4] at O5
 have X1:=fL hE' Tryz.underlying22 (j:=gK) rfl (a:=ah) (n:=u.g.h.length) (cap:=ch) (k:=.i64) (x:=((j1:Nat):Int)) j1 rfl (by omega)
 have X2:=fL hE' Tryz.underlying23 (j:=dw) rfl (a:=ac) (n:=u.g.c.length) (cap:=cc) (k:=.i64) (x:=((j2:Nat):Int)) j2 rfl (by omega)
 have X3:=fL hE' Tryz.underlying23 (j:=dw) rfl (a:=ap) (n:=u.g.p.length) (cap:=cp) (k:=.i64) (x:=((j3:Nat):Int)) j3 rfl (by omega)
 have X4:=fL hE' Tryz.underlying37 (j:=iY) rfl (a:=aa) (n:=u.acs.length) (cap:=ca) (k:=.i64) (x:=((j4:Nat):Int)) j4 rfl (by omega)
 have Y1:=jc hE' Tryz.underlying22 (j:=gK) rfl (a:=ah) (n:=u.g.h.length) (cap:=ch) (k:=.i64) (x:=((j1:Nat):Int)) j1 rfl (by omega)
 have Y2:=jc hE' Tryz.underlying23 (j:=dw) rfl (a:=ac) (n:=u.g.c.length) (cap:=cc) (k:=.i64) (x:=((j2:Nat):Int)) j2 rfl (by omega)
 have Y3:=jc hE' Tryz.underlying23 (j:=dw) rfl (a:=ap) (n:=u.g.p.length) (cap:=cp) (k:=.i64) (x:=((j3:Nat):Int)) j3 rfl (by omega)
 have Y4:=jc hE' Tryz.underlying37 (j:=iY) rfl (a:=aa) (n:=u.acs.length) (cap:=ca) (k:=.i64) (x:=((j4:Nat):Int)) j4 rfl (by omega)
 have V1:=rC hE (w:=u) (vh:=.slice ah u.g.h.length ch) (vc:=.slice ac u.g.c.length cc) (vp:=.slice ap u.g.p.length cp) (vq:=vq) (vn:=vn) (va:=.slice aa u.acs.length ca) (g:=g) hI m4 hs rfl rfl rfl rfl rfl rfl
 have HT:Held (u.takes j1 j2 j3 j4) (.slice ah j1 ch) (.slice ac j2 cc) (.slice ap j3 cp) vq (.slice (some ⟨g,0,none⟩) m 4) vn (.slice aa j4 ca) (obV (.slice ah u.g.h.length ch) (.slice ac u.g.c.length cc) (.slice ap u.g.p.length cp) vq (.slice (some ⟨g,0,none⟩) 4 4) vn (.slice aa u.acs.length ca) u.g.h.length u.g.c.length u.g.p.length u.qs.length u.nst.length u.acs.length u.g.h u.g.c u.g.p u.qs u.nst u.acs):=⟨hI.takes j1 j2 j3 j4,wc,fun E0 hl=>by
  obtain ⟨h1,h2,h3,h4,h5,h6,h7⟩:=we hl
  refine ⟨?_,?_,?_,h4,?_,h6,?_⟩
  ·exact (Lst.cut lu rfl h1 d1).1
  ·exact (Lst.cut cH rfl h2 d2).1
  ·exact (Lst.cut cH rfl h3 d3).1
  ·rw [show (u.takes j1 j2 j3 j4).pol.srcs=bO.take m from hs]
   exact src_lst m4 h5
  ·exact (Lst.cut AcQ.size rfl h7 d4).1⟩
 have HD:Held (u.drops j1 j2 j3 j4) (.slice (if ch=j1 then ah else ah.map (·.add (j1*gK.size))) (u.g.h.length - j1) (ch - j1)) (.slice (if cc=j2 then ac else ac.map (·.add (j2*dw.size))) (u.g.c.length - j2) (cc - j2)) (.slice (if cp=j3 then ap else ap.map (·.add (j3*dw.size))) (u.g.p.length - j3) (cp - j3)) vq (.slice (some ⟨g,0,none⟩) m 4) vn (.slice (if ca=j4 then aa else aa.map (·.add (j4*iY.size))) (u.acs.length - j4) (ca - j4)) (obV (.slice ah u.g.h.length ch) (.slice ac u.g.c.length cc) (.slice ap u.g.p.length cp) vq (.slice (some ⟨g,0,none⟩) 4 4) vn (.slice aa u.acs.length ca) u.g.h.length u.g.c.length u.g.p.length u.qs.length u.nst.length u.acs.length u.g.h u.g.c u.g.p u.qs u.nst u.acs):=⟨hI.drops j1 j2 j3 j4,wc,fun E0 hl=>by
  obtain ⟨h1,h2,h3,h4,h5,h6,h7⟩:=we hl
  refine ⟨?_,?_,?_,h4,?_,h6,?_⟩
  ·exact (Lst.cut lu rfl h1 d1).2
  ·exact (Lst.cut cH rfl h2 d2).2
  ·exact (Lst.cut cH rfl h3 d3).2
  ·rw [show (u.drops j1 j2 j3 j4).pol.srcs=bO.take m from hs]
   exact src_lst m4 h5
  ·exact (Lst.cut AcQ.size rfl h7 d4).2⟩
 have V2:=HT.val hE (VQ.at ..) rfl rfl
 have V3:=HD.val hE (VQ.at ..) rfl rfl
 have HB:=sV (v:=u)
 have PB:=fun h=>Dy (v:=u) h hck j1 j2 j3 j4
 have PG:=fun h=>Ae (v:=u) h j1 j2 j3 j4
 have S5:=VQ.setpf u (.slice ah u.g.h.length ch) (.slice ac u.g.c.length cc) (.slice ap u.g.p.length cp) vq (.slice (some ⟨g,0,none⟩) m 4) vn (.slice aa u.acs.length ca) (.slice ah j1 ch) (.slice ac j2 cc) (.slice ap j3 cp) (u.takes j1 j2 j3 j4).g
 have S6:=VQ.setpf u (.slice ah u.g.h.length ch) (.slice ac u.g.c.length cc) (.slice ap u.g.p.length cp) vq (.slice (some ⟨g,0,none⟩) m 4) vn (.slice aa u.acs.length ca) (.slice (if ch=j1 then ah else ah.map (·.add (j1*gK.size))) (u.g.h.length - j1) (ch - j1)) (.slice (if cc=j2 then ac else ac.map (·.add (j2*dw.size))) (u.g.c.length - j2) (cc - j2)) (.slice (if cp=j3 then ap else ap.map (·.add (j3*dw.size))) (u.g.p.length - j3) (cp - j3)) (u.drops j1 j2 j3 j4).g
 have S7:=VQ.set77 ({ u with g:=(u.takes j1 j2 j3 j4).g }:VQ) (.slice ah j1 ch) (.slice ac j2 cc) (.slice ap j3 cp) vq (.slice (some ⟨g,0,none⟩) m 4) vn (.slice aa u.acs.length ca) (.slice aa j4 ca) (u.takes j1 j2 j3 j4).acs
 have S8:=VQ.set77 ({ u with g:=(u.drops j1 j2 j3 j4).g }:VQ) (.slice (if ch=j1 then ah else ah.map (·.add (j1*gK.size))) (u.g.h.length - j1) (ch - j1)) (.slice (if cc=j2 then ac else ac.map (·.add (j2*dw.size))) (u.g.c.length - j2) (cc - j2)) (.slice (if cp=j3 then ap else ap.map (·.add (j3*dw.size))) (u.g.p.length - j3) (cp - j3)) vq (.slice (some ⟨g,0,none⟩) m 4) vn (.slice aa u.acs.length ca) (.slice (if ca=j4 then aa else aa.map (·.add (j4*iY.size))) (u.acs.length - j4) (ca - j4)) (u.drops j1 j2 j3 j4).acs
 have P1:=yH ah ac ap j1 j2 j3 ch cc cp (pl:=[(0,1),(1,1),(2,1)]) rfl
 have P2:=yH (if ch=j1 then ah else ah.map (·.add (j1*gK.size))) (if cc=j2 then ac else ac.map (·.add (j2*dw.size))) (if cp=j3 then ap else ap.map (·.add (j3*dw.size))) (u.g.h.length - j1) (u.g.c.length - j2) (u.g.p.length - j3) (ch - j1) (cc - j2) (cp - j3) (pl:=[(0,1),(1,1),(2,1)]) rfl
 rw [show VQ.A ({ ({ u with g:=(u.takes j1 j2 j3 j4).g }:VQ) with acs:=(u.takes j1 j2 j3 j4).acs }:VQ) (.slice ah j1 ch) (.slice ac j2 cc) (.slice ap j3 cp) vq (.slice (some ⟨g,0,none⟩) m 4) vn (.slice aa j4 ca)=VQ.A (u.takes j1 j2 j3 j4) (.slice ah j1 ch) (.slice ac j2 cc) (.slice ap j3 cp) vq (.slice (some ⟨g,0,none⟩) m 4) vn (.slice aa j4 ca) from rfl] at S7
 rw [show VQ.A ({ ({ u with g:=(u.drops j1 j2 j3 j4).g }:VQ) with acs:=(u.drops j1 j2 j3 j4).acs }:VQ) (.slice (if ch=j1 then ah else ah.map (·.add (j1*gK.size))) (u.g.h.length - j1) (ch - j1)) (.slice (if cc=j2 then ac else ac.map (·.add (j2*dw.size))) (u.g.c.length - j2) (cc - j2)) (.slice (if cp=j3 then ap else ap.map (·.add (j3*dw.size))) (u.g.p.length - j3) (cp - j3)) vq (.slice (some ⟨g,0,none⟩) m 4) vn (.slice (if ca=j4 then aa else aa.map (·.add (j4*iY.size))) (u.acs.length - j4) (ca - j4))=VQ.A (u.drops j1 j2 j3 j4) (.slice (if ch=j1 then ah else ah.map (·.add (j1*gK.size))) (u.g.h.length - j1) (ch - j1)) (.slice (if cc=j2 then ac else ac.map (·.add (j2*dw.size))) (u.g.c.length - j2) (cc - j2)) (.slice (if cp=j3 then ap else ap.map (·.add (j3*dw.size))) (u.g.p.length - j3) (cp - j3)) vq (.slice (some ⟨g,0,none⟩) m 4) vn (.slice (if ca=j4 then aa else aa.map (·.add (j4*iY.size))) (u.acs.length - j4) (ca - j4)) from rfl] at S8
 generalize VQ.A (u.takes j1 j2 j3 j4) (.slice ah j1 ch) (.slice ac j2 cc) (.slice ap j3 cp) vq (.slice (some ⟨g,0,none⟩) m 4) vn (.slice aa j4 ca)=WT at V2 S7
 generalize VQ.A (u.drops j1 j2 j3 j4) (.slice (if ch=j1 then ah else ah.map (·.add (j1*gK.size))) (u.g.h.length - j1) (ch - j1)) (.slice (if cc=j2 then ac else ac.map (·.add (j2*dw.size))) (u.g.c.length - j2) (cc - j2)) (.slice (if cp=j3 then ap else ap.map (·.add (j3*dw.size))) (u.g.p.length - j3) (cp - j3)) vq (.slice (some ⟨g,0,none⟩) m 4) vn (.slice (if ca=j4 then aa else aa.map (·.add (j4*iY.size))) (u.acs.length - j4) (ca - j4))=WD at V3 S8
 generalize VQ.A ({ u with g:=(u.takes j1 j2 j3 j4).g }:VQ) (.slice ah j1 ch) (.slice ac j2 cc) (.slice ap j3 cp) vq (.slice (some ⟨g,0,none⟩) m 4) vn (.slice aa u.acs.length ca)=WT1 at S5 S7
 generalize VQ.A ({ u with g:=(u.drops j1 j2 j3 j4).g }:VQ) (.slice (if ch=j1 then ah else ah.map (·.add (j1*gK.size))) (u.g.h.length - j1) (ch - j1)) (.slice (if cc=j2 then ac else ac.map (·.add (j2*dw.size))) (u.g.c.length - j2) (cc - j2)) (.slice (if cp=j3 then ap else ap.map (·.add (j3*dw.size))) (u.g.p.length - j3) (cp - j3)) vq (.slice (some ⟨g,0,none⟩) m 4) vn (.slice aa u.acs.length ca)=WD1 at S6 S8
 generalize hW:u.A (.slice ah u.g.h.length ch) (.slice ac u.g.c.length cc) (.slice ap u.g.p.length cp) vq (.slice (some ⟨g,0,none⟩) m 4) vn (.slice aa u.acs.length ca)=W0 at FT VV S5 S6 V1
 generalize aZ (u.takes j1 j2 j3 j4)=RT at *
 generalize aZ (u.drops j1 j2 j3 j4)=RD at *
 generalize aZ u=R at *
 obtain ⟨s,e⟩:=R
 obtain ⟨s2,e2⟩:=RT
 obtain ⟨s3,e3⟩:=RD
 clear HT HD hM hI
 refine ⟨rfl,FT,FT,FT,by kernel_rfl,?_⟩
 refine ⟨_,VV.g4,_,fun w' _=>ao Tryz.underlying22 w',.inr (.inl ⟨_,_,_,O2 _ v 19 rfl hv,⟨rfl,trivial⟩,rfl,?_⟩)⟩
 refine ⟨_,VV.g5,_,fun w' _=>ao Tryz.underlying23 w',.inr (.inl ⟨_,_,_,O3 _ v 19 rfl hv,⟨rfl,trivial⟩,rfl,?_⟩)⟩
 refine ⟨_,VV.g6,_,fun w' _=>ao Tryz.underlying23 w',.inr (.inl ⟨_,_,_,O4 _ v 19 rfl hv,⟨rfl,trivial⟩,rfl,?_⟩)⟩
 refine ⟨_,VV.g77,_,fun w' _=>ao Tryz.underlying37 w',.inr (.inl ⟨_,_,_,O5 _ v 19 rfl hv,⟨rfl,trivial⟩,rfl,by kernel_rfl,?_⟩)⟩
 refine ⟨_,VV.g4,_,X1,_,VV.g5,_,X2,_,VV.g6,_,X3,_,P1,by decide,Cs rfl rfl rfl,_,S5,by kernel_rfl,?_⟩
 refine ⟨_,VV.g4,_,Y1,_,VV.g5,_,Y2,_,VV.g6,_,Y3,_,P2,by decide,Cs rfl rfl rfl,_,S6,by kernel_rfl,?_⟩
 refine ⟨_,VV.g77,_,X4,_,VV.g77,_,Y4,by decide,rfl,_,S7,by decide,rfl,_,S8,by kernel_rfl,?_⟩
 refine .inr (.inr (.inr ⟨[],[9800],[_],[_,_,_,_,_,_,_],_,V1,rfl,⟨.inl rfl,.inl rfl,.inl rfl,.inl rfl,.inl rfl,.inl rfl,.inl rfl,trivial⟩,rfl,trivial,?_⟩))
 rintro r U ⟨U0,⟨⟨xl,q1,rfl,rfl⟩,-,-⟩,rfl⟩
 obtain ⟨xa,xc,rfl⟩:=(show IsL xl s.lines.length from q1).len
 refine ⟨rfl,fA _ _ _ _,?_⟩
 refine .inr (.inr (.inr ⟨[(9800,9801)],[9801],[_],[_,_,_,_,_,_,_],_,V2,rfl,⟨.inl rfl,.inl rfl,.inl rfl,.inl rfl,.inl rfl,.inl rfl,.inl rfl,trivial⟩,rfl,trivial,?_⟩))
 rintro r U ⟨U0,⟨⟨yl,q2,rfl,rfl⟩,-,k2⟩,rfl⟩
 obtain ⟨ya,yc,rfl⟩:=(show IsL yl s2.lines.length from q2).len
 refine ⟨rfl,fA _ _ _ _,?_⟩
 refine .inr (.inr (.inr ⟨[(9800,9802)],[9802],[_],[_,_,_,_,_,_,_],_,V3,rfl,⟨.inl rfl,.inl rfl,.inl rfl,.inl rfl,.inl rfl,.inl rfl,.inl rfl,trivial⟩,rfl,trivial,?_⟩))
 rintro r U ⟨U0,⟨⟨zl,q3,rfl,rfl⟩,-,k3⟩,rfl⟩
 obtain ⟨za,zc,rfl⟩:=(show IsL zl s3.lines.length from q3).len
 refine ⟨rfl,fA _ _ _ _,?_⟩
 refine ⟨fun h=>?_,fun h=>?_⟩
 ·have he:e≠0:=by
    intro h0
    subst h0
    exact absurd (show ((0:Int) != 0)=true from h) (by decide)
  have PB:=PB he
  refine .inl ⟨_,fb,⟨fun _=>⟨fun h2=>⟨fun h3=>?_,fun h3=>?_⟩,fun h2=>⟨fun h3=>?_,fun h3=>?_⟩⟩,nf rfl⟩⟩
  ·have h4:e=33:=by
     have g2:e2=0:=by simpa using h2
     have g3:e3=0:=by simpa [g2] using h3
     rcases PB with h | h | h
     ·exact absurd g2 h
     ·exact absurd g3 h
     ·exact h
   refine ⟨?_,trivial⟩
   show cW [.bool (e == 33)]=_
   rw [h4]
   rfl
  ·exact ⟨rfl,trivial⟩
  ·exact absurd h3 (by decide)
  ·exact ⟨rfl,trivial⟩
 ·have he:e=0:=by simpa using h
  subst he
  have PG:=PG rfl
  refine ⟨fun h2=>⟨fun h3=>.inl ⟨_,fb,rfl,trivial⟩,fun h3=>?_⟩,fun h2=>⟨fun h3=>.inl ⟨_,fb,rfl,trivial⟩,fun h3=>absurd h3 (by decide)⟩⟩
  have g2:e2≠33:=by simpa using h2
  have g3:e3≠33:=by simpa using h3
  obtain ⟨rfl,rfl,gt,gl⟩:e2=0/\e3=0/\s2.total+s3.total=s.total/\s2.lines.length+s3.lines.length=s.lines.length:=by
   rcases PG with h | h | h
   ·exact absurd h g2
   ·exact absurd h g3
   ·exact h
  refine .inl ⟨_,fb,?_⟩
  obtain ⟨t1,t2,-⟩:=HB rfl
  have t1 : -1000000000000000<=s.total:=t1
  have t2:s.total<=1000000000000000:=t2
  have gw:IntKind.i64.wrap (s2.total+s3.total)=s.total:=by rw [show s2.total+s3.total=s.total from gt];exact i64_in ⟨by omega,by omega⟩
  refine ⟨fun _=>⟨fun _=>⟨fun _=>⟨_,rfl,_,rfl,_,rfl,?_⟩,nf rfl⟩,nf rfl⟩,nf rfl⟩
  have gb:(IntKind.i64.wrap (s2.total+s3.total) == s.total)=true:=by rw [gw];exact vj _
  refine ⟨fun _=>?_,fun h=>absurd (gb.symm.trans h) (by decide)⟩
  have k2:s2.lines.length<=512:=k2
  have k3:s3.lines.length<=512:=k3
  have lw:IntKind.i64.wrap (((s2.lines.length:Nat):Int)+((s3.lines.length:Nat):Int))=((s.lines.length:Nat):Int):=by
   have gl:s2.lines.length+s3.lines.length=s.lines.length:=gl
   rw [i64_in ⟨by omega,by omega⟩]
   omega
  refine ⟨_,rfl,_,fun w' _=>ao Tryz.underlying40 w',_,rfl,_,fun w' _=>ao Tryz.underlying40 w',_,rfl,_,fun w' _=>ao Tryz.underlying40 w',?_,trivial⟩
  show cW [.bool (IntKind.i64.wrap (((s2.lines.length:Nat):Int)+((s3.lines.length:Nat):Int)) == ((s.lines.length:Nat):Int))]=_
  rw [lw,vj]
  rfl
end Go.Proofs.YtklehfchdoikeaaGreatDoor
