/- the law ValuationTampers; no condition. -/
import Derived.Test.YtklehfchdoikeaaGreatDoorP38
import Derived.Test.YtklehfchdoikeaaGreatDoorValuationTampersQ1
set_option maxRecDepth 100000
set_option maxHeartbeats 4000000
namespace Go.Proofs.YtklehfchdoikeaaGreatDoor
open Go Go.RowKit Go.SX
theorem FU {v:Value} {n:Nat} (h:IsL v n) (hn:0 < n):∃ g c,v=.slice (some ⟨g,0,none⟩) n c:=by
 rcases h with ⟨-,h0⟩ | h
 ·omega
 ·exact h
theorem Nj (x:Int) : -9223372036854775808<=IntKind.i64.wrap x/\IntKind.i64.wrap x<=9223372036854775807:=by
 have h:IntKind.i64.wrap x=if x % 18446744073709551616 >= 9223372036854775808 then x % 18446744073709551616 - 18446744073709551616 else x % 18446744073709551616:=by
  simp [IntKind.wrap,IntKind.bits,IntKind.signed]
 rw [h]
 split<;>omega
theorem zR {A B:Array Value} (h:B.size=A.size):aM A 0 B.toList=B:=by
 have:=ja (P:=#[]) (A:=A) (Q:=#[]) (B:=B) (off:=0) rfl h
 simpa using this
theorem mB {v:Value} {zs:List Int} {n:Int} (hn : -9223372036854775808<=n/\n<=9223372036854775807) (w:World) (hv:Tp (aY Tryz.prog tt Tryz.f7.ntmps w [] []).toEnv v zs):Calls Tryz.prog 7 #[v,.int .i64 n] w fun e w'=>e=.returned (.bool true)/\Below w.heap.size w w':=by
 refine vO [] ai ak at7 [v,.int .i64 n] _ w rfl ?_
 have hv0:=hv
 obtain ⟨a,cap,rfl,-⟩:=hv0
 refine ⟨_,lL a zs.length cap rfl,rfl,?_⟩
 generalize hvv:Value.slice a zs.length cap=v at *
 have hE:(aY Tryz.prog tt Tryz.f7.ntmps w [] []).toEnv.P=Tryz.prog:=rfl
 have A1:=ke hE hv (k:=0) (by omega) (day:=9497) (by decide)
 refine .inr (.inr (.inr ⟨[(1000,13)],[9506,9507,9508,3000,9102,9303,9304],[_,_],[_],_,A1,rfl,⟨rfl,trivial⟩,rfl,trivial,?_⟩))
 rintro r U ⟨u,k1,vh,vc,vp,vq,vn,va,g,m,a1,b1,hM,i1,i2,i3,i4,i5,i6,m1,m4,hs,rfl,rfl⟩
 have hI:=hM.inv (by decide)
 have V1:=rC hE (w:=u) (vh:=vh) (vc:=vc) (vp:=vp) (vq:=vq) (vn:=vn) (va:=va) (g:=g) hI m4 hs rfl rfl rfl rfl rfl rfl
 have hver:=w5 (v:=u)
 have hmade:=sV (v:=u)
 have hcur:(aZ u).2=0->(aZ u).1.cur.length<=9223372036854775807:=fun h=>by
  obtain ⟨-,ls,-,-,e⟩:=o7 h
  rw [e]
  exact hI.cur
 generalize u.A vh vc vp vq (.slice (some ⟨g,0,none⟩) m 4) vn va=W0 at V1 ⊢
 generalize aZ u=R at *
 obtain ⟨s,e⟩:=R
 refine ⟨rfl,?_⟩
 refine .inr (.inr (.inr ⟨[],[9800],[_],[_,_,_,_,_,_,_],_,V1,rfl,⟨.inl rfl,.inl rfl,.inl rfl,.inl rfl,.inl rfl,.inl rfl,.inl rfl,trivial⟩,rfl,trivial,?_⟩))
 rintro r U ⟨U0,⟨⟨xl,q1,rfl,rfl⟩,k7,k8⟩,rfl⟩
 obtain ⟨xa,xc,rfl⟩:=(show IsL xl s.lines.length from q1).len
 refine ⟨rfl,fA _ _ _ _,?_⟩
 refine ⟨fun h=>.inl ⟨_,fb,rfl,trivial⟩,fun h=>?_⟩
 have he:e=0:=by simpa using h
 subst he
 have hver:=hver rfl
 obtain ⟨t1,t2,hamt⟩:=hmade rfl
 have t1 : -1000000000000000<=s.total:=t1
 have t2:s.total<=1000000000000000:=t2
 have hamt:∀ y∈s.lines,-1000000000000000<=y.amt/\y.amt<=1000000000000000:=hamt
 have k7:∀ y∈s.lines,y.In:=k7
 have k8:s.lines.length<=512:=k8
 have hcur:=hcur rfl
 have P1:=kd hE (s:=s) (vl:=.slice xa s.lines.length xc) rfl k7 hcur
 rw [hver] at P1
 refine .inr (.inr (.inl ⟨[(9820,9800)],[_],[_],_,[_],P1,rfl,⟨.inl rfl,trivial⟩,rfl,rfl,nf rfl,fun _=>?_⟩))
 obtain ⟨r2,k2,a2,b2,⟨i2',rfl,c2⟩,O2⟩:=bQ (n:=3) (by decide) zs k1 (by omega)
 have ed:IntKind.i64.wrap (1+i2')=1+i2':=i64_in (by omega)
 obtain ⟨d,hd⟩:∃ d,d=1+i2':=⟨_,rfl⟩
 have et:IntKind.i64.wrap (s.total+IntKind.i64.wrap (1+i2'))=s.total+d:=by rw [ed,<- hd];exact i64_in (by omega)
 have P2:=kd hE (s:={ s with total:=s.total+d }) (vl:=.slice xa s.lines.length xc) (n:=s.lines.length) rfl k7 hcur
 rw [C9 hver (n:=s.total+d) (show s.total+d≠s.total by omega)] at P2
 refine .inr (.inl ⟨_,_,_,O2 _ v 13 rfl hv,⟨rfl,trivial⟩,rfl,?_⟩)
 have T1:∀ x:Value,(s.A x).setIfInBounds (0+4) (.int .i64 (IntKind.i64.wrap (s.total+IntKind.i64.wrap (1+i2'))))=({ s with total:=s.total+d }:ShQ).A x:=fun x=>by rw [et];rfl
 refine ⟨fA _ _ _ _,_,rfl,by decide,rfl,_,T1 _,?_⟩
 refine .inr (.inr (.inl ⟨[(9820,9800)],[_],[_],_,[_],P2,rfl,⟨.inl rfl,trivial⟩,rfl,rfl,nf rfl,fun _=>?_⟩))
 refine ⟨_,rfl,_,fun w' _=>ao Tryz.underlying40 w',fun h=>?_,fun h=>.inl ⟨_,fb,rfl,trivial⟩⟩
 have hlen:0 < s.lines.length:=by
  have:=af h
  have:(0:Int) < ((s.lines.length:Nat):Int):=this
  omega
 obtain ⟨gx,cx,hxe⟩:=FU q1 hlen
 obtain ⟨rfl,rfl⟩:xa=some ⟨gx,0,none⟩/\xc=cx:=by cases hxe;exact ⟨rfl,rfl⟩
 obtain ⟨q,hq,hbb⟩:=Cn
 have xa1:(cat LnQ.A s.lines).all (·.oneCell')=true:=Go.SX.cat_all LnQ.one s.lines
 have xa2:(cat LnQ.A s.lines).size=s.lines.length*137:=Go.SX.cat_size LnQ.size _
 refine ⟨fA _ _ _ _,?_⟩
 refine pT ai rfl rfl rfl rfl rfl rfl rfl rfl ?_
 refine ⟨_,rfl,?_⟩
 refine mt ai rfl rfl rfl rfl rfl rfl rfl rfl rfl (by decide) (dN:=46) rfl (BE (d:=9800) rfl xa1 xa2 (show 0 < s.lines.length from hlen)) (show 0 < s.lines.length from hlen) (by unfold maxLen;show s.lines.length<=_;omega) hq (by rw [hbb];show s.lines.length*_<=_;omega) trivial fun g2 cap2=>?_
 obtain ⟨r4,k4,a4,b4,⟨i4',rfl,c4⟩,O4⟩:=bQ (n:=((s.lines.length:Nat):Int)) (by omega) zs k2 (by omega)
 obtain ⟨p,rfl⟩:∃ p:Nat,i4'=(p:Nat):=⟨i4'.toNat,by omega⟩
 have hp:p < s.lines.length:=by omega
 obtain ⟨r5,k5,a5,b5,⟨i5',rfl,c5⟩,O5⟩:=dX (xs:=[n,0,5,1]) (by simp) (by simp) zs k4 (by omega)
 have q5 : -9223372036854775808<=i5'/\i5'<=9223372036854775807:=by simp at c5;omega
 obtain ⟨y,hy⟩:∃ y,s.lines[p]? = some y:=⟨_,List.getElem?_eq_getElem hp⟩
 have yin:=k7 y (List.mem_of_getElem? hy)
 obtain ⟨ya1,ya2⟩:=hamt y (List.mem_of_getElem? hy)
 have ea:IntKind.i64.wrap (y.amt+IntKind.i64.wrap (1+i2'))=y.amt+d:=by rw [ed,<- hd];exact i64_in (by omega)
 have sz:∀ l:List LnQ,(cat LnQ.A l).size=l.length*137:=fun l=>Go.SX.cat_size LnQ.size l
 have hlt:∀ (l:List LnQ) (j:Nat),l.length=s.lines.length->j < 137->aO 0 ((p:Nat):Int) fR.size+j < (cat LnQ.A l).size:=fun l j hl hj=>by
  rw [qK,sz,hl]
  have:(p+1)*137<=s.lines.length*137:=Nat.mul_le_mul_right 137 hp
  omega
 have hle:∀ (l:List LnQ),l.length=s.lines.length->aO 0 ((p:Nat):Int) fR.size+fR.size<=(cat LnQ.A l).size:=fun l hl=>by
  rw [qK,sz,hl]
  show p*137+137<=_
  have:(p+1)*137<=s.lines.length*137:=Nat.mul_le_mul_right 137 hp
  omega
 -- the lines, one change after the other
 obtain ⟨y1,hy1⟩:∃ y1:LnQ,y1={ y with amt:=y.amt+d }:=⟨_,rfl⟩
 obtain ⟨y2,hy2⟩:∃ y2:LnQ,y2={ y1 with kind:=i5' }:=⟨_,rfl⟩
 obtain ⟨y4,hy4⟩:∃ y4:LnQ,y4={ y with qty:=IntKind.i64.wrap (y.qty+n.tmod 100000) }:=⟨_,rfl⟩
 have in1:y1.In:=by rw [hy1];exact { yin with amt:=⟨by show _<=y.amt+d;omega,by show y.amt+d<=_;omega⟩ }
 have in2:y2.In:=by rw [hy2];exact { in1 with kind:=q5 }
 have wq:∀ x:Int,-9223372036854775808<=IntKind.i64.wrap x/\IntKind.i64.wrap x<=9223372036854775807:=fun x=>Nj x
 have in4:y4.In:=by rw [hy4];exact { yin with qty:=wq _ }
 have len1:∀ y':LnQ,(s.lines.set p y').length=s.lines.length:=fun y'=>List.length_set
 have at1:∀ y':LnQ,(s.lines.set p y')[p]? = some y':=fun y'=>by rw [List.getElem?_set_self hp]
 have ins1:∀ y':LnQ,y'.In->∀ z∈s.lines.set p y',z.In:=fun y' hy' z hz=>(List.mem_or_eq_of_mem_set hz).elim (k7 z) fun h=>by rw [h];exact hy'
 have ss:∀ y' y'':LnQ,(s.lines.set p y').set p y''=s.lines.set p y'':=fun y' y''=>List.set_set ..
 have back:s.lines.set p y=s.lines:=by
  apply List.ext_getElem?
  intro i
  by_cases e:p=i
  ·subst e
   rw [at1,hy]
  ·rw [List.getElem?_set_ne e]
 have G1:(cat LnQ.A s.lines)[aO 0 ((p:Nat):Int) fR.size+136]? = some (.int .i64 y.amt):=by
  rw [qK,dV LnQ.size s.lines p y 136 hy (by decide)]
  exact y.g136
 have W1:(cat LnQ.A s.lines).setIfInBounds (aO 0 ((p:Nat):Int) fR.size+136) (.int .i64 (IntKind.i64.wrap (y.amt+IntKind.i64.wrap (1+i2'))))=cat LnQ.A (s.lines.set p y1):=by
  rw [qK,ea]
  exact qY LnQ.size hy (by decide) (by rw [hy1];exact y.s136 _)
 have W2:(cat LnQ.A (s.lines.set p y1)).setIfInBounds (aO 0 ((p:Nat):Int) fR.size+0) (.int .i64 i5')=cat LnQ.A (s.lines.set p y2):=by
  rw [qK,<- ss y1 y2]
  exact qY LnQ.size (at1 y1) (by decide) (by rw [hy2];exact y1.s0 _)
 have L3:(cat LnQ.A s.lines).extract (aO 0 ((p:Nat):Int) fR.size) (aO 0 ((p:Nat):Int) fR.size+fR.size)=y.A:=by
  rw [qK]
  exact cr LnQ.size hy
 have W3:aM (cat LnQ.A (s.lines.set p y2)) (aO 0 ((p:Nat):Int) fR.size) y.A.toList=cat LnQ.A s.lines:=by
  have:=ll (x':=y) (j:=0) (vs:=y.A.toList) LnQ.size (at1 y2) (by rw [Array.length_toList,y.size];decide) (zR (by rw [y.size,y2.size]))
  rw [ss y2 y,back] at this
  rw [qK]
  exact this
 have G4:(cat LnQ.A s.lines)[aO 0 ((p:Nat):Int) fR.size+3]? = some (.int .i64 y.qty):=by
  rw [qK,dV LnQ.size s.lines p y 3 hy (by decide)]
  exact y.g3
 have W4:(cat LnQ.A s.lines).setIfInBounds (aO 0 ((p:Nat):Int) fR.size+3) (.int .i64 (IntKind.i64.wrap (y.qty+n.tmod 100000)))=cat LnQ.A (s.lines.set p y4):=by
  rw [qK]
  exact qY LnQ.size hy (by decide) (by rw [hy4];exact y.s3 _)
 have P3:=kd hE (s:=({ s with lines:=s.lines.set p y1 }:ShQ)) (vl:=.slice (some ⟨g2,0,none⟩) s.lines.length cap2) (n:=s.lines.length) (len1 y1).symm (ins1 y1 in1) hcur
 have P4:=kd hE (s:=({ s with lines:=s.lines.set p y1,total:=s.total+d }:ShQ)) (vl:=.slice (some ⟨g2,0,none⟩) s.lines.length cap2) (n:=s.lines.length) (len1 y1).symm (ins1 y1 in1) hcur
 rw [show eH ({ s with lines:=s.lines.set p y1 }:ShQ)=200 by rw [hy1];exact Br hver hy (by omega) s.total] at P3
 rw [show eH ({ s with lines:=s.lines.set p y1,total:=s.total+d }:ShQ)=200 by rw [hy1];exact Br hver hy (by omega) _] at P4
 have P5:=oH hE (s:=({ s with lines:=s.lines.set p y2,total:=s.total+d }:ShQ)) (vl:=.slice (some ⟨g2,0,none⟩) s.lines.length cap2) (n:=s.lines.length) (len1 y2).symm (ins1 y2 in2) hcur
 have P6:=oH hE (s:=({ s with lines:=s.lines.set p y4 }:ShQ)) (vl:=.slice (some ⟨g2,0,none⟩) s.lines.length cap2) (n:=s.lines.length) (len1 y4).symm (ins1 y4 in4) hcur
 have YF:=y.fits
 have h1:=hlt _ 136 rfl (by decide)
 have h2:=hlt _ 0 (len1 y1) (by decide)
 have h3:=hle _ rfl
 have h4:=hle _ (len1 y2)
 have h5:=hlt _ 3 rfl (by decide)
 clear hlt hle
 generalize y.A=YA at L3 W3 YF
 generalize cat LnQ.A (s.lines.set p y1)=C1 at *
 generalize cat LnQ.A (s.lines.set p y2)=C2 at *
 generalize cat LnQ.A (s.lines.set p y4)=C4 at *
 generalize cat LnQ.A s.lines=C0 at *
 refine ⟨by decide,rfl,_,rfl,_,rfl,_,fun w' _=>ao Tryz.underlying40 w',.inr (.inl ⟨_,_,_,O4 _ v 13 rfl hv,⟨rfl,trivial⟩,rfl,?_⟩)⟩
 refine ⟨_,rfl,by omega,by omega,.inr ⟨46,g2,_,s.lines.length,cap2,_,_,_,rfl,rfl,_,G1,by omega,by omega,46,g2,_,s.lines.length,cap2,_,_,_,rfl,rfl,h1,rfl,_,W1,?_⟩⟩
 refine .inr (.inr (.inl ⟨[(9820,46)],[_],[_],_,[_],P3,rfl,⟨.inl rfl,trivial⟩,rfl,rfl,nf rfl,fun _=>?_⟩))
 refine ⟨_,rfl,by decide,rfl,_,T1 _,?_⟩
 refine .inr (.inr (.inl ⟨[(9820,46)],[_],[_],_,[_],P4,rfl,⟨.inl rfl,trivial⟩,rfl,rfl,nf rfl,fun _=>?_⟩))
 refine ⟨_,rfl,.inl ⟨by decide,by decide,cd [n,0,5,1],by kernel_rfl,rfl,.inr (.inl ⟨_,_,_,O5 _ v 13 79 (by decide) rfl hv,⟨rfl,rfl,trivial⟩,rfl,by omega,by omega,46,g2,_,s.lines.length,cap2,_,_,_,rfl,rfl,h2,rfl,_,W2,by kernel_rfl,?_⟩)⟩⟩
 refine .inr (.inr (.inl ⟨[(9820,46)],[_],[_],_,[_],P5,rfl,⟨.inl rfl,trivial⟩,rfl,rfl,nf rfl,fun _=>?_⟩))
 refine ⟨_,rfl,_,rfl,by omega,by omega,.inr ⟨9800,gx,_,s.lines.length,xc,_,_,_,rfl,rfl,h3,YA,L3,by omega,by omega,46,g2,_,s.lines.length,cap2,_,_,_,rfl,rfl,h4,YF,C0,W3,by kernel_rfl,?_⟩⟩
 refine ⟨_,rfl,by omega,by omega,.inr ⟨46,g2,_,s.lines.length,cap2,_,_,_,rfl,rfl,_,G4,?_⟩⟩
 refine ⟨by decide,by omega,by omega,46,g2,_,s.lines.length,cap2,_,_,_,rfl,rfl,h5,rfl,_,W4,?_⟩
 refine ⟨_,rfl,by decide,rfl,_,rfl,?_⟩
 refine .inr (.inr (.inl ⟨[(9820,46)],[_],[_],_,[_],P6,rfl,⟨.inl rfl,trivial⟩,rfl,rfl,nf rfl,fun _=>?_⟩))
 exact .inl ⟨_,fb,rfl,trivial⟩
end Go.Proofs.YtklehfchdoikeaaGreatDoor
