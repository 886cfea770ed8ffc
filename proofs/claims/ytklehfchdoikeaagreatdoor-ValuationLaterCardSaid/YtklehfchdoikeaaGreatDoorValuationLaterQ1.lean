/- the law ValuationLater; no condition. -/
import Derived.Test.YtklehfchdoikeaaGreatDoorP38
set_option maxRecDepth 100000
set_option maxHeartbeats 4000000
namespace Go.Proofs.YtklehfchdoikeaaGreatDoor
open Go Go.RowKit Go.SX
theorem qo {v:Value} {zs:List Int} (w:World) (hv:Tp (aY Tryz.prog tt Tryz.f9.ntmps w [] []).toEnv v zs):Calls Tryz.prog 9 #[v] w fun e w'=>e=.returned (.bool true)/\Below w.heap.size w w':=by
 refine vO [] ai ak at9 [v] _ w rfl ?_
 have hv0:=hv
 obtain ⟨a,cap,rfl,-⟩:=hv0
 refine ⟨_,lL a zs.length cap rfl,rfl,?_⟩
 generalize hvv:Value.slice a zs.length cap=v at *
 have hE:(aY Tryz.prog tt Tryz.f9.ntmps w [] []).toEnv.P=Tryz.prog:=rfl
 have A1:=ke hE hv (k:=0) (by omega) (day:=9497) (by decide)
 refine .inr (.inr (.inr ⟨[(1000,11)],[9506,9507,9508,3000,9102,9303,9304],[_,_],[_],_,A1,rfl,⟨rfl,trivial⟩,rfl,trivial,?_⟩))
 rintro r U ⟨u,k1,vh,vc,vp,vq,vn,va,g,m,a1,b1,hM,i1,i2,i3,i4,i5,i6,m1,m4,hs,rfl,rfl⟩
 have hI:=hM.inv (by decide)
 have hl2:=hM.ql
 obtain ⟨last,l6,l60,hb⟩:=hM.qs
 obtain ⟨gq,cq,rfl⟩:∃ g c,vq=.slice (some ⟨g,0,none⟩) u.qs.length c:=by
  rcases i4 with ⟨-,h0⟩ | h
  ·omega
  ·exact h
 have FT:=VQ.fitsL (v:=u) (vs:=.slice (some ⟨g,0,none⟩) m 4) i1 i2 i3 i4 (.inr ⟨g,4,rfl⟩) i5 i6
 have S3:=VQ.set3 u vh vc vp (.slice (some ⟨gq,0,none⟩) u.qs.length cq) (.slice (some ⟨g,0,none⟩) m 4) vn va 60
 have VV:=VQ.at ({ u with known:=60 }:VQ) vh vc vp (.slice (some ⟨gq,0,none⟩) u.qs.length cq) (.slice (some ⟨g,0,none⟩) m 4) vn va
 have V1:=rC hE (w:=({ u with known:=60 }:VQ)) (vh:=vh) (vc:=vc) (vp:=vp) (vq:=.slice (some ⟨gq,0,none⟩) u.qs.length cq) (vn:=vn) (va:=va) (g:=g) { hI with } m4 hs rfl rfl rfl rfl rfl rfl
 obtain ⟨r5,k5,a5,b5,⟨y,rfl,c5⟩,O5⟩:=vW (day:=9497) (known:=61) (by decide) zs k1 (by omega)
 obtain ⟨r6,k6,a6,b6,⟨z,rfl,c6⟩,O6⟩:=vW (day:=9497) (known:=62) (by decide) zs k5 (by omega)
 have AL:=yd hb (by decide) (by omega) l60 (by omega) c5 c6
 have EV:=AlikeQ.val (v:=({ u with known:=60 }:VQ)) AL
 have yin:y.In:=sX (day:=9497) ⟨9497,61,c5,by decide,by decide,by decide⟩
 have zin:z.In:=sX (day:=9497) ⟨9497,62,c6,by decide,by decide,by decide⟩
 have hI2:InV ({ u with known:=60,qs:=(u.qs++[y])++[z] }:VQ):={ hI with qb:=(by show ((u.qs++[y])++[z]).length<=_;rw [List.length_append,List.length_append];show u.qs.length+1+1<=_;omega),qin:=fun t ht=>(by
   rcases List.mem_append.1 (show t∈(u.qs++[y])++[z] from ht) with h | h
   ·rcases List.mem_append.1 h with h | h
    ·exact hI.qin t h
    ·rw [List.mem_singleton.1 h];exact yin
   ·rw [List.mem_singleton.1 h];exact zin) }
 have V2:=fun (g3 cap3:Nat)=>rC hE (w:=({ u with known:=60,qs:=(u.qs++[y])++[z] }:VQ)) (vh:=vh) (vc:=vc) (vp:=vp) (vq:=.slice (some ⟨g3,0,none⟩) (u.qs.length+2) cap3) (vn:=vn) (va:=va) (g:=g) hI2 m4 hs rfl rfl rfl (nq:=u.qs.length+2) (by show u.qs.length+2=((u.qs++[y])++[z]).length;rw [List.length_append,List.length_append];rfl) rfl rfl
 have S7:=fun x=>VQ.set7 ({ u with known:=60 }:VQ) vh vc vp (.slice (some ⟨gq,0,none⟩) u.qs.length cq) (.slice (some ⟨g,0,none⟩) m 4) vn va x ((u.qs++[y])++[z])
 rw [show aZ ({ u with known:=60,qs:=(u.qs++[y])++[z] }:VQ)=aZ ({ u with known:=60 }:VQ) from EV] at V2
 have F1:=Ct y z
 have F2:(cat QC.A [y,z]).all (·.oneCell')=true:=Go.SX.cat_all QC.one _
 have F4:(cat QC.A [y,z]).size=2*72:=Go.SX.cat_size QC.size _
 have F3:(cat QC.A [y,z]).extract 0 (0+2*72)=cat QC.A [y,z]:=by
  have:=F4
  simp [this]
 have F5:cat QC.A u.qs++cat QC.A [y,z]=cat QC.A ((u.qs++[y])++[z]):=by
  rw [<- cat_append,List.append_assoc]
  rfl
 have xa1:(cat QC.A u.qs).all (·.oneCell')=true:=Go.SX.cat_all QC.one u.qs
 have xa2:(cat QC.A u.qs).size=u.qs.length*72:=Go.SX.cat_size QC.size _
 obtain ⟨q,hq,hbb⟩:=jk
 generalize cat QC.A [y,z]=ZA at *
 generalize y.A=YA1 at *
 generalize z.A=YA2 at *
 generalize hW:u.A vh vc vp (.slice (some ⟨gq,0,none⟩) u.qs.length cq) (.slice (some ⟨g,0,none⟩) m 4) vn va=W0 at FT S3
 generalize hW1:VQ.A ({ u with known:=60 }:VQ) vh vc vp (.slice (some ⟨gq,0,none⟩) u.qs.length cq) (.slice (some ⟨g,0,none⟩) m 4) vn va=W1 at S3 S7 V1 VV
 generalize aZ ({ u with known:=60 }:VQ)=R at *
 obtain ⟨s,e⟩:=R
 refine ⟨rfl,FT,by decide,rfl,_,S3,?_⟩
 refine .inr (.inr (.inr ⟨[],[9800],[_],[_,_,_,_,_,_,_],_,V1,rfl,⟨.inl rfl,.inl rfl,.inl rfl,.inl rfl,.inl rfl,.inl rfl,.inl rfl,trivial⟩,rfl,trivial,?_⟩))
 rintro r U ⟨U0,⟨⟨xl,q1,rfl,rfl⟩,k7,k8⟩,rfl⟩
 obtain ⟨xa,xc,rfl⟩:=(show IsL xl s.lines.length from q1).len
 refine ⟨rfl,fA _ _ _ _,?_⟩
 refine pT ai rfl rfl rfl rfl rfl rfl rfl rfl ?_
 refine ⟨_,VV.g7,?_⟩
 refine mt ai rfl rfl rfl rfl rfl rfl rfl rfl rfl (by decide) (dN:=23) rfl (BE (d:=3000) rfl xa1 xa2 (show 0 < u.qs.length by omega)) (show 0 < u.qs.length by omega) (by unfold maxLen;show u.qs.length<=_;omega) hq (by rw [hbb];show u.qs.length*_<=_;omega) trivial fun g2 cap2=>?_
 refine .inr (.inl ⟨_,_,_,O5 _ v 11 rfl hv,⟨rfl,trivial⟩,rfl,.inr (.inl ⟨_,_,_,O6 _ v 11 rfl hv,⟨rfl,trivial⟩,rfl,?_⟩)⟩)
 refine .inl ⟨by decide,by decide,_,F1,F4,by decide,23,u.qs.length,_,.inl rfl,by decide,F2,F4,_,F3,by omega,by unfold maxLen;omega,⟨q,hq,by rw [hbb];omega⟩,trivial,fun g3 cap3=>?_⟩
 have V2:=V2 g3 cap3
 have S7:=S7 (.slice (some ⟨g3,0,none⟩) (u.qs.length+2) cap3)
 generalize VQ.A ({ u with known:=60,qs:=(u.qs++[y])++[z] }:VQ) vh vc vp (.slice (some ⟨g3,0,none⟩) (u.qs.length+2) cap3) (.slice (some ⟨g,0,none⟩) m 4) vn va=W2 at V2 S7
 refine ⟨by decide,rfl,_,S7,?_⟩
 refine .inr (.inr (.inr ⟨[(3000,23),(9800,9801)],[9801],[_],[_,_,_,_,_,_,_],_,V2,rfl,⟨.inl rfl,.inl rfl,.inl rfl,.inl (bC F5),.inl rfl,.inl rfl,.inl rfl,trivial⟩,rfl,trivial,?_⟩))
 rintro r U ⟨U0,⟨⟨yl,q2,rfl,rfl⟩,-,-⟩,rfl⟩
 obtain ⟨ya,yc,rfl⟩:=(show IsL yl s.lines.length from q2).len
 refine ⟨rfl,fA _ _ _ _,?_⟩
 refine .inl ⟨_,fb,fun _=>⟨fun _=>?_,fun h=>absurd h (by simp)⟩,nf rfl⟩
 have SM:=F9 hE (show IsL (.slice xa s.lines.length xc) s.lines.length from q1) (show IsL (.slice ya s.lines.length yc) s.lines.length from q2) (Nat.le_trans (show s.lines.length<=512 from k8) (by decide)) k7
 refine .inr (.inr (.inl ⟨[],[_,_],[(9800,lnB (.slice xa s.lines.length xc) s.lines),(9801,lnB (.slice ya s.lines.length yc) s.lines)],_,[(9800,lnB (.slice xa s.lines.length xc) s.lines),(9801,lnB (.slice ya s.lines.length yc) s.lines)],SM,rfl,⟨.inl rfl,.inl rfl,trivial⟩,rfl,rfl,?_⟩))
 exact ⟨by simp [cW],trivial⟩
end Go.Proofs.YtklehfchdoikeaaGreatDoor
