/- the reference: enter.. the reference and the program go the ; no condition. -/
import Derived.Test.YtekfkdddadcalaaGreatDoorPositionSpoiltQ29
import Derived.Test.YtekfkdddadcalaaGreatDoorPositionSpoiltQ24
set_option maxRecDepth 100000
set_option maxHeartbeats 4000000
namespace Go.Proofs.YtekfkdddadcalaaGreatDoor
open Go Go.RowKit Go.SX
def eP (day:Int) (g:Led) (x:EC):Led:=if x.settle<=day then { g with c:=cN g.c (x.cur,0) x.amt } else { g with p:=cN g.p (x.cur,x.settle) x.amt }
def j0 (day:Int) (g:Led) (x:EC):Except Int Led :=
 if x.kind=1 then
  if w64 (ay g.h x.ins+x.qty) < 0 then .error 181
  else if w64 (ay g.h x.ins+x.qty) > 1000000000000000 then .error 171
  else .ok (eP day { g with h:=dt g.h x.ins (w64 (ay g.h x.ins+x.qty)) } x)
 else .ok (eP day g x)
def LE (R:Except Int Led) (r:Value) (U:az):Prop:=∃ (g:Led) (vh vc vp:Value),IsL vh g.h.length/\IsL vc g.c.length/\IsL vp g.p.length/\U=[(9701,Blk.own vh 66 2 g.h.length (cat ao g.h)),(9702,Blk.own vc 49 3 g.c.length (cat ai g.c)),(9703,Blk.own vp 49 3 g.p.length (cat ai g.p)),(9700,Blk.row 40 3 #[vh,vc,vp])]/\match R with
 | .error e=>r=.int .i64 e/\e≠0
 | .ok g2=>r=.int .i64 0/\g=g2
theorem oC (c:Bs) (m:Int) {pl:List (Nat×Nat)} (hpl:pl=[(0,1),(1,1),(2,1)]):Instr.fill (fun k=>pl[k]?) ln.zero [(0,.string (S c)),(2,.int .i64 m)]=some (ai ((c,0),m)):=by
 subst hpl;rfl
theorem Ff {E:Env} (hE:E.P=Tryz.prog) {g:Led} {vh vc vp:Value} {day:Int} (hh:IsL vh g.h.length) (hc:IsL vc g.c.length) (hp:IsL vp g.p.length) (hl:g.h.length<=10000000000/\g.c.length<=10000000000/\g.p.length<=10000000000) {x:EC}:OwnC E 70 [SV.ptr 9700 0,SV.c (.agg x.A),SV.c (.int .i64 day)] [(9701,Blk.own vh 66 2 g.h.length (cat ao g.h)),(9702,Blk.own vc 49 3 g.c.length (cat ai g.c)),(9703,Blk.own vp 49 3 g.p.length (cat ai g.p)),(9700,Blk.row 40 3 #[vh,vc,vp])] (LE (j0 day g x)):=by
 refine av [] af ah MX E hE [SV.ptr 9700 0,SV.c (.agg x.A),SV.c (.int .i64 day)] [(9701,Blk.own vh 66 2 g.h.length (cat ao g.h)),(9702,Blk.own vc 49 3 g.c.length (cat ai g.c)),(9703,Blk.own vp 49 3 g.p.length (cat ai g.p)),(9700,Blk.row 40 3 #[vh,vc,vp])] _ rfl rfl fun w X β hT=>?_
 have hE':(aR Tryz.prog tt Tryz.f70.ntmps w X (aA [(9701,Blk.own vh 66 2 g.h.length (cat ao g.h)),(9702,Blk.own vc 49 3 g.c.length (cat ai g.c)),(9703,Blk.own vp 49 3 g.p.length (cat ai g.p)),(9700,Blk.row 40 3 #[vh,vc,vp])] β)).toEnv.P=Tryz.prog:=rfl
 refine ⟨rfl,_,rfl,fun k1=>?_,fun k1=>?_⟩
 ·have k1:x.kind=1:=by have k1:(x.kind == 1)=true:=k1;simpa using k1
  have HO:=sG hE' (x:=vh) (vc:=vc) (vp:=vp) (H:=g.h) (k:=x.ins) rfl (by omega)
  refine ⟨_,rfl,?_⟩
  refine .inr (.inr (.inl ⟨[(9610,9701)],[_,_],[_],_,[_],HO,rfl,⟨.inl rfl,trivial⟩,by kernel_rfl,by kernel_rfl,?_⟩))
  refine ⟨_,rfl,by kernel_rfl,fun c1=>?_,fun c1=>?_⟩
  ·have c1:w64 (ay g.h x.ins+x.qty) < 0:=ab c1
   have eR:j0 day g x=.error 181:=by unfold j0;rw [if_pos k1,if_pos c1]
   rw [eR]
   exact ⟨[(9701,Blk.own vh 66 2 g.h.length (cat ao g.h)),(9702,Blk.own vc 49 3 g.c.length (cat ai g.c)),(9703,Blk.own vp 49 3 g.p.length (cat ai g.p)),(9700,Blk.row 40 3 #[vh,vc,vp])],[],⟨g,vh,vc,vp,hh,hc,hp,rfl,rfl,by decide⟩,⟨.inl rfl,.inl rfl,.inl rfl,rfl,trivial⟩,rfl⟩
  ·have c1:¬ w64 (ay g.h x.ins+x.qty) < 0:=ae c1
   refine ⟨fun c2=>?_,fun c2=>?_⟩
   ·have c2:w64 (ay g.h x.ins+x.qty) > 1000000000000000:=ab c2
    have eR:j0 day g x=.error 171:=by unfold j0;rw [if_pos k1,if_neg c1,if_pos c2]
    rw [eR]
    exact ⟨[(9701,Blk.own vh 66 2 g.h.length (cat ao g.h)),(9702,Blk.own vc 49 3 g.c.length (cat ai g.c)),(9703,Blk.own vp 49 3 g.p.length (cat ai g.p)),(9700,Blk.row 40 3 #[vh,vc,vp])],[],⟨g,vh,vc,vp,hh,hc,hp,rfl,rfl,by decide⟩,⟨.inl rfl,.inl rfl,.inl rfl,rfl,trivial⟩,rfl⟩
   ·have c2:¬ w64 (ay g.h x.ins+x.qty) > 1000000000000000:=ae c2
    have eR:j0 day g x=.ok (eP day { g with h:=dt g.h x.ins (w64 (ay g.h x.ins+x.qty)) } x):=by unfold j0;rw [if_pos k1,if_neg c1,if_neg c2]
    rw [eR]
    have TO:=si hE' (x:=vh) (H:=g.h) (k:=x.ins) (m:=w64 (ay g.h x.ins+x.qty)) rfl (by omega)
    refine ⟨_,rfl,_,rfl,?_⟩
    refine .inr (.inr (.inr ⟨[(9610,9701)],[9600],[_,_,_],[_],_,TO,rfl,⟨.inl rfl,trivial⟩,by kernel_rfl,(by change _=true;kernel_rfl),?_⟩))
    rintro r U ⟨hv2,rfl⟩
    generalize dt g.h x.ins (w64 (ay g.h x.ins+x.qty))=H2 at hv2 ⊢
    obtain ⟨yb,yd,rfl⟩:=hv2.len
    refine ⟨by kernel_rfl,by decide,rfl,#[.slice yb H2.length yd,vc,vp],rfl,by kernel_rfl,?_⟩
    refine ⟨_,rfl,fun s1=>?_,fun s1=>?_⟩
    ·have s1:x.settle<=day:=ab s1
     have PO:=m5 hE' (x:=vc) (C:=g.c) (k:=(x.cur,0)) (m:=x.amt) rfl (by omega)
     have eC:eP day { g with h:=H2 } x=⟨H2,cN g.c (x.cur,0) x.amt,g.p⟩:=by unfold eP;rw [if_pos s1]
     rw [eC]
     refine ⟨_,rfl,_,rfl,_,rfl,_,oC x.cur x.amt rfl,?_⟩
     refine .inr (.inr (.inr ⟨[(9611,9702)],[9601],[_,_],[_],_,PO,rfl,⟨.inl rfl,trivial⟩,by kernel_rfl,(by change _=true;kernel_rfl),?_⟩))
     rintro r U ⟨hv,rfl⟩
     generalize cN g.c (x.cur,0) x.amt=C2 at hv ⊢
     obtain ⟨ya,yc,rfl⟩:=hv.len
     refine ⟨by kernel_rfl,by decide,rfl,#[.slice yb H2.length yd,.slice ya C2.length yc,vp],rfl,by kernel_rfl,?_⟩
     exact ⟨[(9701,Blk.own (.slice yb H2.length yd) 66 2 H2.length (cat ao H2)),(9702,Blk.own (.slice ya C2.length yc) 49 3 C2.length (cat ai C2)),(9703,Blk.own vp 49 3 g.p.length (cat ai g.p)),(9700,Blk.row 40 3 #[.slice yb H2.length yd,.slice ya C2.length yc,vp])],[(9701,9600),(9702,9601)],⟨⟨H2,C2,g.p⟩,.slice yb H2.length yd,.slice ya C2.length yc,vp,hv2,hv,hp,rfl,rfl,rfl⟩,⟨.inl rfl,.inl rfl,.inl rfl,rfl,trivial⟩,rfl⟩
    ·have s1:¬ x.settle<=day:=ae s1
     have PO:=m5 hE' (x:=vp) (C:=g.p) (k:=(x.cur,x.settle)) (m:=x.amt) rfl (by omega)
     have eC:eP day { g with h:=H2 } x=⟨H2,g.c,cN g.p (x.cur,x.settle) x.amt⟩:=by unfold eP;rw [if_neg s1]
     rw [eC]
     refine ⟨_,rfl,_,rfl,_,rfl,_,rfl,_,ms ((x.cur,x.settle),x.amt) rfl,?_⟩
     refine .inr (.inr (.inr ⟨[(9611,9703)],[9601],[_,_],[_],_,PO,rfl,⟨.inl rfl,trivial⟩,by kernel_rfl,(by change _=true;kernel_rfl),?_⟩))
     rintro r U ⟨hv,rfl⟩
     generalize cN g.p (x.cur,x.settle) x.amt=C2 at hv ⊢
     obtain ⟨ya,yc,rfl⟩:=hv.len
     refine ⟨by kernel_rfl,by decide,rfl,#[.slice yb H2.length yd,vc,.slice ya C2.length yc],rfl,by kernel_rfl,?_⟩
     exact ⟨[(9701,Blk.own (.slice yb H2.length yd) 66 2 H2.length (cat ao H2)),(9702,Blk.own vc 49 3 g.c.length (cat ai g.c)),(9703,Blk.own (.slice ya C2.length yc) 49 3 C2.length (cat ai C2)),(9700,Blk.row 40 3 #[.slice yb H2.length yd,vc,.slice ya C2.length yc])],[(9701,9600),(9703,9601)],⟨⟨H2,g.c,C2⟩,.slice yb H2.length yd,vc,.slice ya C2.length yc,hv2,hc,hv,rfl,rfl,rfl⟩,⟨.inl rfl,.inl rfl,.inl rfl,rfl,trivial⟩,rfl⟩
 ·have k1:¬ x.kind=1:=by have k1:(x.kind == 1)=false:=k1;simpa using k1
  have eR:j0 day g x=.ok (eP day g x):=by unfold j0;rw [if_neg k1]
  rw [eR]
  refine ⟨_,rfl,fun s1=>?_,fun s1=>?_⟩
  ·have s1:x.settle<=day:=ab s1
   have PO:=m5 hE' (x:=vc) (C:=g.c) (k:=(x.cur,0)) (m:=x.amt) rfl (by omega)
   refine ⟨_,rfl,_,rfl,_,rfl,_,oC x.cur x.amt rfl,?_⟩
   refine .inr (.inr (.inr ⟨[(9611,9702)],[9601],[_,_],[_],_,PO,rfl,⟨.inl rfl,trivial⟩,by kernel_rfl,(by change _=true;kernel_rfl),?_⟩))
   rintro r U ⟨hv,rfl⟩
   obtain ⟨ya,yc,rfl⟩:=hv.len
   have eC:eP day g x=⟨g.h,cN g.c (x.cur,0) x.amt,g.p⟩:=by unfold eP;rw [if_pos s1]
   rw [eC]
   refine ⟨by kernel_rfl,by decide,rfl,#[vh,.slice ya (cN g.c (x.cur,0) x.amt).length yc,vp],rfl,by kernel_rfl,?_⟩
   exact ⟨[(9701,Blk.own vh 66 2 g.h.length (cat ao g.h)),(9702,Blk.own (.slice ya (cN g.c (x.cur,0) x.amt).length yc) 49 3 (cN g.c (x.cur,0) x.amt).length (cat ai (cN g.c (x.cur,0) x.amt))),(9703,Blk.own vp 49 3 g.p.length (cat ai g.p)),(9700,Blk.row 40 3 #[vh,.slice ya (cN g.c (x.cur,0) x.amt).length yc,vp])],[(9702,9601)],⟨⟨g.h,cN g.c (x.cur,0) x.amt,g.p⟩,vh,.slice ya (cN g.c (x.cur,0) x.amt).length yc,vp,hh,hv,hp,rfl,rfl,rfl⟩,⟨.inl rfl,.inl rfl,.inl rfl,rfl,trivial⟩,rfl⟩
  ·have s1:¬ x.settle<=day:=ae s1
   have PO:=m5 hE' (x:=vp) (C:=g.p) (k:=(x.cur,x.settle)) (m:=x.amt) rfl (by omega)
   refine ⟨_,rfl,_,rfl,_,rfl,_,rfl,_,ms ((x.cur,x.settle),x.amt) rfl,?_⟩
   refine .inr (.inr (.inr ⟨[(9611,9703)],[9601],[_,_],[_],_,PO,rfl,⟨.inl rfl,trivial⟩,by kernel_rfl,(by change _=true;kernel_rfl),?_⟩))
   rintro r U ⟨hv,rfl⟩
   obtain ⟨ya,yc,rfl⟩:=hv.len
   have eC:eP day g x=⟨g.h,g.c,cN g.p (x.cur,x.settle) x.amt⟩:=by unfold eP;rw [if_neg s1]
   rw [eC]
   refine ⟨by kernel_rfl,by decide,rfl,#[vh,vc,.slice ya (cN g.p (x.cur,x.settle) x.amt).length yc],rfl,by kernel_rfl,?_⟩
   exact ⟨[(9701,Blk.own vh 66 2 g.h.length (cat ao g.h)),(9702,Blk.own vc 49 3 g.c.length (cat ai g.c)),(9703,Blk.own (.slice ya (cN g.p (x.cur,x.settle) x.amt).length yc) 49 3 (cN g.p (x.cur,x.settle) x.amt).length (cat ai (cN g.p (x.cur,x.settle) x.amt))),(9700,Blk.row 40 3 #[vh,vc,.slice ya (cN g.p (x.cur,x.settle) x.amt).length yc])],[(9703,9601)],⟨⟨g.h,g.c,cN g.p (x.cur,x.settle) x.amt⟩,vh,vc,.slice ya (cN g.p (x.cur,x.settle) x.amt).length yc,hh,hc,hv,rfl,rfl,rfl⟩,⟨.inl rfl,.inl rfl,.inl rfl,rfl,trivial⟩,rfl⟩
def n9 (g:Led) (a:AC):Except Int Led :=
 if (aF a (ay g.h a.ins)).2≠0 then .error (aF a (ay g.h a.ins)).2
 else if a.kind=3 then
  if w64 ((aF a (ay g.h a.ins)).1.qty+ay (dt g.h a.ins 0) a.into) > 1000000000000000 then .error 171
  else .ok ⟨dt (dt g.h a.ins 0) (aF a (ay g.h a.ins)).1.ins (w64 ((aF a (ay g.h a.ins)).1.qty+ay (dt g.h a.ins 0) a.into)),cN g.c (a.cur,0) (aF a (ay g.h a.ins)).1.cash,g.p⟩
 else .ok ⟨dt g.h (aF a (ay g.h a.ins)).1.ins (aF a (ay g.h a.ins)).1.qty,cN g.c (a.cur,0) (aF a (ay g.h a.ins)).1.cash,g.p⟩
def qH (day:Int) (g:Led):Ev->Except Int Led
 | .inl a=>n9 g a
 | .inr x=>j0 day g x
def kt (day:Int):Led->List Ev->Except Int Led
 | g,[]=>.ok g
 | g,o :: r=>match qH day g o with
  | .error e=>.error e
  | .ok g'=>kt day g' r
def Hd (g:Except Int Led):Led×Int:=match g with
 | .error e=>(.zero,e)
 | .ok g=>pfL ⟨nzf g.h,nzf g.c,nzf g.p⟩
structure SimG (r g:Led):Prop where
 h:Sim ltB r.h g.h
 c:Sim bx r.c g.c
 p:Sim bx r.p g.p
theorem SimG.zero:SimG .zero .zero:=⟨Sim.nil _,Sim.nil _,Sim.nil _⟩
def HOk (H:List (Bs×Int)):Prop:=(SrtA ltB H/\NzA H)/\HB H
theorem HOk.set {H:List (Bs×Int)} (h:HOk H) (k:Bs) {v:Int} (hv:0<=v/\v<=1000000000000000):HOk (cM ltB H k v) :=
 ⟨⟨(eE cJ h.1.1 k v).srt,oq cJ h.1.1 h.1.2 k v⟩,HB.set h.2 h.1.1 hv⟩
theorem HOk.hold {H H':List (Bs×Int)} (h:HOk H) {k:Bs} {n:Int} (e:fl H k n=.ok H'):HOk H'/\H'=cM ltB H k (ay H k+n)/\0<=ay H k+n/\ay H k+n<=1000000000000000:=by
 unfold fl at e
 split at e
 ·cases e
 ·split at e
  ·cases e
  ·cases e
   exact ⟨h.set k (by omega),rfl,by omega,by omega⟩
theorem wF {f:List (Ky×Int)} (h:SrtA bx f/\NzA f) (k:Ky) (n:Int):SrtA bx (kS f k n)/\NzA (kS f k n) :=
 ⟨(eE bB h.1 k _).srt,oq bB h.1 h.2 k _⟩
theorem LedOk.hok {g:Led} (h:LedOk g):HOk g.h:=⟨h.h,h.b⟩
theorem zy {day:Int} {g:Led} (h:LedOk g) (x:EC):LedOk (aN day g x):=by
 unfold aN
 split
 ·exact ⟨h.h,wF h.c _ _,h.p,h.b⟩
 ·exact ⟨h.h,h.c,wF h.p _ _,h.b⟩
theorem tl {g g':Led} (h:LedOk g) {a:AC} (e:iV g a=.ok g'):LedOk g'/\g'.h.length<=g.h.length+2/\g'.c.length<=g.c.length+1/\g'.p=g.p:=by
 unfold iV at e
 split at e
 ·cases e
 ·split at e
  ·cases e
  ·rename_i H hH
   cases e
   obtain ⟨h1,h2,-,-⟩:=(h.hok.set a.ins (v:=0) (by decide)).hold hH
   refine ⟨⟨h1.1,wF h.c _ _,h.p,h1.2⟩,?_,fi _ _ _,rfl⟩
   show H.length<=_
   rw [h2]
   have l1:=fi (lt:=ltB) (cM ltB g.h a.ins 0) (aF a (ay g.h a.ins)).1.ins (ay (cM ltB g.h a.ins 0) (aF a (ay g.h a.ins)).1.ins+(aF a (ay g.h a.ins)).1.qty)
   have l2:=fi (lt:=ltB) g.h a.ins 0
   omega
theorem wu (day:Int) (g:Led) (x:EC):(aN day g x).c.length<=g.c.length+1/\(aN day g x).p.length<=g.p.length+1:=by
 unfold aN
 split
 ·exact ⟨fi _ _ _,by simp⟩
 ·exact ⟨by simp,fi _ _ _⟩
theorem sS {day:Int} {g g':Led} (h:LedOk g) {x:EC} (e:iO day g x=.ok g'):LedOk g'/\g'.h.length<=g.h.length+1/\g'.c.length<=g.c.length+1/\g'.p.length<=g.p.length+1:=by
 have hs:=zy (day:=day) h x
 have hl:=wu day g x
 unfold iO at e
 split at e
 ·cases e
  exact ⟨hs,by rw [oW];omega,hl.1,hl.2⟩
 ·split at e
  ·cases e
  ·rename_i H hH
   cases e
   obtain ⟨h1,h2,-,-⟩:=h.hok.hold hH
   refine ⟨⟨h1.1,hs.c,hs.p,h1.2⟩,?_,hl.1,hl.2⟩
   show H.length<=_
   rw [h2];exact fi _ _ _
theorem tL {day:Int} {g g':Led} (h:LedOk g) {o:Ev} (e:tM day g o=.ok g'):LedOk g'/\g'.h.length<=g.h.length+2/\g'.c.length<=g.c.length+1/\g'.p.length<=g.p.length+1:=by
 cases o with
 | inl a =>
  obtain ⟨h1,h2,h3,h4⟩:=tl h e
  exact ⟨h1,h2,h3,by rw [h4];omega⟩
 | inr x =>
  obtain ⟨h1,h2,h3,h4⟩:=sS h e
  exact ⟨h1,by omega,h3,h4⟩
theorem o7 {r l:List (Bs×Int)} (h:Sim ltB r l) (hs:SrtA ltB l) (k:Bs) (v:Int):Sim ltB (dt r k v) (cM ltB l k v):=h.set cJ hs (o6 h.srt k v)
theorem pe {r l:List (Ky×Int)} (h:Sim bx r l) (hs:SrtA bx l) (k:Ky) {n:Int} (hn:w64 n=n):Sim bx (cN r k n) (kS l k n):=by
 have u:=B7 h.srt k hn
 rw [h.get] at u
 exact h.set bB hs u
def DQ:Except Int Led->Except Int Led->Prop
 | .error e,.error e'=>e=e'
 | .ok g,.ok r=>SimG r g
 | _,_=>False
theorem xr {a:AC} {q:Int} (h:(aF a q).2=0):w64 (aF a q).1.cash=(aF a q).1.cash:=by
 unfold aF at h ⊢
 split at h
 ·cases h
 rename_i h1
 split at h
 ·cases h
 rename_i h2
 split at h
 ·cases h
 rename_i h3
 split at h
 ·rename_i h4;exact absurd h h4
 rename_i h4
 rw [if_neg h1,if_neg h2,if_neg h3,if_neg h4]
 show w64 (lC (fD (jZ (dV a q) a.cash).1 2 6)).1=(lC (fD (jZ (dV a q) a.cash).1 2 6)).1
 refine oI ?_
 unfold lC
 split
 ·show -9223372036854775808<=(0:Int)/\(0:Int)<=9223372036854775807
  decide
 ·split
  ·show -9223372036854775808<=(0:Int)/\(0:Int)<=9223372036854775807
   decide
  ·rename_i h5;simp only;omega
theorem FE {g r:Led} (h:LedOk g) (hs:SimG r g) (a:AC):DQ (iV g a) (n9 r a):=by
 have hg:=hs.h.get a.ins
 unfold iV n9
 rw [hg]
 by_cases h1:(aF a (ay g.h a.ins)).2≠0
 ·rw [if_pos h1,if_pos h1];rfl
 rw [if_neg h1,if_neg h1]
 obtain ⟨q1,q2,q3,q4,q5,q6⟩:=vO (Classical.not_not.1 h1)
 have hc:=xr (Classical.not_not.1 h1)
 have hC:=pe hs.c h.c.1 (a.cur,0) hc
 have h0:=h.hok.set a.ins (v:=0) (by decide)
 have s0:=o7 hs.h h.h.1 a.ins 0
 generalize (aF a (ay g.h a.ins)).1=x at q3 q4 q6 hC ⊢
 by_cases h3:a.kind=3
 ·rw [if_pos h3]
  have hi:x.ins=a.into:=by rw [q6];unfold gB;rw [if_pos h3]
  rw [s0.get,hi]
  have hb:=HB.get h0.2 a.into
  have ew:w64 (x.qty+ay (cM ltB g.h a.ins 0) a.into)=ay (cM ltB g.h a.ins 0) a.into+x.qty:=by rw [oI (by omega)];omega
  rw [ew]
  unfold fl
  rw [if_neg (by omega)]
  by_cases h4:ay (cM ltB g.h a.ins 0) a.into+x.qty > 1000000000000000
  ·rw [if_pos h4,if_pos h4];rfl
  ·rw [if_neg h4,if_neg h4]
   exact ⟨o7 s0 h0.1.1 a.into _,hC,hs.p⟩
 ·rw [if_neg h3]
  have hi:x.ins=a.ins:=by rw [q6];unfold gB;rw [if_neg h3]
  rw [hi]
  have hz:ay (cM ltB g.h a.ins 0) a.ins=0:=by rw [(eE cJ h.h.1 a.ins 0).get,if_pos rfl]
  unfold fl
  rw [hz,if_neg (by omega),if_neg (by omega)]
  refine ⟨⟨(o6 hs.h.srt a.ins x.qty).srt,fun k'=>?_⟩,hC,hs.p⟩
  show ay (dt r.h a.ins x.qty) k'=ay (cM ltB (cM ltB g.h a.ins 0) a.ins (0+x.qty)) k'
  rw [(o6 hs.h.srt a.ins x.qty).get,(eE cJ h0.1.1 a.ins (0+x.qty)).get,(eE cJ h.h.1 a.ins 0).get,hs.h.get,Int.zero_add]
  by_cases hk:k'=a.ins
  ·rw [if_pos hk,if_pos hk]
  ·rw [if_neg hk,if_neg hk,if_neg hk]
structure EOk (x:EC):Prop where
 q : -1000000000000000<=x.qty/\x.qty<=1000000000000000
 m:w64 x.amt=x.amt
 d:0<=x.day/\x.day<=73048
 k:x.kind=1\/x.kind=2\/(x.kind=0/\x.qty=0)
theorem gE {n lo hi:Int}:inB n lo hi=true↔lo<=n/\n<=hi:=by
 unfold inB
 rw [Bool.and_eq_true,decide_eq_true_eq,decide_eq_true_eq]
theorem EC.beq_nil {x:EC} {key:List UInt8} {known:Int} (h:x.beq (.nil key known)=true):x.kind=0/\x.day=0/\x.qty=0/\x.amt=0:=by
 unfold EC.beq EC.nil at h
 simp only [Bool.and_eq_true,beq_iff_eq] at h
 exact ⟨h.1,h.2.2.1,h.2.2.2.2.2.1,h.2.2.2.2.2.2.1⟩
theorem EOk.of {x:EC} (h:aV x=true):EOk x:=by
 unfold aV at h
 simp only [Bool.and_eq_true] at h
 obtain ⟨-,h⟩:=h
 split at h
 ·obtain ⟨h1,h2,h3,h4⟩:=EC.beq_nil h
  exact ⟨by omega,by rw [h4];rfl,by omega,.inr (.inr ⟨h1,h3⟩)⟩
 ·simp only [Bool.and_eq_true,dh,gE,decide_eq_true_eq] at h
  obtain ⟨⟨h1,h2,h3,-⟩,h4⟩:=h
  have hm:w64 x.amt=x.amt:=oI (by omega)
  unfold dD at h4
  split at h4
  ·rename_i hk
   simp only [Bool.and_eq_true,gE] at h4
   exact ⟨h4.2.2,hm,by omega,.inl hk⟩
  ·split at h4
   ·rename_i hk
    simp only [Bool.and_eq_true,beq_iff_eq] at h4
    exact ⟨by omega,hm,by omega,.inr (.inl hk)⟩
   ·cases h4
theorem ko {day:Int} {g r:Led} (h:LedOk g) (hs:SimG r g) {x:EC} (hx:EOk x) {H R:List (Bs×Int)} (hh:Sim ltB R H):SimG (eP day { r with h:=R } x) { aN day g x with h:=H }:=by
 unfold eP aN
 split
 ·exact ⟨hh,pe hs.c h.c.1 _ hx.m,hs.p⟩
 ·exact ⟨hh,hs.c,pe hs.p h.p.1 _ hx.m⟩
theorem Fg {day:Int} {g r:Led} (h:LedOk g) (hs:SimG r g) {x:EC} (hx:EOk x):DQ (iO day g x) (j0 day r x):=by
 have hb:=HB.get h.b x.ins
 have hg:=hs.h.get x.ins
 have hq:=hx.q
 unfold iO j0
 rcases hx.k with k1 | k1 | ⟨k1,k2⟩
 ·rw [if_neg (by omega),if_pos k1,hg,oI (n:=ay g.h x.ins+x.qty) (by omega)]
  unfold fl
  by_cases h1:ay g.h x.ins+x.qty < 0
  ·rw [if_pos h1,if_pos h1];rfl
  ·rw [if_neg h1,if_neg h1]
   by_cases h2:ay g.h x.ins+x.qty > 1000000000000000
   ·rw [if_pos h2,if_pos h2];rfl
   ·rw [if_neg h2,if_neg h2]
    exact ko h hs hx (o7 hs.h h.h.1 x.ins _)
 ·rw [if_pos k1,if_neg (by omega)]
  have:=ko (day:=day) h hs hx (H:=(aN day g x).h) (R:=r.h) (by rw [oW];exact hs.h)
  exact this
 ·rw [if_neg (by omega),if_neg (by omega)]
  have e:fl g.h x.ins x.qty=.ok g.h:=by
   unfold fl
   rw [k2,if_neg (by omega),if_neg (by omega),Int.add_zero]
   rw [<- sh cJ h.h.1 h.h.2 (Upd.same h.h.1 x.ins) h.h.2]
  rw [e]
  exact ko h hs hx hs.h
theorem xQ {day:Int}:∀ (ops:List Ev) {g r:Led},LedOk g->SimG r g->(∀ x,Sum.inr x∈ops->EOk x)->Hd (kt day r ops)=C3 (ft day g ops)
 | [],g,r,h,hs,_=>by
  show pfL ⟨nzf r.h,nzf r.c,nzf r.p⟩=C3 (.ok g)
  rw [hs.h.nzf cJ h.h.1 h.h.2,hs.c.nzf bB h.c.1 h.c.2,hs.p.nzf bB h.p.1 h.p.2]
  rfl
 | o :: l,g,r,h,hs,hx=>by
  have S:DQ (tM day g o) (qH day r o):=by
   cases o with
   | inl a=>exact FE h hs a
   | inr x=>exact Fg h hs (hx x (by simp))
  rw [ft,kt]
  cases e1:tM day g o with
  | error e =>
   rw [e1] at S
   cases e2:qH day r o with
   | error e' =>
    rw [e2] at S
    have S:e=e':=S
    subst S;rfl
   | ok r'=>rw [e2] at S;exact S.elim
  | ok g' =>
   rw [e1] at S
   cases e2:qH day r o with
   | error e'=>rw [e2] at S;exact S.elim
   | ok r' =>
    rw [e2] at S
    exact xQ l (tL h e1).1 S fun x hx'=>hx x (by simp [hx'])
def atP (xs:List EC) (al:List AC) (k day:Int):Led×Int :=
 if cP xs≠0 then (.zero,cP xs) else if cR al≠0 then (.zero,cR al) else if inB day 0 73048=false then (.zero,50) else C3 (ft day .zero (kU (eo al k) (d9 xs k) day))
theorem rP {xs:List EC} {k:Int}:∀ x∈d9 xs k,x∈xs/\EOk x:=fun x hx=>by
 unfold d9 at hx
 split at hx
 ·rename_i h
  obtain ⟨i,-,hi⟩:=List.mem_filterMap.1 hx
  have hm:=List.mem_of_getElem? hi
  refine ⟨hm,.of ?_⟩
  unfold cP at h
  split at h
  ·rename_i h';exact List.all_eq_true.1 h' x hm
  ·cases h
 ·cases hx
theorem oO {al:List AC} {k:Int}:∀ x∈eo al k,x∈al/\bh x=true:=fun x hx=>by
 unfold eo at hx
 split at hx
 ·rename_i h
  obtain ⟨i,-,hi⟩:=List.mem_filterMap.1 hx
  have hm:=List.mem_of_getElem? hi
  refine ⟨hm,?_⟩
  unfold cR at h
  split at h
  ·rename_i h';exact List.all_eq_true.1 h' x hm
  ·cases h
 ·cases hx
theorem Ey {al:List AC} {xs:List EC} {day:Int} {o:Ev} (h:o∈kU al xs day):(∃ a∈al,o=.inl a)\/∃ x∈xs,o=.inr x:=by
 unfold kU at h
 have h:=(bj dp _).perm.mem_iff.1 h
 obtain ⟨h,-⟩:=List.mem_filter.1 h
 rcases List.mem_append.1 h with h | h
 ·obtain ⟨a,ha,rfl⟩:=List.mem_map.1 h
  exact .inl ⟨a,ha,rfl⟩
 ·obtain ⟨x,hx,rfl⟩:=List.mem_map.1 h
  exact .inr ⟨x,hx,rfl⟩
theorem Hw (xs:List EC) (al:List AC) (k day:Int):Hd (kt day .zero (kU (eo al k) (d9 xs k) day))=C3 (ft day .zero (kU (eo al k) (d9 xs k) day)) :=
 xQ _ .zero .zero fun x hx=>by
  rcases Ey hx with ⟨a,-,h⟩ | ⟨x',hx',h⟩
  ·cases h
  ·cases h;exact (rP x hx').2
def kY (d:Int):List Int->List Int
 | []=>[d]
 | a :: r=>if a < d then a :: kY d r else if a=d then a :: r else d :: a :: r
def ef (l:List Int) (d most:Int):List Int:=if d > most then l else kY d l
theorem pG (d:Int):∀ (l:List Int) (z:Int),z∈kY d l↔z∈l\/z=d
 | [],z=>by simp [kY]
 | a :: r,z=>by
  rw [kY]
  split
  ·rw [List.mem_cons,pG d r z,List.mem_cons]
   constructor
   ·rintro (h | h | h)
    ·exact .inl (.inl h)
    ·exact .inl (.inr h)
    ·exact .inr h
   ·rintro ((h | h) | h)
    ·exact .inl h
    ·exact .inr (.inl h)
    ·exact .inr (.inr h)
  ·split
   ·rename_i h
    constructor
    ·exact .inl
    ·rintro (h2 | h2)
     ·exact h2
     ·rw [h2,<- h];simp
   ·rw [List.mem_cons]
    constructor
    ·rintro (h | h)
     ·exact .inr h
     ·exact .inl h
    ·rintro (h | h)
     ·exact .inr h
     ·exact .inl h
theorem yC (d:Int):∀ {l:List Int},l.Pairwise (· < ·)->(kY d l).Pairwise (· < ·)
 | [],_=>by simp [kY]
 | a :: r,h=>by
  obtain ⟨h1,h2⟩:=List.pairwise_cons.1 h
  rw [kY]
  split
  ·rename_i h3
   refine List.pairwise_cons.2 ⟨fun z hz=>?_,yC d h2⟩
   rcases (pG d r z).1 hz with h4 | h4
   ·exact h1 z h4
   ·omega
  ·split
   ·exact h
   ·refine List.pairwise_cons.2 ⟨fun z hz=>?_,h⟩
    rcases List.mem_cons.1 hz with h4 | h4
    ·omega
    ·have:=h1 z h4;omega
theorem yD (d:Int):∀ (l:List Int) (i:Nat),(∀ (j:Nat) y,j < i->l[j]? = some y->y < d)->(∀ y,l[i]? = some y->¬ y < d)->i<=l.length->kY d l=if l[i]? = some d then l else l.take i++d :: l.drop i
 | [],i,_,_,h=>by
  have:i=0:=by simp at h;exact h
  subst this;rfl
 | a :: r,0,_,h2,_=>by
  have h3:=h2 a rfl
  rw [kY,if_neg h3]
  by_cases e:a=d
  ·rw [if_pos e,if_pos (by rw [e];rfl)]
  ·rw [if_neg e,if_neg (fun h=>e (by cases h;rfl))];rfl
 | a :: r,i+1,h1,h2,h3=>by
  have h4:=h1 0 a (by omega) rfl
  rw [kY,if_pos h4,yD d r i (fun j y hj hy=>h1 (j+1) y (by omega) (by simpa using hy)) (fun y hy=>h2 y (by simpa using hy)) (by simp at h3;omega)]
  show (a :: if r[i]? = some d then r else r.take i++d :: r.drop i)=if r[i]? = some d then a :: r else a :: r.take i++d :: r.drop i
  split<;>rfl
theorem uR (d:Int):∀ (l:List Int),(kY d l).length<=l.length+1
 | []=>by simp [kY]
 | a :: r=>by
  have:=uR d r
  rw [kY]
  split
  ·simp only [List.length_cons];omega
  ·split<;>simp only [List.length_cons]<;>omega
theorem CG (l:List Int) (d most:Int):(ef l d most).length<=l.length+1:=by
 unfold ef
 split
 ·omega
 ·exact uR d l
def dy (most:Int) (l:List Int) (ds:List Int):List Int:=ds.foldl (fun l d=>ef l d most) l
theorem Av {most:Int} {l ds:List Int} {i:Nat} {d:Int} (h:ds[i]? = some d):dy most l (ds.take (i+1))=ef (dy most l (ds.take i)) d most:=by
 rw [fR h]
 unfold dy
 rw [List.foldl_append];rfl
theorem Aw (most:Int) (l ds es:List Int):dy most l (ds++es)=dy most (dy most l ds) es:=by unfold dy;rw [List.foldl_append]
theorem vy (most:Int):∀ (ds l:List Int),l.Pairwise (· < ·)->(dy most l ds).Pairwise (· < ·)/\∀ z,z∈dy most l ds↔z∈l\/(z<=most/\z∈ds)
 | [],l,h=>⟨h,fun z=>by simp [dy]⟩
 | d :: r,l,h=>by
  have hp:(ef l d most).Pairwise (· < ·):=by
   unfold ef
   split
   ·exact h
   ·exact yC d h
  obtain ⟨h1,h2⟩:=vy most r _ hp
  refine ⟨h1,fun z=>(h2 z).trans ?_⟩
  have hm:z∈ef l d most↔z∈l\/(z=d/\d<=most):=by
   unfold ef
   split
   ·constructor
    ·exact .inl
    ·rintro (h | h)
     ·exact h
     ·omega
   ·rw [pG]
    constructor
    ·rintro (h | h)
     ·exact .inl h
     ·exact .inr ⟨h,by omega⟩
    ·rintro (h | h)
     ·exact .inl h
     ·exact .inr h.1
  rw [hm,List.mem_cons]
  constructor
  ·rintro ((h | ⟨h,h'⟩) | ⟨h,h'⟩)
   ·exact .inl h
   ·exact .inr ⟨by omega,.inl h⟩
   ·exact .inr ⟨h,.inr h'⟩
  ·rintro (h | ⟨h,h' | h'⟩)
   ·exact .inl (.inl h)
   ·exact .inl (.inr ⟨h',by omega⟩)
   ·exact .inr ⟨h,h'⟩
theorem jS (most:Int):∀ (ds l:List Int),(dy most l ds).length<=l.length+ds.length
 | [],l=>by simp [dy]
 | d :: r,l=>by
  have h1:=jS most r (ef l d most)
  have h2:=CG l d most
  show (dy most (ef l d most) r).length<=_
  simp only [List.length_cons];omega
def tk (al:List AC) (xs:List EC) (day:Int):List Int:=dy day [] (al.map AC.day++xs.map EC.day)
def onD (al:List AC) (xs:List EC) (d:Int):List Ev:=(al.filter fun a=>decide (a.day=d)).map (Sum.inl:AC->Ev)++(xs.filter fun x=>decide (x.day=d)).map (Sum.inr:EC->Ev)
theorem EB (al:List AC) (xs:List EC) (day:Int):kU al xs day=(tk al xs day).flatMap (onD al xs):=by
 obtain ⟨h1,h2⟩:=vy day (al.map AC.day++xs.map EC.day) [] .nil
 refine Cc al xs day h1 fun d=>(h2 d).trans ?_
 rw [List.mem_append,List.mem_map,List.mem_map]
 constructor
 ·rintro (h | ⟨h,h'⟩)
  ·cases h
  ·exact ⟨h,h'⟩
 ·exact fun h=>.inr h
/-! ### what is left of the two lists of the program -/
def bG (day:Int) (al:List AC) (xs:List EC):List Ev:=(aO dp (al.map (Sum.inl:AC->Ev)) (xs.map (Sum.inr:EC->Ev))).filter fun o=>decide (dp o<=day)
theorem Eb {al:List AC} (h:Srt AC.day al):Srt dp (al.map (Sum.inl:AC->Ev)):=List.pairwise_map.2 h
theorem Ea {xs:List EC} (h:Srt EC.day xs):Srt dp (xs.map (Sum.inr:EC->Ev)):=List.pairwise_map.2 h
theorem lE {day:Int} {al:List AC} {xs:List EC} (ha:Srt AC.day al) (hx:Srt EC.day xs) {o:Ev} {r:List Ev} (h:aO dp (al.map (Sum.inl:AC->Ev)) (xs.map (Sum.inr:EC->Ev))=o :: r) (hd:day < dp o):bG day al xs=[]:=by
 have hs:=jH dp (Eb ha) (Ea hx)
 unfold bG
 rw [h] at hs ⊢
 obtain ⟨h1,-⟩:=List.pairwise_cons.1 hs
 refine List.filter_eq_nil_iff.2 fun z hz=>?_
 simp only [decide_eq_true_eq]
 rcases List.mem_cons.1 hz with rfl | hz
 ·omega
 ·have:=h1 z hz;omega
theorem sC {a:AC} {al:List AC} {xs:List EC} (h:∀ x,xs[0]? = some x->a.day<=x.day):aO dp ((a :: al).map (Sum.inl:AC->Ev)) (xs.map (Sum.inr:EC->Ev))=.inl a :: aO dp (al.map (Sum.inl:AC->Ev)) (xs.map (Sum.inr:EC->Ev)):=by
 cases xs with
 | nil=>rw [List.map_nil,bX,bX];rfl
 | cons x r =>
  have:=h x rfl
  show aO dp (.inl a :: _) (.inr x :: _)=_
  rw [cS,if_pos (show dp (.inl a)<=dp (.inr x) from this)];rfl
theorem sB {x:EC} {al:List AC} {xs:List EC} (h:∀ a,al[0]? = some a->¬ a.day<=x.day):aO dp (al.map (Sum.inl:AC->Ev)) ((x :: xs).map (Sum.inr:EC->Ev))=.inr x :: aO dp (al.map (Sum.inl:AC->Ev)) (xs.map (Sum.inr:EC->Ev)):=by
 cases al with
 | nil=>rw [List.map_nil,bJ,bJ];rfl
 | cons a r =>
  have:=h a rfl
  show aO dp (.inl a :: _) (.inr x :: _)=_
  rw [cS,if_neg (show ¬ dp (.inl a)<=dp (.inr x) from this)];rfl
theorem BN {day:Int} {a:AC} {al:List AC} {xs:List EC} (h:∀ x,xs[0]? = some x->a.day<=x.day) (hd:a.day<=day):bG day (a :: al) xs=.inl a :: bG day al xs:=by
 unfold bG
 rw [sC h,List.filter_cons,if_pos (decide_eq_true (show dp (.inl a)<=day from hd))]
theorem BK {day:Int} {x:EC} {al:List AC} {xs:List EC} (h:∀ a,al[0]? = some a->¬ a.day<=x.day) (hd:x.day<=day):bG day al (x :: xs)=.inr x :: bG day al xs:=by
 unfold bG
 rw [sB h,List.filter_cons,if_pos (decide_eq_true (show dp (.inr x)<=day from hd))]
theorem BL (day:Int):bG day [] []=[]:=by
 unfold bG
 rw [List.map_nil,List.map_nil,bJ]
 rfl
theorem BM (al:List AC) (xs:List EC) (day:Int):bG day (bw AC.day al) (bw EC.day xs)=kU al xs day:=(zI al xs day).symm
def NH (U:az):Prop:=∀ d v e sz n A,aq U d=some (Blk.own v e sz n A)->∃ a c,v=.slice a n c/\n<=c
theorem OwnC.caps {E:Env} {f:FuncId} {vs:List SV} {pre:az} {Q:Value->az->Prop} (h:OwnC E f vs pre Q):OwnC E f vs pre (fun r U=>Q r U/\NH U) :=
 ⟨h.1,fun ρ w xs h1 h2=>(h.2 ρ w xs h1 h2).mono fun _e w' ⟨x,U,h3,h4,h5,h6⟩=>⟨x,U,h3,⟨h4,fun d v e sz n A hd=>by
  have h7:w'.ownsRow 0 e sz v n A.toList:=(h5.loose d _ hd rfl).2
  rcases h7.2 with ⟨h0,hn⟩ | ⟨g',cap',cur,hv,hb,hg,hnc,hcm,hcs,htake⟩
  ·exact ⟨none,0,by rw [h0,hn],by omega⟩
  ·exact ⟨_,cap',hv,hnc⟩⟩,h5,h6⟩⟩
def TailS (x:Value) (sz n i:Nat) (v:Value):Prop:=i<=n/\∃ a c,v=.slice a (n - i) c/\n - i<=c/\(i < n->∃ g c0,x=.slice (some ⟨g,0,none⟩) n c0/\a=some ⟨g,i*sz,none⟩)
theorem TailS.start {x:Value} {sz n:Nat} (h:IsL x n) (hc:∃ a c,x=.slice a n c/\n<=c):TailS x sz n 0 x:=by
 obtain ⟨a,c,rfl,hn⟩:=hc
 refine ⟨by omega,a,c,rfl,by omega,fun h0=>?_⟩
 rcases h with ⟨h1,h2⟩ | ⟨g,c0,h1⟩
 ·omega
 ·cases h1
  exact ⟨g,c,rfl,by rw [Nat.zero_mul]⟩
theorem TailS.next {x:Value} {sz n i c m:Nat} {a:Option Addr} (hz:sz≠0) (h:TailS x sz n i (.slice a m c)) (hi:i < n):TailS x sz n (i+1) (.slice (if c=1 then a else a.map (·.add (1*sz))) (m - 1) (c - 1)):=by
 obtain ⟨h1,a',c',h2,h3,h4⟩:=h
 cases h2
 refine ⟨by omega,_,_,rfl,by omega,fun h5=>?_⟩
 obtain ⟨g,c0,h6,rfl⟩:=h4 hi
 refine ⟨g,c0,h6,?_⟩
 rw [if_neg (by omega)]
 show some (Addr.add ⟨g,i*sz,none⟩ (1*sz))=_
 simp only [Addr.add,Nat.succ_mul,Nat.zero_mul,Nat.zero_add,if_neg hz]
theorem TailS.len {x v:Value} {sz n i:Nat} (h:TailS x sz n i v):∃ a c,v=.slice a (n - i) c:=by
 obtain ⟨-,a,c,h,-⟩:=h
 exact ⟨a,c,h⟩
theorem TailS.at {x v:Value} {sz n i:Nat} (h:TailS x sz n i v) (hi:i < n):∃ g c0 c,x=.slice (some ⟨g,0,none⟩) n c0/\v=.slice (some ⟨g,i*sz,none⟩) (n - i) c:=by
 obtain ⟨-,a,c,rfl,-,h4⟩:=h
 obtain ⟨g,c0,h5,rfl⟩:=h4 hi
 exact ⟨g,c0,c,h5,rfl⟩
theorem ru {P:Program} {t e:TypeId} (hu:P.underlying t=some (.slice e)):P.elem t=e:=by simp [Program.elem,hu]
theorem ic {E:VE} (hE:VOk E) {t e:TypeId} (hu:E.P.underlying t=some (.slice e)) {j:TI} (hj:E.tt e=some j) {a:Option Addr} {n cap:Nat} {k:IntKind} {x:Int} (i:Nat) (hx:x=i) (hi:i<=n):bD E.toEnv (Instr.sliceAt t (.slice a n cap) (some (.int k x)) none none) (.slice (if cap=i then a else a.map (·.add (i*j.size))) (n - i) (cap - i)):=fun w _=>by
 subst hx
 have he:=ru hu
 have hu2:E.P.underlying t=some (.slice (E.P.elem t)):=by rw [he];exact hu
 rw [run_sliceAt_slice _ t _ _ _ _ hu2,run_slice_l _ t a n cap hu2 k i (by omega) (by omega),he,Go.SX.run_sizeOf (hE _ j hj)]
 simp only [Result.andThen_ok,sliced,Int.toNat_natCast]
theorem zz {E:VE} (hE:VOk E) {t e:TypeId} (hu:E.P.underlying t=some (.slice e)) {j:TI} (hj:E.tt e=some j) {a:Option Addr} {n cap:Nat} {k:IntKind} {x:Int} (i:Nat) (hx:x=i) (hi:i<=cap):bD E.toEnv (Instr.sliceAt t (.slice a n cap) none (some (.int k x)) none) (.slice a i cap):=fun w _=>by
 subst hx
 have he:=ru hu
 have hu2:E.P.underlying t=some (.slice (E.P.elem t)):=by rw [he];exact hu
 rw [run_sliceAt_slice _ t _ _ _ _ hu2,run_slice_h _ t a n cap hu2 k i (by omega) (by omega),he,Go.SX.run_sizeOf (hE _ j hj)]
 simp only [Result.andThen_ok,sliced,Int.toNat_natCast,Nat.zero_mul,Nat.sub_zero]
 congr 2
 split
 ·rfl
 ·cases a with
  | none=>rfl
  | some a=>simp [Addr.add]
def AtQ (R:Led×Int) (r:Value) (U:az):Prop:=∃ xh xc xp,IsL xh R.1.h.length/\IsL xc R.1.c.length/\IsL xp R.1.p.length/\r=.tuple #[.agg #[xh,xc,xp],.int .i64 R.2]/\U=[(9506,Blk.own xh 66 2 R.1.h.length (cat ao R.1.h)),(9507,Blk.own xc 49 3 R.1.c.length (cat ai R.1.c)),(9508,Blk.own xp 49 3 R.1.p.length (cat ai R.1.p))]
theorem AtQ.bad (e:Int):AtQ (.zero,e) (.tuple #[.agg #[.slice none 0 0,.slice none 0 0,.slice none 0 0],.int .i64 e]) [(9506,Blk.own (.slice none 0 0) 66 2 0 #[]),(9507,Blk.own (.slice none 0 0) 49 3 0 #[]),(9508,Blk.own (.slice none 0 0) 49 3 0 #[])] :=
 ⟨.slice none 0 0,.slice none 0 0,.slice none 0 0,.nil,.nil,.nil,rfl,rfl⟩
theorem Hn {a:AC} (h:bh a=true):0<=a.day/\a.day<=73048:=by
 unfold bh at h
 simp only [Bool.and_eq_true] at h
 obtain ⟨-,h⟩:=h
 split at h
 ·unfold AC.beq AC.nil at h
  simp only [Bool.and_eq_true,beq_iff_eq] at h
  have:=h.2.2.2.2.1
  omega
 ·simp only [Bool.and_eq_true,cz,Bool.not_eq_true',decide_eq_false_iff_not] at h
  omega
theorem lj {xs:List EC} {k:Int} (h:cP xs=0):(d9 xs k).length<=4096:=by
 unfold d9
 rw [if_pos h,oB fun i hi=>mJ hi]
 have h1:=mK xs k
 have h2:=(nz h).2
 omega
theorem oP {al:List AC} {k:Int} (h:cR al=0):(eo al k).length<=4096:=by
 unfold eo
 rw [if_pos h,sN fun i hi=>oM hi]
 have h1:=oN al k
 have h2:=(nC h).2
 omega
theorem po (i:Nat):aZ (i*76) 0 eQ.size=i*76:=by
 show aZ (i*76) 0 76=i*76
 simp [aZ]
theorem pn (i:Nat):aZ (i*10) 0 dE.size=i*10:=by
 show aZ (i*10) 0 10=i*10
 simp [aZ]
theorem I3 {E:Env} (hE:E.P=Tryz.prog) {ve va:Value} {xs:List EC} {al:List AC} {k day:Int} (hv:Lst E ve 10 xs.length (cat EC.A xs)) (hva:Lst E va 76 al.length (cat AC.A al)) (hn:xs.length<=2000000000000) (hm:al.length<=1000000000000) (hin:∀ y∈xs,y.In) (hina:∀ y∈al,y.In):OwnC E 17 [SV.c ve,SV.c va,SV.c (.int .i64 k),SV.c (.int .i64 day)] [] (AtQ (atP xs al k day)):=by
 refine av [21,23] af ah Ku E hE [SV.c ve,SV.c va,SV.c (.int .i64 k),SV.c (.int .i64 day)] [] _ rfl rfl fun w X β hT=>?_
 have hv':=hv.of_old hT
 have hva':=hva.of_old hT
 have C1:=OwnC.caps (FK (E:=(aR Tryz.prog tt Tryz.f17.ntmps w X (aA [] β) [21,23]).toEnv) (k:=k) rfl hv' hn hin)
 have C2:=OwnC.caps (Gw (E:=(aR Tryz.prog tt Tryz.f17.ntmps w X (aA [] β) [21,23]).toEnv) (k:=k) rfl hva' hm hina)
 refine .inr (.inr (.inr ⟨[],[3000],[_,_],[],_,C1,rfl,trivial,rfl,trivial,?_⟩))
 rintro r U ⟨⟨sx,nx,hsx,rfl,hx,rfl⟩,hcx⟩
 refine ⟨rfl,?_⟩
 have bad:∀ e:Int,atP xs al k day=(.zero,e)->AtQ (atP xs al k day) (.tuple #[.agg #[.slice none 0 0,.slice none 0 0,.slice none 0 0],.int .i64 e]) [(9506,Blk.own (.slice none 0 0) 66 2 0 #[]),(9507,Blk.own (.slice none 0 0) 49 3 0 #[]),(9508,Blk.own (.slice none 0 0) 49 3 0 #[])]:=fun e h=>by
  rw [h];exact AtQ.bad e
 refine ⟨fun h=>?_,fun h=>?_⟩
 ·have h:(cP xs != 0)=true:=h
  have h:cP xs≠0:=by simpa using h
  have hP:atP xs al k day=(.zero,cP xs):=by unfold atP;rw [if_pos h]
  refine ⟨_,rfl,bu,?_⟩
  exact ⟨_,[],bad _ hP,⟨.inr ⟨rfl,rfl,rfl⟩,.inr ⟨rfl,rfl,rfl⟩,.inr ⟨rfl,rfl,rfl⟩,trivial⟩,rfl⟩
 have h:(cP xs != 0)=false:=h
 have hX:cP xs=0:=by simpa using h
 refine .inr (.inr (.inr ⟨[(3000,3001)],[3001],[_,_],[],_,C2,rfl,trivial,rfl,trivial,?_⟩))
 rintro r U ⟨⟨sa,na,hsa,rfl,ha,rfl⟩,hca⟩
 refine ⟨rfl,?_⟩
 refine ⟨fun h=>?_,fun h=>?_⟩
 ·have h:(cR al != 0)=true:=h
  have h:cR al≠0:=by simpa using h
  have hP:atP xs al k day=(.zero,cR al):=by unfold atP;rw [if_neg (fun h=>h hX),if_pos h]
  refine ⟨_,rfl,bu,?_⟩
  exact ⟨_,[],bad _ hP,⟨.inr ⟨rfl,rfl,rfl⟩,.inr ⟨rfl,rfl,rfl⟩,.inr ⟨rfl,rfl,rfl⟩,trivial⟩,rfl⟩
 have h:(cR al != 0)=false:=h
 have hA:cR al=0:=by simpa using h
 refine .inl ⟨_,fP day 0 73048,fun h=>?_,fun h=>?_⟩
 ·have h:(!(inB day 0 73048))=true:=h
  have h:inB day 0 73048=false:=by simpa using h
  have hP:atP xs al k day=(.zero,50):=by unfold atP;rw [if_neg (fun h=>h hX),if_neg (fun h=>h hA),if_pos h]
  refine ⟨_,rfl,bu,?_⟩
  exact ⟨_,[],bad _ hP,⟨.inr ⟨rfl,rfl,rfl⟩,.inr ⟨rfl,rfl,rfl⟩,.inr ⟨rfl,rfl,rfl⟩,trivial⟩,rfl⟩
 have h:(!(inB day 0 73048))=false:=h
 have hD:inB day 0 73048=true:=by simpa using h
 have hP:atP xs al k day=C3 (ft day .zero (kU (eo al k) (d9 xs k) day)):=by unfold atP;rw [if_neg (fun h=>h hX),if_neg (fun h=>h hA),if_neg (by rw [hD];decide)]
 have dX:f7 (d9 xs k):=fun z hz=>(rP z hz).2.d
 have dA:f8 (eo al k):=fun z hz=>Hn (oO z hz).2
 have nX:nx<=4096:=by rw [hsx];exact lj hX
 have nA:na<=4096:=by rw [hsa];exact oP hA
 have hcx:=hcx 3000 _ _ _ _ _ rfl
 have hca:=hca 3000 _ _ _ _ _ rfl
 have S1:=Ec (E:=(aR Tryz.prog tt Tryz.f17.ntmps w X (aA [] β) [21,23]).toEnv) rfl hx hsx (by omega) dX
 have S2:=Ed (E:=(aR Tryz.prog tt Tryz.f17.ntmps w X (aA [] β) [21,23]).toEnv) rfl ha hsa (by omega) dA
 refine .inr (.inr (.inl ⟨[(6000,3000)],[_,_],[_],_,[_],S1,rfl,⟨.inl rfl,trivial⟩,rfl,rfl,?_⟩))
 refine .inr (.inr (.inl ⟨[(6000,3001)],[_,_],[_],_,[_],S2,rfl,⟨.inl rfl,trivial⟩,rfl,rfl,?_⟩))
 refine ⟨#[fnW 43,.slice none 0 0],rfl,#[fnW 44,.slice none 0 0],rfl,#[fnW 44,.slice none 0 0],rfl,LdA (.slice none 0 0) (.slice none 0 0) (.slice none 0 0) day,rfl,?_⟩
 have sA:Srt AC.day (bw AC.day (eo al k)):=(bj AC.day _).srt
 have sX:Srt EC.day (bw EC.day (d9 xs k)):=(bj EC.day _).srt
 have lA:(bw AC.day (eo al k)).length=na:=by rw [(bj AC.day _).len];exact hsa.symm
 have lX:(bw EC.day (d9 xs k)).length=nx:=by rw [(bj EC.day _).len];exact hsx.symm
 have mA:∀ a∈bw AC.day (eo al k),a.In:=fun a h=>hina a (oO a ((bj AC.day _).perm.mem_iff.1 h)).1
 have mX:∀ x∈bw EC.day (d9 xs k),EOk x:=fun x h=>(rP x ((bj EC.day _).perm.mem_iff.1 h)).2
 rw [<- BM] at hP
 generalize bw AC.day (eo al k)=A at sA lA mA hP ⊢
 generalize bw EC.day (d9 xs k)=B at sX lX mX hP ⊢
 refine ⟨rfl,fun f m=>∃ (g:Led) (vh vc vp:Value),IsL vh g.h.length/\IsL vc g.c.length/\IsL vp g.p.length/\(g.h.length<=16384/\g.c.length<=8192/\g.p.length<=8192)/\atP xs al k day=pfL g/\f=[(8,SV.ptr 8 0),(13,SV.ptr 48 0)]/\m=[(8,Blk.row 40 3 #[.slice none 0 0,.slice none 0 0,.slice none 0 0]),(48,Blk.row 93 7 (LdA vh vc vp day)),(9501,Blk.own vh 136 2 (g.h).length (cat ao g.h)),(9504,Blk.own vc 183 3 (g.c).length (cat ai g.c)),(9505,Blk.own vp 183 3 (g.p).length (cat ai g.p))],?_,?_⟩
 rotate_left
 ·rintro f1 m1 ⟨g,vh,vc,vp,hh,hc,hp,hl,hF,rfl,rfl⟩
  have PO:=ui (E:=(aR Tryz.prog tt Tryz.f17.ntmps w X (aA [] β) [21,23]).toEnv) (day:=day) rfl hh hc hp (by omega)
  refine .inr (.inr (.inr ⟨[(9500,48)],[9506,9507,9508],[_],[_,_,_,_],_,PO,rfl,⟨.inl rfl,.inl rfl,.inl rfl,rfl,trivial⟩,rfl,trivial,?_⟩))
  rintro r U ⟨xh,xc,xp,q1,q2,q3,rfl,rfl⟩
  refine ⟨by kernel_rfl,?_⟩
  have Q:AtQ (atP xs al k day) (.tuple #[.agg #[xh,xc,xp],.int .i64 (pfL g).2]) [(9506,Blk.own xh 66 2 (pfL g).1.h.length (cat ao (pfL g).1.h)),(9507,Blk.own xc 49 3 (pfL g).1.c.length (cat ai (pfL g).1.c)),(9508,Blk.own xp 49 3 (pfL g).1.p.length (cat ai (pfL g).1.p))]:=by
   rw [hF];exact ⟨xh,xc,xp,q1,q2,q3,rfl,rfl⟩
  exact ⟨mo (bg q1) (bg q2) (bg q3),_,[],Q,⟨.inl rfl,.inl rfl,.inl rfl,trivial⟩,rfl⟩
 refine ⟨fun q f m=>∃ (i j:Nat) (va' vx':Value) (g:Led) (vh vc vp:Value),q=(na - i)+(nx - j)/\TailS sa 76 na i va'/\TailS sx 10 nx j vx'/\LedOk g/\IsL vh g.h.length/\IsL vc g.c.length/\IsL vp g.p.length/\(g.h.length<=2*(i+j)/\g.c.length<=i+j/\g.p.length<=i+j)/\ft day .zero (bG day A B)=ft day g (bG day (A.drop i) (B.drop j))/\f=[(3,SV.c (.int .i64 day)),(8,SV.ptr 8 0),(10,SV.c vx'),(12,SV.c va'),(13,SV.ptr 48 0)]/\m=[(8,Blk.row 40 3 #[.slice none 0 0,.slice none 0 0,.slice none 0 0]),(3000,Blk.own sx 31 10 nx (cat EC.A B)),(3001,Blk.own sa 61 76 na (cat AC.A A)),(48,Blk.row 93 7 (LdA vh vc vp day)),(9501,Blk.own vh 136 2 (g.h).length (cat ao g.h)),(9504,Blk.own vc 183 3 (g.c).length (cat ai g.c)),(9505,Blk.own vp 183 3 (g.p).length (cat ai g.p))],na+nx,⟨_,_,⟨0,0,sa,sx,.zero,.slice none 0 0,.slice none 0 0,.slice none 0 0,by omega,.start ha hca,.start hx hcx,.zero,.nil,.nil,.nil,⟨by decide,by decide,by decide⟩,rfl,rfl,rfl⟩,⟨rfl,rfl,rfl,rfl,rfl,trivial⟩,⟨rfl,.inl rfl,.inl rfl,rfl,.inr ⟨rfl,rfl,rfl⟩,.inr ⟨rfl,rfl,rfl⟩,.inr ⟨rfl,rfl,rfl⟩,trivial⟩,rfl⟩,?_⟩
 rintro q f m ⟨i,j,va',vx',g,vh,vc,vp,rfl,ta,tx,hg,hh,hc,hp,hl,hR,rfl,rfl⟩
 obtain ⟨aa,ac,rfl⟩:=ta.len
 obtain ⟨xa,xc,rfl⟩:=tx.len
 refine ⟨_,fun w' _=>am Tryz.underlying51 w',?_⟩
 refine ⟨fun c=>?_,fun c=>?_⟩
 ·have ci:i=na:=by have:=ae (show decide (((na - i:Nat):Int) > 0)=false from c);have:=ta.1;omega
  refine ⟨_,fun w' _=>am Tryz.underlying26 w',?_⟩
  refine ⟨fun c1=>?_,fun c1=>?_⟩
  ·have cj:j < nx:=by have:=ab (show decide (((nx - j:Nat):Int) > 0)=true from c1);omega
   refine ⟨fun f m=>∃ (i2 j2:Nat) (va2 vx2:Value) (g2:Led) (wh wc wp:Value) (e:Int),i2+j2=i+j+1/\TailS sa 76 na i2 va2/\TailS sx 10 nx j2 vx2/\IsL wh g2.h.length/\IsL wc g2.c.length/\IsL wp g2.p.length/\((e≠0/\ft day g (bG day (A.drop i) (B.drop j))=.error e)\/(e=0/\LedOk g2/\(g2.h.length<=2*(i2+j2)/\g2.c.length<=i2+j2/\g2.p.length<=i2+j2)/\ft day g (bG day (A.drop i) (B.drop j))=ft day g2 (bG day (A.drop i2) (B.drop j2))))/\f=[(3,SV.c (.int .i64 day)),(8,SV.ptr 8 0),(10,SV.c vx2),(12,SV.c va2),(13,SV.ptr 48 0),(14,SV.c (.int .i64 e))]/\m=[(8,Blk.row 40 3 #[.slice none 0 0,.slice none 0 0,.slice none 0 0]),(3000,Blk.own sx 31 10 nx (cat EC.A B)),(3001,Blk.own sa 61 76 na (cat AC.A A)),(48,Blk.row 93 7 (LdA wh wc wp day)),(9501,Blk.own wh 136 2 (g2.h).length (cat ao g2.h)),(9504,Blk.own wc 183 3 (g2.c).length (cat ai g2.c)),(9505,Blk.own wp 183 3 (g2.p).length (cat ai g2.p))],?_,?_⟩
   rotate_left
   ·rintro f1 m1 ⟨i2,j2,va2,vx2,g2,wh,wc,wp,e,hij,ta2,tx2,hh2,hc2,hp2,hE2,rfl,rfl⟩
    refine ⟨fun c=>?_,fun c=>?_⟩
    ·have c:(e != 0)=true:=c
     have c:e≠0:=by simpa using c
     rcases hE2 with ⟨-,hE2⟩ | ⟨hE2,-⟩
     ·refine ⟨_,rfl,bu,?_⟩
      exact ⟨_,[],bad e (by rw [hP,hR,hE2];rfl),⟨.inr ⟨rfl,rfl,rfl⟩,.inr ⟨rfl,rfl,rfl⟩,.inr ⟨rfl,rfl,rfl⟩,trivial⟩,rfl⟩
     ·exact absurd hE2 c
    ·have c:(e != 0)=false:=c
     have c:e=0:=by simpa using c
     rcases hE2 with ⟨hE2,-⟩ | ⟨-,hg2,hl2,hE2⟩
     ·exact absurd c hE2
     ·have t1:=ta2.1
      have t2:=tx2.1
      have t3:=ta.1
      have t4:=tx.1
      exact ⟨(na - i2)+(nx - j2),_,_,by omega,⟨i2,j2,va2,vx2,g2,wh,wc,wp,rfl,ta2,tx2,hg2,hh2,hc2,hp2,hl2,by rw [hR,hE2],rfl,rfl⟩,⟨rfl,rfl,rfl,rfl,rfl,trivial⟩,⟨rfl,.inl rfl,.inl rfl,rfl,.inl rfl,.inl rfl,.inl rfl,trivial⟩,rfl⟩
   obtain ⟨x,hx0⟩:∃ x,B[j]? = some x:=⟨_,List.getElem?_eq_getElem (show j < B.length by omega)⟩
   obtain ⟨gX,cX0,cX1,rfl,hvx2⟩:=tx.at cj
   cases hvx2
   have hdx:=cd hx0
   have LX:(cat EC.A B)[j*10+2]? = some (.int .i64 x.day):=(bN EC.size B j x 2 hx0 (by decide)).trans x.g2
   have hhead:∀ z,(A.drop i)[0]? = some z->¬ z.day<=x.day:=fun z hz=>by rw [List.drop_eq_nil_of_le (by omega)] at hz;cases hz
   refine ⟨_,fun w' _=>am Tryz.underlying26 w',?_⟩
   refine ⟨fun _=>?_,fun c3=>absurd c3 (by simp only [beq_iff_eq,Bool.not_false];omega)⟩
   refine ⟨_,fun w' _=>am Tryz.underlying51 w',?_⟩
   refine ⟨fun c4=>absurd c4 (by rw [decide_eq_false (by omega)];decide),fun _=>?_⟩
   refine ⟨by kernel_rfl,nofun,fun _=>?_⟩
   refine ⟨by omega,by omega,.inr ⟨3000,gX,_,nx,cX0,_,_,_,rfl,rfl,_,(by rw [pn];exact LX),?_⟩⟩
   refine ⟨fun c2=>?_,fun c2=>?_⟩
   ·have c2:day < x.day:=ab c2
    have hE3:bG day (A.drop i) (B.drop j)=[]:=by
     rw [hdx];exact lE sA.drop (by rw [<- hdx];exact sX.drop) (sB hhead) c2
    exact ⟨_,_,⟨g,vh,vc,vp,hh,hc,hp,by omega,by rw [hP,hR,hE3];rfl,rfl,rfl⟩,⟨rfl,rfl,trivial⟩,⟨rfl,rfl,.inl rfl,.inl rfl,.inl rfl,trivial⟩,rfl⟩
   ·have c2:¬ day < x.day:=ae c2
    have hE3:bG day (A.drop i) (B.drop j)=.inr x :: bG day (A.drop i) (B.drop (j+1)):=by
     rw [hdx];exact BK hhead (by omega)
    have AO:=yL (E:=(aR Tryz.prog tt Tryz.f17.ntmps w X (aA [] β) [21,23]).toEnv) (day:=day) rfl hg hh hc hp (by omega) (mX x (List.mem_of_getElem? hx0)).q
    have EA:=bc EC.size hx0
    have hszX:(cat EC.A B).size=nx*10:=by rw [Go.SX.cat_size EC.size,lX]
    generalize x.A=AA at AO EA
    refine ⟨by omega,by omega,.inr ⟨3000,gX,_,nx,cX0,_,_,_,rfl,rfl,(by rw [pn,hszX];show j*10+10<=nx*10;omega),AA,(by rw [pn];exact EA),?_⟩⟩
    refine .inr (.inr (.inr ⟨[(9500,48)],[],[_,_],[_,_,_,_],_,AO,rfl,⟨.inl rfl,.inl rfl,.inl rfl,rfl,trivial⟩,by kernel_rfl,trivial,?_⟩))
    rintro r U ⟨g2,wh,wc,wp,k1,k2,k3,rfl,hM⟩
    refine ⟨by kernel_rfl,_,ic (E:=(aR Tryz.prog tt Tryz.f17.ntmps w X (aA [] β) [21,23])) af Tryz.underlying26 (j:=dE) rfl 1 rfl (by omega),?_⟩
    have hrun:ft day g (bG day (A.drop i) (B.drop j))=match iO day g x with
     | .error e=>.error e
     | .ok g'=>ft day g' (bG day (A.drop i) (B.drop (j+1))):=by rw [hE3];rfl
    have tn:=tx.next (by decide) cj
    cases hS:iO day g x with
    | error e =>
     rw [hS] at hM hrun
     obtain ⟨rfl,he⟩:=hM
     exact ⟨_,_,⟨i,j+1,_,_,g2,wh,wc,wp,e,by omega,ta,tn,k1,k2,k3,.inl ⟨he,hrun⟩,rfl,rfl⟩,⟨rfl,rfl,rfl,rfl,rfl,rfl,trivial⟩,⟨rfl,.inl rfl,.inl rfl,rfl,.inl rfl,.inl rfl,.inl rfl,trivial⟩,rfl⟩
    | ok g' =>
     rw [hS] at hM hrun
     obtain ⟨rfl,rfl⟩:=hM
     obtain ⟨s1,s2,s3,s4⟩:=sS hg hS
     exact ⟨_,_,⟨i,j+1,_,_,g2,wh,wc,wp,0,by omega,ta,tn,k1,k2,k3,.inr ⟨rfl,s1,⟨by omega,by omega,by omega⟩,hrun⟩,rfl,rfl⟩,⟨rfl,rfl,rfl,rfl,rfl,rfl,trivial⟩,⟨rfl,.inl rfl,.inl rfl,rfl,.inl rfl,.inl rfl,.inl rfl,trivial⟩,rfl⟩
  ·have cj:j=nx:=by have:=ae (show decide (((nx - j:Nat):Int) > 0)=false from c1);have:=tx.1;omega
   have hE3:bG day (A.drop i) (B.drop j)=[]:=by
    rw [List.drop_eq_nil_of_le (by omega),List.drop_eq_nil_of_le (by omega)];exact BL day
   exact ⟨_,_,⟨g,vh,vc,vp,hh,hc,hp,by omega,by rw [hP,hR,hE3];rfl,rfl,rfl⟩,⟨rfl,rfl,trivial⟩,⟨rfl,rfl,.inl rfl,.inl rfl,.inl rfl,trivial⟩,rfl⟩
 ·have ci:i < na:=by have:=ab (show decide (((na - i:Nat):Int) > 0)=true from c);omega
  refine ⟨fun _=>?_,nofun⟩
  refine ⟨fun f m=>∃ (i2 j2:Nat) (va2 vx2:Value) (g2:Led) (wh wc wp:Value) (e:Int),i2+j2=i+j+1/\TailS sa 76 na i2 va2/\TailS sx 10 nx j2 vx2/\IsL wh g2.h.length/\IsL wc g2.c.length/\IsL wp g2.p.length/\((e≠0/\ft day g (bG day (A.drop i) (B.drop j))=.error e)\/(e=0/\LedOk g2/\(g2.h.length<=2*(i2+j2)/\g2.c.length<=i2+j2/\g2.p.length<=i2+j2)/\ft day g (bG day (A.drop i) (B.drop j))=ft day g2 (bG day (A.drop i2) (B.drop j2))))/\f=[(3,SV.c (.int .i64 day)),(8,SV.ptr 8 0),(10,SV.c vx2),(12,SV.c va2),(13,SV.ptr 48 0),(14,SV.c (.int .i64 e))]/\m=[(8,Blk.row 40 3 #[.slice none 0 0,.slice none 0 0,.slice none 0 0]),(3000,Blk.own sx 31 10 nx (cat EC.A B)),(3001,Blk.own sa 61 76 na (cat AC.A A)),(48,Blk.row 93 7 (LdA wh wc wp day)),(9501,Blk.own wh 136 2 (g2.h).length (cat ao g2.h)),(9504,Blk.own wc 183 3 (g2.c).length (cat ai g2.c)),(9505,Blk.own wp 183 3 (g2.p).length (cat ai g2.p))],?_,?_⟩
  rotate_left
  ·rintro f1 m1 ⟨i2,j2,va2,vx2,g2,wh,wc,wp,e,hij,ta2,tx2,hh2,hc2,hp2,hE2,rfl,rfl⟩
   refine ⟨fun c=>?_,fun c=>?_⟩
   ·have c:(e != 0)=true:=c
    have c:e≠0:=by simpa using c
    rcases hE2 with ⟨-,hE2⟩ | ⟨hE2,-⟩
    ·refine ⟨_,rfl,bu,?_⟩
     exact ⟨_,[],bad e (by rw [hP,hR,hE2];rfl),⟨.inr ⟨rfl,rfl,rfl⟩,.inr ⟨rfl,rfl,rfl⟩,.inr ⟨rfl,rfl,rfl⟩,trivial⟩,rfl⟩
    ·exact absurd hE2 c
   ·have c:(e != 0)=false:=c
    have c:e=0:=by simpa using c
    rcases hE2 with ⟨hE2,-⟩ | ⟨-,hg2,hl2,hE2⟩
    ·exact absurd c hE2
    ·have t1:=ta2.1
     have t2:=tx2.1
     have t3:=ta.1
     have t4:=tx.1
     exact ⟨(na - i2)+(nx - j2),_,_,by omega,⟨i2,j2,va2,vx2,g2,wh,wc,wp,rfl,ta2,tx2,hg2,hh2,hc2,hp2,hl2,by rw [hR,hE2],rfl,rfl⟩,⟨rfl,rfl,rfl,rfl,rfl,trivial⟩,⟨rfl,.inl rfl,.inl rfl,rfl,.inl rfl,.inl rfl,.inl rfl,trivial⟩,rfl⟩
  refine ⟨_,fun w' _=>am Tryz.underlying26 w',?_⟩
  obtain ⟨a,ha0⟩:∃ a,A[i]? = some a:=⟨_,List.getElem?_eq_getElem (show i < A.length by omega)⟩
  obtain ⟨gA,cA0,cA1,rfl,hva2⟩:=ta.at ci
  cases hva2
  have hda:=cd ha0
  refine ⟨fun c=>?_,fun c=>?_⟩
  ·have cj:j < nx:=by have c:((((nx - j:Nat):Int)) == 0)=false:=c;simp only [beq_eq_false_iff_ne] at c;omega
   obtain ⟨x,hx0⟩:∃ x,B[j]? = some x:=⟨_,List.getElem?_eq_getElem (show j < B.length by omega)⟩
   obtain ⟨gX,cX0,cX1,rfl,hvx2⟩:=tx.at cj
   cases hvx2
   have hdx:=cd hx0
   refine ⟨_,fun w' _=>am Tryz.underlying51 w',fun _=>?_,fun c=>absurd c (by rw [decide_eq_true (by omega)];decide)⟩
   have LA:(cat AC.A A)[i*76+4]? = some (.int .i64 a.day):=(bN AC.size A i a 4 ha0 (by decide)).trans a.g4
   have LX:(cat EC.A B)[j*10+2]? = some (.int .i64 x.day):=(bN EC.size B j x 2 hx0 (by decide)).trans x.g2
   refine ⟨by omega,by omega,.inr ⟨3001,gA,_,na,cA0,_,_,_,rfl,rfl,_,(by rw [po];exact LA),?_⟩⟩
   refine ⟨by omega,by omega,.inr ⟨3000,gX,_,nx,cX0,_,_,_,rfl,rfl,_,(by rw [pn];exact LX),?_⟩⟩
   refine ⟨by kernel_rfl,fun c1=>?_,fun c1=>?_⟩
   ·have c1:a.day<=x.day:=ab c1
    have hhead:∀ z,(B.drop j)[0]? = some z->a.day<=z.day:=fun z hz=>by rw [hdx] at hz;cases hz;exact c1
    refine ⟨by omega,by omega,.inr ⟨3001,gA,_,na,cA0,_,_,_,rfl,rfl,_,(by rw [po];exact LA),?_⟩⟩
    refine ⟨fun c2=>?_,fun c2=>?_⟩
    ·have c2:day < a.day:=ab c2
     have hE3:bG day (A.drop i) (B.drop j)=[]:=by
      rw [hda];exact lE (by rw [<- hda];exact sA.drop) sX.drop (sC hhead) c2
     exact ⟨_,_,⟨g,vh,vc,vp,hh,hc,hp,by omega,by rw [hP,hR,hE3];rfl,rfl,rfl⟩,⟨rfl,rfl,trivial⟩,⟨rfl,rfl,.inl rfl,.inl rfl,.inl rfl,trivial⟩,rfl⟩
    ·have c2:¬ day < a.day:=ae c2
     have hE3:bG day (A.drop i) (B.drop j)=.inl a :: bG day (A.drop (i+1)) (B.drop j):=by
      rw [hda];exact BN hhead (by omega)
     have AO:=Gk (E:=(aR Tryz.prog tt Tryz.f17.ntmps w X (aA [] β) [21,23]).toEnv) (day:=day) rfl hg hh hc hp (by omega) (mA a (List.mem_of_getElem? ha0))
     have EA:=bc AC.size ha0
     have hszA:(cat AC.A A).size=na*76:=by rw [Go.SX.cat_size AC.size,lA]
     generalize a.A=AA at AO EA
     refine ⟨by omega,by omega,.inr ⟨3001,gA,_,na,cA0,_,_,_,rfl,rfl,(by rw [po,hszA];show i*76+76<=na*76;omega),AA,(by rw [po];exact EA),?_⟩⟩
     refine .inr (.inr (.inr ⟨[(9500,48)],[],[_,_],[_,_,_,_],_,AO,rfl,⟨.inl rfl,.inl rfl,.inl rfl,rfl,trivial⟩,by kernel_rfl,trivial,?_⟩))
     rintro r U ⟨g2,wh,wc,wp,k1,k2,k3,rfl,hM⟩
     refine ⟨by kernel_rfl,_,ic (E:=(aR Tryz.prog tt Tryz.f17.ntmps w X (aA [] β) [21,23])) af Tryz.underlying51 (j:=eQ) rfl 1 rfl (by omega),?_⟩
     have hrun:ft day g (bG day (A.drop i) (B.drop j))=match iV g a with
      | .error e=>.error e
      | .ok g'=>ft day g' (bG day (A.drop (i+1)) (B.drop j)):=by rw [hE3];rfl
     have tn:=ta.next (by decide) ci
     cases hS:iV g a with
     | error e =>
      rw [hS] at hM hrun
      obtain ⟨rfl,he⟩:=hM
      exact ⟨_,_,⟨i+1,j,_,_,g2,wh,wc,wp,e,by omega,tn,tx,k1,k2,k3,.inl ⟨he,hrun⟩,rfl,rfl⟩,⟨rfl,rfl,rfl,rfl,rfl,rfl,trivial⟩,⟨rfl,.inl rfl,.inl rfl,rfl,.inl rfl,.inl rfl,.inl rfl,trivial⟩,rfl⟩
     | ok g' =>
      rw [hS] at hM hrun
      obtain ⟨rfl,rfl⟩:=hM
      obtain ⟨s1,s2,s3,s4⟩:=tl hg hS
      exact ⟨_,_,⟨i+1,j,_,_,g2,wh,wc,wp,0,by omega,tn,tx,k1,k2,k3,.inr ⟨rfl,s1,⟨by omega,by omega,by rw [s4];omega⟩,hrun⟩,rfl,rfl⟩,⟨rfl,rfl,rfl,rfl,rfl,rfl,trivial⟩,⟨rfl,.inl rfl,.inl rfl,rfl,.inl rfl,.inl rfl,.inl rfl,trivial⟩,rfl⟩
   ·have c1:¬ a.day<=x.day:=ae c1
    have hhead:∀ z,(A.drop i)[0]? = some z->¬ z.day<=x.day:=fun z hz=>by rw [hda] at hz;cases hz;exact c1
    refine ⟨by omega,by omega,.inr ⟨3000,gX,_,nx,cX0,_,_,_,rfl,rfl,_,(by rw [pn];exact LX),?_⟩⟩
    refine ⟨fun c2=>?_,fun c2=>?_⟩
    ·have c2:day < x.day:=ab c2
     have hE3:bG day (A.drop i) (B.drop j)=[]:=by
      rw [hdx];exact lE sA.drop (by rw [<- hdx];exact sX.drop) (sB hhead) c2
     exact ⟨_,_,⟨g,vh,vc,vp,hh,hc,hp,by omega,by rw [hP,hR,hE3];rfl,rfl,rfl⟩,⟨rfl,rfl,trivial⟩,⟨rfl,rfl,.inl rfl,.inl rfl,.inl rfl,trivial⟩,rfl⟩
    ·have c2:¬ day < x.day:=ae c2
     have hE3:bG day (A.drop i) (B.drop j)=.inr x :: bG day (A.drop i) (B.drop (j+1)):=by
      rw [hdx];exact BK hhead (by omega)
     have AO:=yL (E:=(aR Tryz.prog tt Tryz.f17.ntmps w X (aA [] β) [21,23]).toEnv) (day:=day) rfl hg hh hc hp (by omega) (mX x (List.mem_of_getElem? hx0)).q
     have EA:=bc EC.size hx0
     have hszX:(cat EC.A B).size=nx*10:=by rw [Go.SX.cat_size EC.size,lX]
     generalize x.A=AA at AO EA
     refine ⟨by omega,by omega,.inr ⟨3000,gX,_,nx,cX0,_,_,_,rfl,rfl,(by rw [pn,hszX];show j*10+10<=nx*10;omega),AA,(by rw [pn];exact EA),?_⟩⟩
     refine .inr (.inr (.inr ⟨[(9500,48)],[],[_,_],[_,_,_,_],_,AO,rfl,⟨.inl rfl,.inl rfl,.inl rfl,rfl,trivial⟩,by kernel_rfl,trivial,?_⟩))
     rintro r U ⟨g2,wh,wc,wp,k1,k2,k3,rfl,hM⟩
     refine ⟨by kernel_rfl,_,ic (E:=(aR Tryz.prog tt Tryz.f17.ntmps w X (aA [] β) [21,23])) af Tryz.underlying26 (j:=dE) rfl 1 rfl (by omega),?_⟩
     have hrun:ft day g (bG day (A.drop i) (B.drop j))=match iO day g x with
      | .error e=>.error e
      | .ok g'=>ft day g' (bG day (A.drop i) (B.drop (j+1))):=by rw [hE3];rfl
     have tn:=tx.next (by decide) cj
     cases hS:iO day g x with
     | error e =>
      rw [hS] at hM hrun
      obtain ⟨rfl,he⟩:=hM
      exact ⟨_,_,⟨i,j+1,_,_,g2,wh,wc,wp,e,by omega,ta,tn,k1,k2,k3,.inl ⟨he,hrun⟩,rfl,rfl⟩,⟨rfl,rfl,rfl,rfl,rfl,rfl,trivial⟩,⟨rfl,.inl rfl,.inl rfl,rfl,.inl rfl,.inl rfl,.inl rfl,trivial⟩,rfl⟩
     | ok g' =>
      rw [hS] at hM hrun
      obtain ⟨rfl,rfl⟩:=hM
      obtain ⟨s1,s2,s3,s4⟩:=sS hg hS
      exact ⟨_,_,⟨i,j+1,_,_,g2,wh,wc,wp,0,by omega,ta,tn,k1,k2,k3,.inr ⟨rfl,s1,⟨by omega,by omega,by omega⟩,hrun⟩,rfl,rfl⟩,⟨rfl,rfl,rfl,rfl,rfl,rfl,trivial⟩,⟨rfl,.inl rfl,.inl rfl,rfl,.inl rfl,.inl rfl,.inl rfl,trivial⟩,rfl⟩
  ·have cj:j=nx:=by have c:((((nx - j:Nat):Int)) == 0)=true:=c;simp only [beq_iff_eq] at c;have:=tx.1;omega
   have LA:(cat AC.A A)[i*76+4]? = some (.int .i64 a.day):=(bN AC.size A i a 4 ha0 (by decide)).trans a.g4
   have hhead:∀ z,(B.drop j)[0]? = some z->a.day<=z.day:=fun z hz=>by rw [List.drop_eq_nil_of_le (by omega)] at hz;cases hz
   refine ⟨by kernel_rfl,fun _=>?_,nofun⟩
   refine ⟨by omega,by omega,.inr ⟨3001,gA,_,na,cA0,_,_,_,rfl,rfl,_,(by rw [po];exact LA),?_⟩⟩
   refine ⟨fun c2=>?_,fun c2=>?_⟩
   ·have c2:day < a.day:=ab c2
    have hE3:bG day (A.drop i) (B.drop j)=[]:=by
     rw [hda];exact lE (by rw [<- hda];exact sA.drop) sX.drop (sC hhead) c2
    exact ⟨_,_,⟨g,vh,vc,vp,hh,hc,hp,by omega,by rw [hP,hR,hE3];rfl,rfl,rfl⟩,⟨rfl,rfl,trivial⟩,⟨rfl,rfl,.inl rfl,.inl rfl,.inl rfl,trivial⟩,rfl⟩
   ·have c2:¬ day < a.day:=ae c2
    have hE3:bG day (A.drop i) (B.drop j)=.inl a :: bG day (A.drop (i+1)) (B.drop j):=by
     rw [hda];exact BN hhead (by omega)
    have AO:=Gk (E:=(aR Tryz.prog tt Tryz.f17.ntmps w X (aA [] β) [21,23]).toEnv) (day:=day) rfl hg hh hc hp (by omega) (mA a (List.mem_of_getElem? ha0))
    have EA:=bc AC.size ha0
    have hszA:(cat AC.A A).size=na*76:=by rw [Go.SX.cat_size AC.size,lA]
    generalize a.A=AA at AO EA
    refine ⟨by omega,by omega,.inr ⟨3001,gA,_,na,cA0,_,_,_,rfl,rfl,(by rw [po,hszA];show i*76+76<=na*76;omega),AA,(by rw [po];exact EA),?_⟩⟩
    refine .inr (.inr (.inr ⟨[(9500,48)],[],[_,_],[_,_,_,_],_,AO,rfl,⟨.inl rfl,.inl rfl,.inl rfl,rfl,trivial⟩,by kernel_rfl,trivial,?_⟩))
    rintro r U ⟨g2,wh,wc,wp,k1,k2,k3,rfl,hM⟩
    refine ⟨by kernel_rfl,_,ic (E:=(aR Tryz.prog tt Tryz.f17.ntmps w X (aA [] β) [21,23])) af Tryz.underlying51 (j:=eQ) rfl 1 rfl (by omega),?_⟩
    have hrun:ft day g (bG day (A.drop i) (B.drop j))=match iV g a with
     | .error e=>.error e
     | .ok g'=>ft day g' (bG day (A.drop (i+1)) (B.drop j)):=by rw [hE3];rfl
    have tn:=ta.next (by decide) ci
    cases hS:iV g a with
    | error e =>
     rw [hS] at hM hrun
     obtain ⟨rfl,he⟩:=hM
     exact ⟨_,_,⟨i+1,j,_,_,g2,wh,wc,wp,e,by omega,tn,tx,k1,k2,k3,.inl ⟨he,hrun⟩,rfl,rfl⟩,⟨rfl,rfl,rfl,rfl,rfl,rfl,trivial⟩,⟨rfl,.inl rfl,.inl rfl,rfl,.inl rfl,.inl rfl,.inl rfl,trivial⟩,rfl⟩
    | ok g' =>
     rw [hS] at hM hrun
     obtain ⟨rfl,rfl⟩:=hM
     obtain ⟨s1,s2,s3,s4⟩:=tl hg hS
     exact ⟨_,_,⟨i+1,j,_,_,g2,wh,wc,wp,0,by omega,tn,tx,k1,k2,k3,.inr ⟨rfl,s1,⟨by omega,by omega,by rw [s4];omega⟩,hrun⟩,rfl,rfl⟩,⟨rfl,rfl,rfl,rfl,rfl,rfl,trivial⟩,⟨rfl,.inl rfl,.inl rfl,rfl,.inl rfl,.inl rfl,.inl rfl,trivial⟩,rfl⟩
theorem tO {E:Env} {m:Mem} {d:Key} {g off k c cap:Nat} {e:TypeId} {sz n:Nat} {A:Array Value} (hm:m d=some (Blk.own (.slice (some ⟨g,0,none⟩) n cap) e sz n A)) (hA:A.all (·.oneCell')=true) (h:off+k*sz<=A.size):Go.SX.Src E m [d] (SV.c (.slice (some ⟨g,off,none⟩) k c)) sz k (A.extract off (off+k*sz)):=by
 refine ⟨by rw [Array.size_extract];omega,?_,fun m' ρ w u hm' hw hv=>?_⟩
 ·rw [Array.all_eq_true] at hA ⊢
  intro i hi
  rw [Array.getElem_extract]
  exact hA _ _
 have hv:u=_:=hv
 subst hv
 have h1:=(hw.loose d _ ((hm' d (by simp)).trans hm) rfl).2
 have h1:w.ownsRow 0 e sz (.slice (some ⟨g,0,none⟩) n cap) n A.toList:=h1
 refine ⟨_,c,rfl,fun j x hj=>?_⟩
 rw [Array.getElem?_extract] at hj
 split at hj
 ·have:=World.ownsRow.cells h1 (g:=g) rfl (off+j) x (by simpa using hj)
  rw [add_flat] at this ⊢
  rw [Nat.zero_add] at this
  exact this
 ·cases hj
theorem zX (l:List Int) (i:Nat) (_h:i<=l.length):(bd l).extract 0 (0+i*1)=bd (l.take i):=by
 apply Array.ext'
 simp [bd,List.map_take]
theorem zY (l:List Int) (i:Nat) (_h:i<=l.length):(bd l).extract (i*1) (i*1+(l.length - i)*1)=bd (l.drop i):=by
 apply Array.ext'
 have:List.take (l.length - i) (List.drop i (List.map (Value.int IntKind.i64) l))=List.drop i (List.map (Value.int IntKind.i64) l):=List.take_of_length_le (by simp)
 simp [bd,List.map_drop,this]
theorem uJ (l:List Int):(bd l).all (·.oneCell')=true:=by
 unfold bd
 rw [List.all_toArray]
 simp [Value.oneCell']
theorem CC (l m:List Int):bd l++bd m=bd (l++m):=by simp [bd]
theorem He:Instr.fill (fun k=>some (k*ti3.size,ti3.size)) (madeCells ti3.zero (0*ti3.size)) []=some #[]:=by
 have e0:madeCells ti3.zero (0*ti3.size)=#[]:=by
  apply Array.ext'
  unfold madeCells
  simp
 rw [e0]
 rfl
theorem sE {l:List Int} {i:Nat} {y:Int} (h:l[i]? = some y):(bd l)[i]? = some (.int .i64 y):=by simp [bd,h]
theorem q8 (l:List Int):(bd l).size=l.length:=by simp [bd]
theorem F0 {E:Env} (hE:E.P=Tryz.prog) {v:Value} {l:List Int} {d most:Int} {n:Nat} (hv:IsL v n) (hk:∃ a c,v=.slice a n c/\n<=c) (hn:n=l.length) (hb:n<=1000000000000):OwnC E 104 [SV.c v,SV.c (.int .i64 d),SV.c (.int .i64 most)] [(9620,Blk.own v 3 1 n (bd l))] (fun r U=>IsL r (ef l d most).length/\U=[(9620,Blk.own r 3 1 (ef l d most).length (bd (ef l d most)))]):=by
 refine av [4,6,7] af ah Ls E hE [SV.c v,SV.c (.int .i64 d),SV.c (.int .i64 most)] [(9620,Blk.own v 3 1 n (bd l))] _ rfl rfl fun w X β hT=>?_
 obtain ⟨xa,xc,rfl,hk⟩:=hk
 refine ⟨fun f m=>∃ i:Nat,i<=n/\(∀ (j:Nat) y,j < i->l[j]? = some y->y < d)/\(∀ y,l[i]? = some y->¬ y < d)/\f=[(0,SV.c (.slice xa n xc)),(1,SV.c (.int .i64 d)),(2,SV.c (.int .i64 most)),(7,SV.c (.int .i64 (i:Nat)))]/\m=[(9620,Blk.own (.slice xa n xc) 3 1 n (bd l))],?_,?_⟩
 ·refine ⟨fun q f m=>∃ i:Nat,q=n - i/\i<=n/\(∀ (j:Nat) y,j < i->l[j]? = some y->y < d)/\f=[(0,SV.c (.slice xa n xc)),(1,SV.c (.int .i64 d)),(2,SV.c (.int .i64 most)),(7,SV.c (.int .i64 (i:Nat)))]/\m=[(9620,Blk.own (.slice xa n xc) 3 1 n (bd l))],n,⟨_,_,⟨0,by omega,by omega,fun j y h=>absurd h (by omega),rfl,rfl⟩,⟨rfl,rfl,rfl,rfl,trivial⟩,⟨.inl rfl,trivial⟩,rfl⟩,?_⟩
  rintro q f m ⟨i,rfl,hi,hlt,rfl,rfl⟩
  refine ⟨_,fun w' _=>am Tryz.underlying22 w',?_⟩
  refine ⟨fun c=>?_,fun c=>?_⟩
  ·have c:i < n:=by have:=ab (show decide (((i:Nat):Int) < (n:Nat))=true from c);omega
   rcases hv with ⟨hs1,hs2⟩ | ⟨g0,c0,hs1⟩
   ·omega
   cases hs1
   obtain ⟨y,hy⟩:∃ y,l[i]? = some y:=⟨_,List.getElem?_eq_getElem (by omega)⟩
   refine ⟨by omega,by omega,.inr ⟨9620,g0,_,n,_,_,_,_,rfl,rfl,.int .i64 y,(by rw [uy];exact sE hy),?_⟩⟩
   refine ⟨fun c1=>?_,fun c1=>?_⟩
   ·have c1:y < d:=ab c1
    exact ⟨n - (i+1),_,_,by omega,⟨i+1,rfl,by omega,fun j z hj hz=>by
     rcases Nat.lt_succ_iff_lt_or_eq.1 hj with h | rfl
     ·exact hlt j z h hz
     ·rw [hy] at hz;cases hz;exact c1,rfl,rfl⟩,⟨rfl,rfl,rfl,ag (au (by omega)),trivial⟩,⟨.inl rfl,trivial⟩,rfl⟩
   ·have c1:¬ y < d:=ae c1
    exact ⟨_,_,⟨i,hi,hlt,fun z hz=>by rw [hy] at hz;cases hz;exact c1,rfl,rfl⟩,⟨rfl,rfl,rfl,rfl,trivial⟩,⟨.inl rfl,trivial⟩,rfl⟩
  ·have c:i=n:=by have:=ae (show decide (((i:Nat):Int) < (n:Nat))=false from c);omega
   refine ⟨nofun,fun _=>?_⟩
   exact ⟨_,_,⟨i,hi,hlt,(fun z hz=>by rw [List.getElem?_eq_none (by omega)] at hz;cases hz),rfl,rfl⟩,⟨rfl,rfl,rfl,rfl,trivial⟩,⟨.inl rfl,trivial⟩,rfl⟩
 ·rintro f1 m1 ⟨i,hi,hlt,hge,rfl,rfl⟩
  have IA:=yD d l i hlt hge (by omega)
  obtain ⟨xa2,xc2,hv2⟩:∃ a c,Value.slice xa n xc=.slice a n c:=⟨xa,xc,rfl⟩
  refine ⟨fun f m=>ef l d most=l.take i++d :: l.drop i/\f=[(0,SV.c (.slice xa n xc)),(1,SV.c (.int .i64 d)),(7,SV.c (.int .i64 (i:Nat)))]/\m=[(9620,Blk.own (.slice xa n xc) 3 1 n (bd l))],?_,?_⟩
  ·have stay:ef l d most=l->IsL (.slice xa n xc) (ef l d most).length/\[(9620,Blk.own (.slice xa n xc) 3 1 n (bd l))]=[(9620,Blk.own (.slice xa n xc) 3 1 (ef l d most).length (bd (ef l d most)))]:=fun h=>by rw [h,<- hn];exact ⟨hv,rfl⟩
   refine ⟨fun c=>?_,fun c=>?_⟩
   ·have c:¬ d > most:=ae c
    have hM:ef l d most=kY d l:=by unfold ef;rw [if_neg c]
    refine ⟨_,fun w' _=>am Tryz.underlying22 w',?_⟩
    refine ⟨fun c1=>?_,fun c1=>?_⟩
    ·have c1:i < n:=by have:=ab (show decide (((i:Nat):Int) < (n:Nat))=true from c1);omega
     rcases hv with ⟨hs1,hs2⟩ | ⟨g0,c0,hs1⟩
     ·omega
     cases hs1
     obtain ⟨y,hy⟩:∃ y,l[i]? = some y:=⟨_,List.getElem?_eq_getElem (by omega)⟩
     refine ⟨by omega,by omega,.inr ⟨9620,g0,_,n,_,_,_,_,rfl,rfl,.int .i64 y,(by rw [uy];exact sE hy),?_⟩⟩
     refine ⟨fun c2=>?_,fun c2=>?_⟩
     ·have c2:(y == d)=true:=c2
      have c2:y=d:=by simpa using c2
      exact ⟨_,[],stay (by rw [hM,IA,if_pos (by rw [hy,c2])]),⟨.inl rfl,trivial⟩,rfl⟩
     ·have c2:(y == d)=false:=c2
      have c2:y≠d:=by simpa using c2
      exact ⟨_,_,⟨by rw [hM,IA,if_neg (by rw [hy];exact fun h=>c2 (Option.some.inj h))],rfl,rfl⟩,⟨rfl,rfl,rfl,trivial⟩,⟨.inl rfl,trivial⟩,rfl⟩
    ·have c1:i=n:=by have:=ae (show decide (((i:Nat):Int) < (n:Nat))=false by simpa using c1);omega
     refine ⟨nofun,fun _=>?_⟩
     exact ⟨_,_,⟨by rw [hM,IA,if_neg (by rw [List.getElem?_eq_none (by omega)];exact nofun)],rfl,rfl⟩,⟨rfl,rfl,rfl,trivial⟩,⟨.inl rfl,trivial⟩,rfl⟩
   ·have c:d > most:=ab (show decide (d > most)=true by simpa using c)
    refine ⟨fun _=>?_,nofun⟩
    exact ⟨_,[],stay (by unfold ef;rw [if_pos c]),⟨.inl rfl,trivial⟩,rfl⟩
  ·rintro f2 m2 ⟨hM,rfl,rfl⟩
   refine ⟨fun f m=>∃ gg cc,f=[(0,SV.c (.slice xa n xc)),(1,SV.c (.int .i64 d)),(7,SV.c (.int .i64 (i:Nat))),(8,SV.c (.slice (some ⟨gg,0,none⟩) i cc))]/\m=[(41,Blk.own (.slice (some ⟨gg,0,none⟩) i cc) 3 1 i (bd (l.take i))),(9620,Blk.own (.slice xa n xc) 3 1 n (bd l))],?_,?_⟩
   ·refine jr af rfl ⟨by decide,.inr rfl,by decide,#[],He,rfl,trivial,fun g=>?_⟩
    refine ⟨_,zz (E:=(aR Tryz.prog tt Tryz.f104.ntmps w X (aA [(9620,Blk.own (.slice xa n xc) 3 1 n (bd l))] β) [4,6,7])) af Tryz.underlying22 (j:=ti3) rfl i rfl (by omega),?_⟩
    refine ⟨by decide,41,0,#[],.inl rfl,?_⟩
    obtain ⟨q,hq,hqb⟩:=mb
    rcases Nat.eq_zero_or_pos i with rfl | hp
    ·refine .inl ⟨rfl,?_⟩
     exact ⟨_,_,⟨g,0,rfl,rfl⟩,⟨rfl,rfl,rfl,rfl,trivial⟩,⟨.inl rfl,.inl rfl,trivial⟩,rfl⟩
    ·rcases hv with ⟨hs1,hs2⟩ | ⟨g0,c0,hs1⟩
     ·omega
     cases hs1
     refine .inr ⟨[9620],i,bd (l.take i),by rw [<- zX l i (by omega)];exact tO (n:=n) (cap:=xc) rfl (uJ l) (by rw [q8];show 0+i*1<=_;omega),?_⟩
     refine ⟨by omega,by unfold maxLen;omega,⟨q,hq,by rw [hqb];omega⟩,trivial,fun g2 cap2=>?_⟩
     exact ⟨_,_,⟨g2,cap2,rfl,rfl⟩,⟨rfl,rfl,rfl,by rw [Nat.zero_add];rfl,trivial⟩,⟨.inl (by rw [Nat.zero_add,Array.empty_append];rfl),.inl rfl,trivial⟩,rfl⟩
   ·rintro f3 m3 ⟨gg,cc,rfl,rfl⟩
    refine .inl ⟨by decide,by decide,_,nq d,rfl,by decide,?_⟩
    obtain ⟨q,hq,hqb⟩:=mb
    refine ⟨41,i,_,.inl rfl,by decide,(by simp [Value.oneCell']),rfl,_,pW _,?_⟩
    refine ⟨by omega,by unfold maxLen;omega,⟨q,hq,by rw [hqb];omega⟩,trivial,fun g2 cap2=>?_⟩
    have hsl:bd (l.take i)++#[.int .i64 d]=bd (l.take i++[d]):=pD _ _
    rw [hsl]
    refine ⟨_,ic (E:=(aR Tryz.prog tt Tryz.f104.ntmps w X (aA [(9620,Blk.own (.slice xa n xc) 3 1 n (bd l))] β) [4,6,7])) af Tryz.underlying22 (j:=ti3) rfl i rfl (by omega),?_⟩
    refine ⟨by decide,41,i+1,_,.inl rfl,?_⟩
    have hlt:(l.take i).length=i:=by rw [List.length_take];omega
    have hld:(l.drop i).length=n - i:=by rw [List.length_drop,hn]
    have hL:(ef l d most).length=n+1:=by rw [hM,List.length_append,List.length_cons,hlt,hld];omega
    by_cases he:i=n
    ·have hr:ef l d most=l.take i++[d]:=by rw [hM,List.drop_eq_nil_of_le (by omega)]
     refine .inl ⟨by rw [show n - i=0 by omega];rfl,?_⟩
     exact ⟨[(9620,Blk.own (.slice (some ⟨g2,0,none⟩) (i+1) cap2) 3 1 (i+1) (bd (l.take i++[d])))],[(9620,41)],⟨by rw [hL,<- he];exact .some,by rw [hL,<- he,hr];rfl⟩,⟨.inl rfl,trivial⟩,rfl⟩
    ·rcases hv with ⟨hs1,hs2⟩ | ⟨g0,c0,hs1⟩
     ·omega
     cases hs1
     rw [if_neg (by omega)]
     have ea:Option.map (fun x:Addr=>x.add (i*ti3.size)) (some ⟨g0,0,none⟩)=some ⟨g0,i*1,none⟩:=by
      show some (Addr.add ⟨g0,0,none⟩ (i*1))=_
      rw [add_flat,Nat.zero_add]
     rw [ea]
     refine .inr ⟨[9620],n - i,bd (l.drop i),by rw [<- zY l i (by omega),<- hn];exact tO (n:=n) (cap:=xc) rfl (uJ l) (by rw [q8];show i*1+(n - i)*1<=_;omega),?_⟩
     refine ⟨by omega,by unfold maxLen;omega,⟨q,hq,by rw [hqb];omega⟩,trivial,fun g3 cap3=>?_⟩
     have hr:bd (l.take i++[d])++bd (l.drop i)=bd (ef l d most):=by rw [CC,hM,List.append_assoc];rfl
     rw [hr,show i+1+(n - i)=(ef l d most).length by rw [hL];omega]
     exact ⟨[(9620,Blk.own (.slice (some ⟨g3,0,none⟩) (ef l d most).length cap3) 3 1 (ef l d most).length (bd (ef l d most)))],[(9620,41)],⟨.some,rfl⟩,⟨.inl rfl,trivial⟩,rfl⟩
end Go.Proofs.YtekfkdddadcalaaGreatDoor
