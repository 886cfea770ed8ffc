/- the chapter s examples of portfolios. PositionExact, at ever; no condition. -/
import Derived.Test.YtekfkdddadcalaaGreatDoorPositionSpoiltQ31
import Derived.Test.YtekfkdddadcalaaGreatDoorPositionSpoiltQ13
set_option maxRecDepth 100000
set_option maxHeartbeats 4000000
namespace Go.Proofs.YtekfkdddadcalaaGreatDoor
open Go Go.RowKit Go.SX
def kE1:EC:=⟨1,[101],5,7,[65,67,77,69],10,-100000,[85,83,68],1,false⟩
def kE2:EC:=⟨1,[102],8,8,[65,67,77,69],-21,5,[85,83,68],2,false⟩
def kXs:List EC:=[kE1,kE2]
def kAc:AC:=⟨1,[115],[65,67,77,69],[],6,2,1,(mkQ 0 1).1,[85,83,68],1,false⟩
def kAl:List AC:=[kAc]
theorem Mr:atP kXs kAl 9 5=(⟨[([65,67,77,69],10)],[],[(([85,83,68],7),-100000)]⟩,0):=by kernel_rfl
theorem Mq:atP kXs kAl 9 7=(⟨[([65,67,77,69],20)],[(([85,83,68],0),-100000)],[]⟩,0):=by kernel_rfl
theorem Mp:atP kXs kAl 9 8=(.zero,181):=by kernel_rfl
def XO (x y:Value) (nx na:Nat) (xs:List EC) (al:List AC) (Q:Value->az->Prop) (r:Value) (U:az):Prop:=∃ U0,Q r U0/\U=(9640,Blk.own x 31 10 nx (cat EC.A xs)) :: (9641,Blk.own y 61 76 na (cat AC.A al)) :: U0
theorem IF {E:Env} {f:FuncId} {sv:List SV} {x y:Value} {xs:List EC} {al:List AC} {nx na:Nat} (hx:nx=xs.length) (hy:na=al.length) (hent:Go.SX.Enters E.P f) {Q:Value->az->Prop} (hQ:∀ r U,Q r U->aq U 9640=none/\aq U 9641=none)
    (h:∀ E0:Env,E0.P=E.P->(∀ w,OldW E0 w->OldW E w)->Lst E0 x 10 xs.length (cat EC.A xs)->Lst E0 y 76 al.length (cat AC.A al)->OwnC E0 f sv [] Q):OwnC E f sv [(9640,Blk.own x 31 10 nx (cat EC.A xs)),(9641,Blk.own y 61 76 na (cat AC.A al))] (XO x y nx na xs al Q):=by
 subst hx hy
 have h2:∀ E0:Env,E0.P=E.P->(∀ w,OldW E0 w->OldW E w)->Lst E0 x 10 xs.length (cat EC.A xs)->OwnC E0 f sv [(9641,Blk.own y 61 76 al.length (cat AC.A al))] (fun r U=>∃ U0,Q r U0/\U=(9641,Blk.own y 61 76 al.length (cat AC.A al)) :: U0):=fun E0 h0 ho hl =>
  OwnC.with_own2 (k:=9641) (v:=y) (e:=61) (sz:=76) (n:=al.length) (A:=cat AC.A al) (pre:=[]) (Q:=Q) rfl rfl (Go.SX.cat_all AC.all1 al) (by rw [h0];exact hent) (fun E1 h1 ho1 hl1=>h E1 (h1.trans h0) (fun w hw=>ho w (ho1 w hw)) (hl.of_old ho1) hl1) (fun r U hq=>(hQ r U hq).2)
 refine (OwnC.with_own2 (k:=9640) (v:=x) (e:=31) (sz:=10) (n:=xs.length) (A:=cat EC.A xs) rfl rfl (Go.SX.cat_all EC.one xs) hent h2 (fun r U ⟨U0,hq,hU⟩=>by rw [hU];exact (hQ r U0 hq).1)).mono ?_
 rintro r U ⟨U1,⟨U0,h1,rfl⟩,rfl⟩
 exact ⟨U0,h1,rfl⟩
theorem AtQ.apart {R:Led×Int} {r:Value} {U:az} (h:AtQ R r U):aq U 9640=none/\aq U 9641=none:=by
 obtain ⟨xh,xc,xp,-,-,-,-,rfl⟩:=h
 exact ⟨rfl,rfl⟩
theorem DG {E:Env} (hE:E.P=Tryz.prog) {x y:Value} {xs:List EC} {al:List AC} {nx na:Nat} {k day:Int} (hx:nx=xs.length) (hy:na=al.length) (hn:nx<=1000000000000) (hm:na<=1000000000000) (hin:∀ y∈xs,y.In) (hina:∀ y∈al,y.In):OwnC E 17 [SV.c x,SV.c y,SV.c (.int .i64 k),SV.c (.int .i64 day)] [(9640,Blk.own x 31 10 nx (cat EC.A xs)),(9641,Blk.own y 61 76 na (cat AC.A al))] (XO x y nx na xs al (AtQ (atP xs al k day))) :=
 IF hx hy (by rw [hE];exact Ku.enters) (fun _ _ h=>h.apart) fun E0 h0 _ hl1 hl2=>I3 (h0.trans hE) hl1 hl2 (by omega) (by omega) hin hina
theorem yH {E:Env} (hE:E.P=Tryz.prog) {x vc vp:Value} {H:List (Bs×Int)} {k:Bs} {n:Nat} (hn:n=H.length) (hb:n<=1000000000000):OwnC E 19 [SV.c (.agg #[x,vc,vp]),SV.c (.string (S k))] [(9610,Blk.own x 66 2 n (cat ao H))] (fun y U=>y=.int .i64 (ay H k)/\U=[(9610,Blk.own x 66 2 n (cat ao H))]):=by
 subst hn
 refine (OwnC.with_own (k:=9610) (v:=x) (e:=66) (sz:=2) (n:=H.length) (A:=cat ao H) (pre:=[]) rfl rfl (cat_all oT H) (by rw [hE];exact Ki.enters) (fun E0 h hl=>G8 (h.trans hE) hl hb) (fun x U h=>by rw [h.2];rfl)).mono ?_
 rintro y U ⟨U0,⟨h1,h2⟩,h3⟩
 exact ⟨h1,by rw [h3,h2]⟩
theorem wO:∀ y∈kXs,y.In:=by
 intro y hy
 simp only [kXs,List.mem_cons,List.not_mem_nil,or_false] at hy
 rcases hy with rfl | rfl
 ·exact ⟨by decide,by decide,by decide⟩
 ·exact ⟨by decide,by decide,by decide⟩
theorem wP:∀ y∈kAl,y.In:=by
 intro y hy
 simp only [kAl,List.mem_cons,List.not_mem_nil,or_false] at hy
 subst hy
 exact ⟨sw _ _,by decide,by decide,by decide,by decide,by decide,by decide⟩
theorem E6 {pl:List (Nat×Nat)} (hpl:pl=[(0,1),(1,1),(2,1),(3,1),(4,1),(5,1),(6,1),(7,1),(8,1),(9,1)]):Instr.fill (fun k=>pl[k]?) dE.zero [(0,.int .i64 1),(1,.string (S [101])),(2,.int .i64 5),(3,.int .i64 7),(4,.string (S [65,67,77,69])),(5,.int .i64 10),(6,.int .i64 (-100000)),(7,.string (S [85,83,68])),(8,.int .i64 1)]=some kE1.A:=by
 subst hpl;rfl
theorem E5 {pl:List (Nat×Nat)} (hpl:pl=[(0,1),(1,1),(2,1),(3,1),(4,1),(5,1),(6,1),(7,1),(8,1),(9,1)]):Instr.fill (fun k=>pl[k]?) dE.zero [(0,.int .i64 1),(1,.string (S [102])),(2,.int .i64 8),(3,.int .i64 8),(4,.string (S [65,67,77,69])),(5,.int .i64 (-21)),(6,.int .i64 5),(7,.string (S [85,83,68])),(8,.int .i64 2)]=some kE2.A:=by
 subst hpl;rfl
theorem E3:Instr.fill (fun k=>some (k*dE.size,dE.size)) (madeCells dE.zero (2*dE.size)) [(0,.agg kE1.A),(1,.agg kE2.A)]=some (cat EC.A kXs):=by kernel_rfl
theorem E4 {pl:List (Nat×Nat)} (hpl:pl=[(0,1),(1,1),(2,1),(3,1),(4,1),(5,1),(6,1),(7,66),(73,1),(74,1),(75,1)]):Instr.fill (fun k=>pl[k]?) eQ.zero [(0,.int .i64 1),(1,.string (S [115])),(2,.string (S [65,67,77,69])),(4,.int .i64 6),(5,.int .i64 2),(6,.int .i64 1),(7,.agg (mkQ 0 1).1.A),(8,.string (S [85,83,68])),(9,.int .i64 1)]=some kAc.A:=by
 subst hpl;kernel_rfl
theorem C9:Instr.fill (fun k=>some (k*eQ.size,eQ.size)) (madeCells eQ.zero (1*eQ.size)) [(0,.agg kAc.A)]=some (cat AC.A kAl):=by kernel_rfl
theorem Fc {E:Env} (hE:E.P=Tryz.prog) (x:Ky×Int) {u v:Operand}:bD E (do eqGuard .eql 49 u v (.agg (ai x)) (.agg (ai x));binOp .eql 49 (.agg (ai x)) (.agg (ai x))) (.bool true):=by
 have:=Fd hE x x (u:=u) (v:=v)
 rwa [vo] at this
theorem Cy {E:Env} (hE:E.P=Tryz.prog):OwnC E 16 [] [] (fun x U=>x=.bool true/\U=[]):=by
 refine av [] af ah KB E hE [] [] _ rfl rfl fun w X β hT=>?_
 have hE':(aR Tryz.prog tt Tryz.f16.ntmps w X (aA [] β)).toEnv.P=Tryz.prog:=rfl
 have O1:=EN (n:=0) (d:=1) (by decide) (by decide) (by decide) (by decide)
 have FX:=E3
 have FA:=E4 rfl
 have FL:=C9
 have SX0:(cat EC.A kXs).size=2*10:=by rw [Go.SX.cat_size EC.size];rfl
 have SA0:(cat AC.A kAl).size=1*76:=by rw [Go.SX.cat_size AC.size];rfl
 have L1:=fun (g g2:Nat)=>DG hE' (x:=.slice (some ⟨g,0,none⟩) 2 2) (y:=.slice (some ⟨g2,0,none⟩) 1 1) (k:=9) (day:=5) (xs:=kXs) (al:=kAl) (nx:=2) (na:=1) rfl rfl (by decide) (by decide) wO wP
 have L2:=fun (g g2:Nat)=>DG hE' (x:=.slice (some ⟨g,0,none⟩) 2 2) (y:=.slice (some ⟨g2,0,none⟩) 1 1) (k:=9) (day:=7) (xs:=kXs) (al:=kAl) (nx:=2) (na:=1) rfl rfl (by decide) (by decide) wO wP
 have L3:=fun (g g2:Nat)=>DG hE' (x:=.slice (some ⟨g,0,none⟩) 2 2) (y:=.slice (some ⟨g2,0,none⟩) 1 1) (k:=9) (day:=8) (xs:=kXs) (al:=kAl) (nx:=2) (na:=1) rfl rfl (by decide) (by decide) wO wP
 rw [Mr] at L1
 rw [Mq] at L2
 rw [Mp] at L3
 refine ⟨_,E6 rfl,_,E5 rfl,?_⟩
 refine .inr ⟨by decide,by decide,by decide,cat EC.A kXs,FX,SX0,trivial,fun g=>?_⟩
 refine .inl ⟨_,O1,?_⟩
 refine ⟨_,FA,?_⟩
 refine .inr ⟨by decide,by decide,by decide,cat AC.A kAl,FL,SA0,trivial,fun g2=>?_⟩
 have L1:=L1 g g2
 have L2:=L2 g g2
 have L3:=L3 g g2
 refine .inr (.inr (.inr ⟨[(9640,11),(9641,14)],[9506,9507,9508],[_,_,_,_],[_,_],_,L1,rfl,⟨.inl rfl,.inl rfl,trivial⟩,rfl,trivial,?_⟩))
 rintro r U ⟨U0,⟨xh,xc,xp,q1,q2,q3,rfl,rfl⟩,rfl⟩
 refine ⟨rfl,?_⟩
 have one:∀ {x:Value},IsL x 1->∃ g c,x=.slice (some ⟨g,0,none⟩) 1 c:=fun {x} h=>by
  rcases h with ⟨_,h⟩ | ⟨g,c,h⟩
  ·cases h
  ·exact ⟨g,c,h⟩
 obtain ⟨gh,ch,rfl⟩:=one (show IsL xh 1 from q1)
 obtain ⟨ca,cc,rfl⟩:=(show IsL xc 0 from q2).len
 obtain ⟨gp,cp,rfl⟩:=one (show IsL xp 1 from q3)
 refine ⟨mo rfl rfl rfl,?_⟩
 refine .inr (.inr (.inr ⟨[(9640,11),(9641,14),(9506,9516),(9507,9517),(9508,9518)],[9516,9517,9518],[_,_,_,_],[_,_],_,L2,rfl,⟨.inl rfl,.inl rfl,trivial⟩,rfl,trivial,?_⟩))
 rintro r U ⟨U0,⟨yh,yc,yp,w1,w2,w3,rfl,rfl⟩,rfl⟩
 obtain ⟨gh2,ch2,rfl⟩:=one (show IsL yh 1 from w1)
 obtain ⟨gc2,cc2,rfl⟩:=one (show IsL yc 1 from w2)
 obtain ⟨pa,pc,rfl⟩:=(show IsL yp 0 from w3).len
 refine ⟨rfl,mo rfl rfl rfl,?_⟩
 refine .inr (.inr (.inr ⟨[(9640,11),(9641,14),(9506,9526),(9507,9527),(9508,9528)],[9526,9527,9528],[_,_,_,_],[_,_],_,L3,rfl,⟨.inl rfl,.inl rfl,trivial⟩,rfl,trivial,?_⟩))
 rintro r U ⟨U0,⟨zh,zc,zp,v1,v2,v3,rfl,rfl⟩,rfl⟩
 refine ⟨rfl,mo (bg v1) (bg v2) (bg v3),?_⟩
 have H1:=yH hE' (x:=.slice (some ⟨gh,0,none⟩) 1 ch) (vc:=.slice ca 0 cc) (vp:=.slice (some ⟨gp,0,none⟩) 1 cp) (H:=[([65,67,77,69],10)]) (k:=[65,67,77,69]) (n:=1) rfl (by decide)
 have H2:=yH hE' (x:=.slice (some ⟨gh2,0,none⟩) 1 ch2) (vc:=.slice (some ⟨gc2,0,none⟩) 1 cc2) (vp:=.slice pa 0 pc) (H:=[([65,67,77,69],20)]) (k:=[65,67,77,69]) (n:=1) rfl (by decide)
 rw [show ay [(([65,67,77,69]:Bs),(10:Int))] [65,67,77,69]=10 from by decide] at H1
 rw [show ay [(([65,67,77,69]:Bs),(20:Int))] [65,67,77,69]=20 from by decide] at H2
 refine ⟨fun _=>?_,fun h=>absurd h (by decide)⟩
 refine .inr (.inr (.inl ⟨[(9610,9506)],[_,_],[_],_,[_],H1,rfl,⟨.inl rfl,trivial⟩,rfl,rfl,?_⟩))
 have B1:=fun (u v:Operand)=>Fc hE' (([85,83,68],7),-100000) (u:=u) (v:=v)
 refine ⟨fun _=>?_,fun h=>absurd h (by decide)⟩
 refine ⟨_,rfl,_,fun w' _=>am Tryz.underlying38 w',fun _=>?_,fun h=>absurd h (by decide)⟩
 refine ⟨_,rfl,_,fun w' _=>am Tryz.underlying38 w',fun _=>?_,fun h=>absurd h (by decide)⟩
 refine ⟨_,rfl,by decide,by decide,.inr ⟨9508,gp,_,1,cp,_,_,_,rfl,rfl,by decide,ai (([85,83,68],7),-100000),rfl,?_⟩⟩
 refine ⟨_,ms (([85,83,68],7),-100000) rfl,_,B1 _ _,?_⟩
 refine ⟨fun _=>?_,fun h=>absurd h (by decide)⟩
 refine ⟨fun _=>?_,fun h=>absurd h (by decide)⟩
 refine .inr (.inr (.inl ⟨[(9610,9516)],[_,_],[_],_,[_],H2,rfl,⟨.inl rfl,trivial⟩,rfl,rfl,?_⟩))
 refine ⟨fun _=>?_,fun h=>absurd h (by decide)⟩
 refine ⟨_,rfl,_,fun w' _=>am Tryz.underlying38 w',fun _=>?_,fun h=>absurd h (by decide)⟩
 refine ⟨_,rfl,by decide,by decide,.inr ⟨9517,gc2,_,1,cc2,_,_,_,rfl,rfl,.int .i64 (-100000),rfl,?_⟩⟩
 refine ⟨fun _=>?_,fun h=>absurd h (by decide)⟩
 exact ⟨[],[],⟨rfl,rfl⟩,trivial,rfl⟩
theorem yy:ax Tryz.prog 16 [] (.bool true):=El (vs:=[]) KB.enters fun _w=>Cy rfl
theorem xR {day:Int}:∀ (ops:List Ev) {g g':Led},LedOk g->ft day g ops=.ok g'->g'.h.length<=g.h.length+2*ops.length/\g'.c.length<=g.c.length+ops.length/\g'.p.length<=g.p.length+ops.length
 | [],g,g',_,h=>by cases h;simp
 | o :: l,g,g',hg,h=>by
  rw [ft] at h
  cases e:tM day g o with
  | error e'=>rw [e] at h;cases h
  | ok g1 =>
   rw [e] at h
   obtain ⟨h1,h2,h3,h4⟩:=tL hg e
   obtain ⟨h5,h6,h7⟩:=xR l h1 h
   simp only [List.length_cons]
   exact ⟨by omega,by omega,by omega⟩
theorem Es (g:Led):(pfL g).1.h.length<=g.h.length/\(pfL g).1.c.length<=g.c.length/\(pfL g).1.p.length<=g.p.length:=by
 unfold pfL
 split
 ·simp
 ·exact ⟨Nat.zero_le _,Nat.zero_le _,Nat.zero_le _⟩
theorem Ez (al:List AC) (xs:List EC) (day:Int):(kU al xs day).length<=al.length+xs.length:=by
 unfold kU
 rw [(bj dp _).len]
 refine Nat.le_trans (List.length_filter_le _ _) ?_
 simp
theorem Fy (xs:List EC) (al:List AC) (k day:Int):(atP xs al k day).1.h.length<=20000/\(atP xs al k day).1.c.length<=20000/\(atP xs al k day).1.p.length<=20000:=by
 unfold atP
 split
 ·exact ⟨Nat.zero_le _,Nat.zero_le _,Nat.zero_le _⟩
 rename_i h1
 split
 ·exact ⟨Nat.zero_le _,Nat.zero_le _,Nat.zero_le _⟩
 rename_i h2
 split
 ·exact ⟨Nat.zero_le _,Nat.zero_le _,Nat.zero_le _⟩
 have l1:=lj (k:=k) (Classical.not_not.1 h1)
 have l2:=oP (k:=k) (Classical.not_not.1 h2)
 have l3:=Ez (eo al k) (d9 xs k) day
 cases e:ft day .zero (kU (eo al k) (d9 xs k) day) with
 | error e'=>exact ⟨Nat.zero_le _,Nat.zero_le _,Nat.zero_le _⟩
 | ok g =>
  obtain ⟨h3,h4,h5⟩:=xR _ .zero e
  have h6:=Es g
  have z1:Led.zero.h.length=0:=rfl
  have z2:Led.zero.c.length=0:=rfl
  have z3:Led.zero.p.length=0:=rfl
  show (pfL g).1.h.length<=_/\(pfL g).1.c.length<=_/\(pfL g).1.p.length<=_
  exact ⟨by omega,by omega,by omega⟩
theorem Fa {E:Env} (hE:E.P=Tryz.prog) {ve va:Value} {xs:List EC} {al:List AC} {k day:Int} (hv:Lst E ve 10 xs.length (cat EC.A xs)) (hva:Lst E va 76 al.length (cat AC.A al)) (hn:xs.length<=2000000000000) (hm:al.length<=1000000000000) (hin:∀ y∈xs,y.In) (hina:∀ y∈al,y.In):OwnC E 15 [SV.c ve,SV.c va,SV.c (.int .i64 k),SV.c (.int .i64 day)] [] (fun x U=>x=.bool true/\U=[]):=by
 refine av [] af ah KN E hE [SV.c ve,SV.c va,SV.c (.int .i64 k),SV.c (.int .i64 day)] [] _ rfl rfl fun w X β hT=>?_
 have hv':=hv.of_old hT
 have hva':=hva.of_old hT
 have hE':(aR Tryz.prog tt Tryz.f15.ntmps w X (aA [] β)).toEnv.P=Tryz.prog:=rfl
 have V1:=FK (k:=k) hE' hv' hn hin
 have V2:=tw (k:=k) hE' hv' hn hin
 have P1:=I3 (k:=k) (day:=day) hE' hv' hva' hn hm hin hina
 have P2:=Mw (k:=k) (day:=day) hE' hv' hva' hn hm hin hina
 have K1:=yY hE' hv' hn hin
 have K2:=qc hE' hv' hn hin
 have hl:=Fy xs al k day
 refine .inr (.inr (.inr ⟨[],[3000],[_,_],[],_,V1,rfl,trivial,rfl,trivial,?_⟩))
 rintro r U ⟨sx,nx,hsx,rfl,hx,rfl⟩
 refine ⟨rfl,?_⟩
 refine .inr (.inr (.inr ⟨[(3000,3001)],[3001],[_,_],[],_,V2,rfl,trivial,rfl,trivial,?_⟩))
 rintro r U ⟨sy,ny,hsy,rfl,hy,rfl⟩
 refine ⟨rfl,?_⟩
 refine .inr (.inr (.inr ⟨[],[9506,9507,9508],[_,_,_,_],[],_,P1,rfl,trivial,rfl,trivial,?_⟩))
 rintro r U ⟨xh,xc,xp,q1,q2,q3,rfl,rfl⟩
 generalize atP xs al k day=R at *
 refine ⟨rfl,mo (bg q1) (bg q2) (bg q3),?_⟩
 refine .inr (.inr (.inr ⟨[(9506,9516),(9507,9517),(9508,9518)],[9516,9517,9518],[_,_,_,_],[],_,P2,rfl,trivial,rfl,trivial,?_⟩))
 rintro r U ⟨yh,yc,yp,w1,w2,w3,rfl,rfl⟩
 refine ⟨rfl,mo (bg w1) (bg w2) (bg w3),?_⟩
 obtain rfl:ny=nx:=by rw [hsy,hsx]
 have hlx:ny<=1000000000000:=by
  rw [hsx]
  by_cases h0:cP xs=0
  ·have:=lj (k:=k) h0;omega
  ·have:d9 xs k=[]:=by unfold d9;rw [if_neg h0]
   rw [this];simp
 have SE:=Ef hE' hx hy hsx hlx
 have SP:=GP hE' (g:=R.1) q1 q2 q3 w1 w2 w3 (by omega)
 refine .inl ⟨_,yy,fun _=>?_,fun h=>absurd h (by decide)⟩
 refine .inr (.inr (.inl ⟨[],[_],[],_,[],K1,rfl,trivial,rfl,rfl,?_⟩))
 refine .inr (.inr (.inl ⟨[],[_],[],_,[],K2,rfl,trivial,rfl,rfl,?_⟩))
 refine ⟨fun _=>?_,fun h=>absurd h (by simp)⟩
 refine .inr (.inr (.inl ⟨[(9522,3000),(9523,3001)],[_,_],[_,_],_,[_,_],SE,rfl,⟨.inl rfl,.inl rfl,trivial⟩,rfl,rfl,?_⟩))
 refine ⟨fun _=>?_,nofun⟩
 refine ⟨fun _=>?_,fun h=>absurd h (by simp)⟩
 refine .inr (.inr (.inl ⟨[],[_,_],[_,_,_,_,_,_],_,[_,_,_,_,_,_],SP,rfl,⟨.inl rfl,.inl rfl,.inl rfl,.inl rfl,.inl rfl,.inl rfl,trivial⟩,rfl,rfl,?_⟩))
 refine ⟨fun _=>?_,nofun⟩
 exact ⟨[],[],⟨by show Value.bool _=_;simp,rfl⟩,trivial,rfl⟩
theorem Fb {E:Env} (hE:E.P=Tryz.prog) {x:Value} {xs:List EC} {nx:Nat} {k day:Int} (hx:nx=xs.length) (hn:nx<=1000000000000) (hin:∀ y∈xs,y.In):OwnC E 15 [SV.c x,SV.c (.slice none 0 0),SV.c (.int .i64 k),SV.c (.int .i64 day)] [(9640,Blk.own x 31 10 nx (cat EC.A xs))] (fun r U=>r=.bool true/\U=[(9640,Blk.own x 31 10 nx (cat EC.A xs))]):=by
 subst hx
 refine (OwnC.with_own (k:=9640) (v:=x) (e:=31) (sz:=10) (n:=xs.length) (A:=cat EC.A xs) (pre:=[]) rfl rfl (Go.SX.cat_all EC.one xs) (by rw [hE];exact KN.enters) (fun E0 h hl=>Fa (al:=[]) (h.trans hE) hl (Lst.nil _ 76) (by omega) (by decide) hin (fun _ h=>by cases h)) (fun x U h=>by rw [h.2];rfl)).mono ?_
 rintro y U ⟨U0,⟨h1,h2⟩,h3⟩
 exact ⟨h1,by rw [h3,h2]⟩
def gR:List Bs:=[[85,83,68],[69,85,82],[71,66,80]]
def iw:List Bs:=[[65,67,77,69],[66,79,78,68],[71,79,76,68],[88,49]]
structure MdE (x:EC):Prop where
 v:aV x=true
 a : -100000<=x.amt/\x.amt<=100000
 q : -2000<=x.qty/\x.qty<=2000
 c:x.amt≠0->x.cur∈gR
 i:x.qty≠0->x.ins∈iw
def D5 (c:Bs):List (Ky×Int)->Int
 | []=>0
 | x :: r=>(if x.1.1=c then x.2 else 0)+D5 c r
def sT (c:Bs):List EC->Int:=FT fun x=>if x.cur=c then x.amt else 0
structure RelS (n:Nat) (g1 g2:Led):Prop where
 o1:LedOk g1
 o2:LedOk g2
 h:g2.h=g1.h
 p:g2.p=[]
 t:∀ c,D5 c g1.c+D5 c g1.p=D5 c g2.c
 b1:AmB n g1.c
 b2:AmB n g1.p
 b3:AmB n g2.c
theorem RelS.zero:RelS 0 .zero .zero:=⟨.zero,.zero,rfl,rfl,fun _=>rfl,.nil 0,.nil 0,.nil 0⟩
def nR (l:List MK) (k:Int):Int:=match l.getLast? with
 | some m=>m.known
 | none=>k
theorem nB (m:MK):∀ (l:List MK) (k:Int),cY k (l++[m])=(cY k l && bS (nR l k) m)
 | [],k=>by
  show cY k [m]=(cY k [] && bS k m)
  rw [cY,cY];simp [cY]
 | y :: l,k=>by
  rw [List.cons_append,cY,nB m l,cY,Bool.and_assoc]
  congr 2
  unfold nR
  cases l with
  | nil=>rfl
  | cons z r =>
   rw [List.getLast?_cons_cons]
   cases hg:(z :: r).getLast? with
   | some m'=>rfl
   | none=>simp at hg
end Go.Proofs.YtekfkdddadcalaaGreatDoor
