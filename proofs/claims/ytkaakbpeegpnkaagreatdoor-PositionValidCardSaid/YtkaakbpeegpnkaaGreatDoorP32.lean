/- the chapter s examples of portfolios; no condition. -/
import Derived.Test.YtkaakbpeegpnkaaGreatDoorP30
import Derived.Test.YtkaakbpeegpnkaaGreatDoorP14
set_option maxRecDepth 100000
set_option maxHeartbeats 4000000
namespace Go.Proofs.YtkaakbpeegpnkaaGreatDoor
open Go Go.RowKit Go.SX
def kE1:EC:=⟨1,[101],5,7,[65,67,77,69],10,-100000,[85,83,68],1,false⟩
def kE2:EC:=⟨1,[102],8,8,[65,67,77,69],-21,5,[85,83,68],2,false⟩
def kXs:List EC:=[kE1,kE2]
def kAc:AC:=⟨1,[115],[65,67,77,69],[],6,2,1,(mkQ 0 1).1,[85,83,68],1,false⟩
def kAl:List AC:=[kAc]
theorem kn_1:atP kXs kAl 9 5=(⟨[([65,67,77,69],10)],[],[(([85,83,68],7),-100000)]⟩,0):=by kernel_rfl
theorem kn_2:atP kXs kAl 9 7=(⟨[([65,67,77,69],20)],[(([85,83,68],0),-100000)],[]⟩,0):=by kernel_rfl
theorem kn_3:atP kXs kAl 9 8=(.zero,181):=by kernel_rfl
def XO (x y:Value) (nx na:Nat) (xs:List EC) (al:List AC) (Q:Value→MemL→Prop) (r:Value) (U:MemL):Prop:=∃ U0,Q r U0∧U=(9640,Blk.own x 47 10 nx (cat EC.A xs)) :: (9641,Blk.own y 61 76 na (cat AC.A al)) :: U0
theorem readX {E:Env} {f:FuncId} {sv:List SV} {x y:Value} {xs:List EC} {al:List AC} {nx na:Nat} (hx:nx=xs.length) (hy:na=al.length) (hent:Go.SX.Enters E.P f) {Q:Value→MemL→Prop} (hQ:∀ r U,Q r U→getM U 9640=none∧getM U 9641=none)
    (h:∀ E0:Env,E0.P=E.P→(∀ w,OldW E0 w→OldW E w)→Lst E0 x 10 xs.length (cat EC.A xs)→Lst E0 y 76 al.length (cat AC.A al)→OwnC E0 f sv [] Q):OwnC E f sv [(9640,Blk.own x 47 10 nx (cat EC.A xs)),(9641,Blk.own y 61 76 na (cat AC.A al))] (XO x y nx na xs al Q):=by
 subst hx hy
 have h2:∀ E0:Env,E0.P=E.P→(∀ w,OldW E0 w→OldW E w)→Lst E0 x 10 xs.length (cat EC.A xs)→OwnC E0 f sv [(9641,Blk.own y 61 76 al.length (cat AC.A al))] (fun r U=>∃ U0,Q r U0∧U=(9641,Blk.own y 61 76 al.length (cat AC.A al)) :: U0):=fun E0 h0 ho hl =>
  OwnC.with_own2 (k:=9641) (v:=y) (e:=61) (sz:=76) (n:=al.length) (A:=cat AC.A al) (pre:=[]) (Q:=Q) rfl rfl (Go.SX.cat_all AC.all1 al) (by rw [h0];exact hent) (fun E1 h1 ho1 hl1=>h E1 (h1.trans h0) (fun w hw=>ho w (ho1 w hw)) (hl.of_old ho1) hl1) (fun r U hq=>(hQ r U hq).2)
 refine (OwnC.with_own2 (k:=9640) (v:=x) (e:=47) (sz:=10) (n:=xs.length) (A:=cat EC.A xs) rfl rfl (Go.SX.cat_all EC.one xs) hent h2 (fun r U ⟨U0,hq,hU⟩=>by rw [hU];exact (hQ r U0 hq).1)).mono ?_
 rintro r U ⟨U1,⟨U0,h1,rfl⟩,rfl⟩
 exact ⟨U0,h1,rfl⟩
theorem AtQ.apart {R:Led×Int} {r:Value} {U:MemL} (h:AtQ R r U):getM U 9640=none∧getM U 9641=none:=by
 obtain ⟨xh,xc,xp,-,-,-,-,rfl⟩:=h
 exact ⟨rfl,rfl⟩
theorem at_zo {E:Env} (hE:E.P=Tryz.prog) {x y:Value} {xs:List EC} {al:List AC} {nx na:Nat} {k day:Int} (hx:nx=xs.length) (hy:na=al.length) (hn:nx≤1000000000000) (hm:na≤1000000000000) (hin:∀ y∈xs,y.In) (hina:∀ y∈al,y.In):OwnC E 7 [SV.c x,SV.c y,SV.c (.int .i64 k),SV.c (.int .i64 day)] [(9640,Blk.own x 47 10 nx (cat EC.A xs)),(9641,Blk.own y 61 76 na (cat AC.A al))] (XO x y nx na xs al (AtQ (atP xs al k day))) :=
 readX hx hy (by rw [hE];exact at7.enters) (fun _ _ h=>h.apart) fun E0 h0 _ hl1 hl2=>at_z (h0.trans hE) hl1 hl2 (by omega) (by omega) hin hina
theorem held_zo {E:Env} (hE:E.P=Tryz.prog) {x vc vp:Value} {H:List (Bs×Int)} {k:Bs} {n:Nat} (hn:n=H.length) (hb:n≤1000000000000):OwnC E 16 [SV.c (.agg #[x,vc,vp]),SV.c (.string (S k))] [(9610,Blk.own x 90 2 n (cat sumA H))] (fun y U=>y=.int .i64 (getA H k)∧U=[(9610,Blk.own x 90 2 n (cat sumA H))]):=by
 subst hn
 refine (OwnC.with_own (k:=9610) (v:=x) (e:=90) (sz:=2) (n:=H.length) (A:=cat sumA H) (pre:=[]) rfl rfl (cat_all sumA_one H) (by rw [hE];exact at16.enters) (fun E0 h hl=>held_z (h.trans hE) hl hb) (fun x U h=>by rw [h.2];rfl)).mono ?_
 rintro y U ⟨U0,⟨h1,h2⟩,h3⟩
 exact ⟨h1,by rw [h3,h2]⟩
theorem kXs_in:∀ y∈kXs,y.In:=by
 intro y hy
 simp only [kXs,List.mem_cons,List.not_mem_nil,or_false] at hy
 rcases hy with rfl | rfl
 ·exact ⟨by decide,by decide,by decide⟩
 ·exact ⟨by decide,by decide,by decide⟩
theorem kAl_in:∀ y∈kAl,y.In:=by
 intro y hy
 simp only [kAl,List.mem_cons,List.not_mem_nil,or_false] at hy
 subst hy
 exact ⟨mkQ_in _ _,by decide,by decide,by decide,by decide,by decide,by decide⟩
theorem fill_k1 {pl:List (Nat×Nat)} (hpl:pl=[(0,1),(1,1),(2,1),(3,1),(4,1),(5,1),(6,1),(7,1),(8,1),(9,1)]):Instr.fill (fun k=>pl[k]?) ti47.zero [(0,.int .i64 1),(1,.string (S [101])),(2,.int .i64 5),(3,.int .i64 7),(4,.string (S [65,67,77,69])),(5,.int .i64 10),(6,.int .i64 (-100000)),(7,.string (S [85,83,68])),(8,.int .i64 1)]=some kE1.A:=by
 subst hpl;rfl
theorem fill_k2 {pl:List (Nat×Nat)} (hpl:pl=[(0,1),(1,1),(2,1),(3,1),(4,1),(5,1),(6,1),(7,1),(8,1),(9,1)]):Instr.fill (fun k=>pl[k]?) ti47.zero [(0,.int .i64 1),(1,.string (S [102])),(2,.int .i64 8),(3,.int .i64 8),(4,.string (S [65,67,77,69])),(5,.int .i64 (-21)),(6,.int .i64 5),(7,.string (S [85,83,68])),(8,.int .i64 2)]=some kE2.A:=by
 subst hpl;rfl
theorem fill_kx:Instr.fill (fun k=>some (k*ti47.size,ti47.size)) (madeCells ti47.zero (2*ti47.size)) [(0,.agg kE1.A),(1,.agg kE2.A)]=some (cat EC.A kXs):=by kernel_rfl
theorem fill_ka {pl:List (Nat×Nat)} (hpl:pl=[(0,1),(1,1),(2,1),(3,1),(4,1),(5,1),(6,1),(7,66),(73,1),(74,1),(75,1)]):Instr.fill (fun k=>pl[k]?) ti61.zero [(0,.int .i64 1),(1,.string (S [115])),(2,.string (S [65,67,77,69])),(4,.int .i64 6),(5,.int .i64 2),(6,.int .i64 1),(7,.agg (mkQ 0 1).1.A),(8,.string (S [85,83,68])),(9,.int .i64 1)]=some kAc.A:=by
 subst hpl;kernel_rfl
theorem fill_kal:Instr.fill (fun k=>some (k*ti61.size,ti61.size)) (madeCells ti61.zero (1*ti61.size)) [(0,.agg kAc.A)]=some (cat AC.A kAl):=by kernel_rfl
theorem eqs_bal {E:Env} (hE:E.P=Tryz.prog) (x:Ky×Int) {u v:Operand}:Runs E (do eqGuard .eql 85 u v (.agg (sumK x)) (.agg (sumK x));binOp .eql 85 (.agg (sumK x)) (.agg (sumK x))) (.bool true):=by
 have:=eql_bal hE x x (u:=u) (v:=v)
 rwa [eqK_self] at this
theorem known_p0 {E:Env} (hE:E.P=Tryz.prog):OwnC E 9 [] [] (fun x U=>x=.bool true∧U=[]):=by
 refine sx_ownC [] tt_ok mixed at9 E hE [] [] _ rfl rfl fun w X β hT=>?_
 have hE':(envC Tryz.prog tt Tryz.f9.ntmps w X (tiedK [] β)).toEnv.P=Tryz.prog:=rfl
 have O1:=made_of (n:=0) (d:=1) (by decide) (by decide) (by decide) (by decide)
 have FX:=fill_kx
 have FA:=fill_ka rfl
 have FL:=fill_kal
 have SX0:(cat EC.A kXs).size=2*10:=by rw [Go.SX.cat_size EC.size];rfl
 have SA0:(cat AC.A kAl).size=1*76:=by rw [Go.SX.cat_size AC.size];rfl
 have L1:=fun (g g2:Nat)=>at_zo hE' (x:=.slice (some ⟨g,0,none⟩) 2 2) (y:=.slice (some ⟨g2,0,none⟩) 1 1) (k:=9) (day:=5) (xs:=kXs) (al:=kAl) (nx:=2) (na:=1) rfl rfl (by decide) (by decide) kXs_in kAl_in
 have L2:=fun (g g2:Nat)=>at_zo hE' (x:=.slice (some ⟨g,0,none⟩) 2 2) (y:=.slice (some ⟨g2,0,none⟩) 1 1) (k:=9) (day:=7) (xs:=kXs) (al:=kAl) (nx:=2) (na:=1) rfl rfl (by decide) (by decide) kXs_in kAl_in
 have L3:=fun (g g2:Nat)=>at_zo hE' (x:=.slice (some ⟨g,0,none⟩) 2 2) (y:=.slice (some ⟨g2,0,none⟩) 1 1) (k:=9) (day:=8) (xs:=kXs) (al:=kAl) (nx:=2) (na:=1) rfl rfl (by decide) (by decide) kXs_in kAl_in
 rw [kn_1] at L1
 rw [kn_2] at L2
 rw [kn_3] at L3
 refine ⟨_,fill_k1 rfl,_,fill_k2 rfl,?_⟩
 refine .inr ⟨by decide,by decide,by decide,cat EC.A kXs,FX,SX0,trivial,fun g=>?_⟩
 refine .inl ⟨_,O1,?_⟩
 refine ⟨_,FA,?_⟩
 refine .inr ⟨by decide,by decide,by decide,cat AC.A kAl,FL,SA0,trivial,fun g2=>?_⟩
 have L1:=L1 g g2
 have L2:=L2 g g2
 have L3:=L3 g g2
 refine .inr (.inr (.inr ⟨[(9640,11),(9641,14)],[9506,9507,9508],[_,_,_,_],[_,_],_,L1,rfl,⟨.inl rfl,.inl rfl,trivial⟩,rfl,trivial,?_⟩))
 rintro r U ⟨U0,⟨xh,xc,xp,q1,q2,q3,rfl,rfl⟩,rfl⟩
 refine ⟨rfl,?_⟩
 have one:∀ {x:Value},IsL x 1→∃ g c,x=.slice (some ⟨g,0,none⟩) 1 c:=fun {x} h=>by
  rcases h with ⟨_,h⟩ | ⟨g,c,h⟩
  ·cases h
  ·exact ⟨g,c,h⟩
 obtain ⟨gh,ch,rfl⟩:=one (show IsL xh 1 from q1)
 obtain ⟨ca,cc,rfl⟩:=(show IsL xc 0 from q2).len
 obtain ⟨gp,cp,rfl⟩:=one (show IsL xp 1 from q3)
 refine ⟨fits3 rfl rfl rfl,?_⟩
 refine .inr (.inr (.inr ⟨[(9640,11),(9641,14),(9506,9516),(9507,9517),(9508,9518)],[9516,9517,9518],[_,_,_,_],[_,_],_,L2,rfl,⟨.inl rfl,.inl rfl,trivial⟩,rfl,trivial,?_⟩))
 rintro r U ⟨U0,⟨yh,yc,yp,w1,w2,w3,rfl,rfl⟩,rfl⟩
 obtain ⟨gh2,ch2,rfl⟩:=one (show IsL yh 1 from w1)
 obtain ⟨gc2,cc2,rfl⟩:=one (show IsL yc 1 from w2)
 obtain ⟨pa,pc,rfl⟩:=(show IsL yp 0 from w3).len
 refine ⟨rfl,fits3 rfl rfl rfl,?_⟩
 refine .inr (.inr (.inr ⟨[(9640,11),(9641,14),(9506,9526),(9507,9527),(9508,9528)],[9526,9527,9528],[_,_,_,_],[_,_],_,L3,rfl,⟨.inl rfl,.inl rfl,trivial⟩,rfl,trivial,?_⟩))
 rintro r U ⟨U0,⟨zh,zc,zp,v1,v2,v3,rfl,rfl⟩,rfl⟩
 refine ⟨rfl,fits3 (isL_one v1) (isL_one v2) (isL_one v3),?_⟩
 have H1:=held_zo hE' (x:=.slice (some ⟨gh,0,none⟩) 1 ch) (vc:=.slice ca 0 cc) (vp:=.slice (some ⟨gp,0,none⟩) 1 cp) (H:=[([65,67,77,69],10)]) (k:=[65,67,77,69]) (n:=1) rfl (by decide)
 have H2:=held_zo hE' (x:=.slice (some ⟨gh2,0,none⟩) 1 ch2) (vc:=.slice (some ⟨gc2,0,none⟩) 1 cc2) (vp:=.slice pa 0 pc) (H:=[([65,67,77,69],20)]) (k:=[65,67,77,69]) (n:=1) rfl (by decide)
 rw [show getA [(([65,67,77,69]:Bs),(10:Int))] [65,67,77,69]=10 from by decide] at H1
 rw [show getA [(([65,67,77,69]:Bs),(20:Int))] [65,67,77,69]=20 from by decide] at H2
 refine ⟨fun _=>?_,fun h=>absurd h (by decide)⟩
 refine .inr (.inr (.inl ⟨[(9610,9506)],[_,_],[_],_,[_],H1,rfl,⟨.inl rfl,trivial⟩,rfl,rfl,?_⟩))
 have B1:=fun (u v:Operand)=>eqs_bal hE' (([85,83,68],7),-100000) (u:=u) (v:=v)
 refine ⟨fun _=>?_,fun h=>absurd h (by decide)⟩
 refine ⟨_,rfl,_,fun w' _=>run_len_sl Tryz.underlying28 w',fun _=>?_,fun h=>absurd h (by decide)⟩
 refine ⟨_,rfl,_,fun w' _=>run_len_sl Tryz.underlying28 w',fun _=>?_,fun h=>absurd h (by decide)⟩
 refine ⟨_,rfl,by decide,by decide,.inr ⟨9508,gp,_,1,cp,_,_,_,rfl,rfl,by decide,sumK (([85,83,68],7),-100000),rfl,?_⟩⟩
 refine ⟨_,fill_bal (([85,83,68],7),-100000) rfl,_,B1 _ _,?_⟩
 refine ⟨fun _=>?_,fun h=>absurd h (by decide)⟩
 refine ⟨fun _=>?_,fun h=>absurd h (by decide)⟩
 refine .inr (.inr (.inl ⟨[(9610,9516)],[_,_],[_],_,[_],H2,rfl,⟨.inl rfl,trivial⟩,rfl,rfl,?_⟩))
 refine ⟨fun _=>?_,fun h=>absurd h (by decide)⟩
 refine ⟨_,rfl,_,fun w' _=>run_len_sl Tryz.underlying28 w',fun _=>?_,fun h=>absurd h (by decide)⟩
 refine ⟨_,rfl,by decide,by decide,.inr ⟨9517,gc2,_,1,cc2,_,_,_,rfl,rfl,.int .i64 (-100000),rfl,?_⟩⟩
 refine ⟨fun _=>?_,fun h=>absurd h (by decide)⟩
 exact ⟨[],[],⟨rfl,rfl⟩,trivial,rfl⟩
theorem known_p:Pure Tryz.prog 9 [] (.bool true):=pure_of (vs:=[]) at9.enters fun _w=>known_p0 rfl
end Go.Proofs.YtkaakbpeegpnkaaGreatDoor
