/- the chapter s examples of portfolios. PositionValid, at every call. PositionExact, at every call. made entries without actions: plain law. made entries without actions: what At returns: plain law. as days pass, what was pending is cash: plain law. records that became known later change nothing: plain law. At, Visible, Valid of lists of the call s own. PositionExact, of a book of the call s own and without actions. an entry corrected and corrected back: plain law. without actions and sales the order does not matter: plain law; no condition. -/
import Derived.Test.YtekfkdddadcalaaGreatDoorPositionBentQ13
import Derived.Test.YtekfkdddadcalaaGreatDoorPositionBentQ27
set_option maxRecDepth 100000
set_option maxHeartbeats 4000000
namespace Go.Proofs.YtekfkdddadcalaaGreatDoor
open Go Go.RowKit Go.SX
def kE1:EC:=⟨1,[101],5,7,[65,67,77,69],10,-100000,[85,83,68],1,false⟩
def kE2:EC:=⟨1,[102],8,8,[65,67,77,69],-21,5,[85,83,68],2,false⟩
def kXs:List EC:=[kE1,kE2]
def kAc:AC:=⟨1,[115],[65,67,77,69],[],6,2,1,(mkQ 0 1).1,[85,83,68],1,false⟩
def kAl:List AC:=[kAc]
theorem kn_1:atP kXs kAl 9 5=(⟨[([65,67,77,69],10)],[],[(([85,83,68],7),-100000)]⟩,0):=by kernel_rfl
theorem kn_2:atP kXs kAl 9 7=(⟨[([65,67,77,69],20)],[(([85,83,68],0),-100000)],[]⟩,0):=by kernel_rfl
theorem kn_3:atP kXs kAl 9 8=(.zero,181):=by kernel_rfl
def XO (x y:Value) (nx na:Nat) (xs:List EC) (al:List AC) (Q:Value→MemL→Prop) (r:Value) (U:MemL):Prop:=∃ U0,Q r U0∧U=(9640,Blk.own x 31 10 nx (cat EC.A xs)) :: (9641,Blk.own y 61 76 na (cat AC.A al)) :: U0
theorem readX {E:Env} {f:FuncId} {sv:List SV} {x y:Value} {xs:List EC} {al:List AC} {nx na:Nat} (hx:nx=xs.length) (hy:na=al.length) (hent:Go.SX.Enters E.P f) {Q:Value→MemL→Prop} (hQ:∀ r U,Q r U→getM U 9640=none∧getM U 9641=none)
    (h:∀ E0:Env,E0.P=E.P→(∀ w,OldW E0 w→OldW E w)→Lst E0 x 10 xs.length (cat EC.A xs)→Lst E0 y 76 al.length (cat AC.A al)→OwnC E0 f sv [] Q):OwnC E f sv [(9640,Blk.own x 31 10 nx (cat EC.A xs)),(9641,Blk.own y 61 76 na (cat AC.A al))] (XO x y nx na xs al Q):=by
 subst hx hy
 have h2:∀ E0:Env,E0.P=E.P→(∀ w,OldW E0 w→OldW E w)→Lst E0 x 10 xs.length (cat EC.A xs)→OwnC E0 f sv [(9641,Blk.own y 61 76 al.length (cat AC.A al))] (fun r U=>∃ U0,Q r U0∧U=(9641,Blk.own y 61 76 al.length (cat AC.A al)) :: U0):=fun E0 h0 ho hl =>
  OwnC.with_own2 (k:=9641) (v:=y) (e:=61) (sz:=76) (n:=al.length) (A:=cat AC.A al) (pre:=[]) (Q:=Q) rfl rfl (Go.SX.cat_all AC.all1 al) (by rw [h0];exact hent) (fun E1 h1 ho1 hl1=>h E1 (h1.trans h0) (fun w hw=>ho w (ho1 w hw)) (hl.of_old ho1) hl1) (fun r U hq=>(hQ r U hq).2)
 refine (OwnC.with_own2 (k:=9640) (v:=x) (e:=31) (sz:=10) (n:=xs.length) (A:=cat EC.A xs) rfl rfl (Go.SX.cat_all EC.one xs) hent h2 (fun r U ⟨U0,hq,hU⟩=>by rw [hU];exact (hQ r U0 hq).1)).mono ?_
 rintro r U ⟨U1,⟨U0,h1,rfl⟩,rfl⟩
 exact ⟨U0,h1,rfl⟩
theorem AtQ.apart {R:Led×Int} {r:Value} {U:MemL} (h:AtQ R r U):getM U 9640=none∧getM U 9641=none:=by
 obtain ⟨xh,xc,xp,-,-,-,-,rfl⟩:=h
 exact ⟨rfl,rfl⟩
theorem at_zo {E:Env} (hE:E.P=Tryz.prog) {x y:Value} {xs:List EC} {al:List AC} {nx na:Nat} {k day:Int} (hx:nx=xs.length) (hy:na=al.length) (hn:nx≤1000000000000) (hm:na≤1000000000000) (hin:∀ y∈xs,y.In) (hina:∀ y∈al,y.In):OwnC E 17 [SV.c x,SV.c y,SV.c (.int .i64 k),SV.c (.int .i64 day)] [(9640,Blk.own x 31 10 nx (cat EC.A xs)),(9641,Blk.own y 61 76 na (cat AC.A al))] (XO x y nx na xs al (AtQ (atP xs al k day))) :=
 readX hx hy (by rw [hE];exact at17.enters) (fun _ _ h=>h.apart) fun E0 h0 _ hl1 hl2=>at_z (h0.trans hE) hl1 hl2 (by omega) (by omega) hin hina
theorem held_zo {E:Env} (hE:E.P=Tryz.prog) {x vc vp:Value} {H:List (Bs×Int)} {k:Bs} {n:Nat} (hn:n=H.length) (hb:n≤1000000000000):OwnC E 19 [SV.c (.agg #[x,vc,vp]),SV.c (.string (S k))] [(9610,Blk.own x 66 2 n (cat sumA H))] (fun y U=>y=.int .i64 (getA H k)∧U=[(9610,Blk.own x 66 2 n (cat sumA H))]):=by
 subst hn
 refine (OwnC.with_own (k:=9610) (v:=x) (e:=66) (sz:=2) (n:=H.length) (A:=cat sumA H) (pre:=[]) rfl rfl (cat_all sumA_one H) (by rw [hE];exact at19.enters) (fun E0 h hl=>held_z (h.trans hE) hl hb) (fun x U h=>by rw [h.2];rfl)).mono ?_
 rintro y U ⟨U0,⟨h1,h2⟩,h3⟩
 exact ⟨h1,by rw [h3,h2]⟩
theorem kXs_in:∀ y∈kXs,y.In:=by
 intro y hy
 simp only [kXs,List.mem_cons,List.not_mem_nil,or_false] at hy
 rcases hy with rfl | rfl
 ·exact ⟨by decide,by decide,by decide⟩
 ·exact ⟨by decide,by decide,by decide⟩
theorem kAl_in:∀ y∈kAl,y.In:=by
 intro y hy
 simp only [kAl,List.mem_cons,List.not_mem_nil,or_false] at hy
 subst hy
 exact ⟨mkQ_in _ _,by decide,by decide,by decide,by decide,by decide,by decide⟩
theorem fill_k1 {pl:List (Nat×Nat)} (hpl:pl=[(0,1),(1,1),(2,1),(3,1),(4,1),(5,1),(6,1),(7,1),(8,1),(9,1)]):Instr.fill (fun k=>pl[k]?) ti31.zero [(0,.int .i64 1),(1,.string (S [101])),(2,.int .i64 5),(3,.int .i64 7),(4,.string (S [65,67,77,69])),(5,.int .i64 10),(6,.int .i64 (-100000)),(7,.string (S [85,83,68])),(8,.int .i64 1)]=some kE1.A:=by
 subst hpl;rfl
theorem fill_k2 {pl:List (Nat×Nat)} (hpl:pl=[(0,1),(1,1),(2,1),(3,1),(4,1),(5,1),(6,1),(7,1),(8,1),(9,1)]):Instr.fill (fun k=>pl[k]?) ti31.zero [(0,.int .i64 1),(1,.string (S [102])),(2,.int .i64 8),(3,.int .i64 8),(4,.string (S [65,67,77,69])),(5,.int .i64 (-21)),(6,.int .i64 5),(7,.string (S [85,83,68])),(8,.int .i64 2)]=some kE2.A:=by
 subst hpl;rfl
theorem fill_kx:Instr.fill (fun k=>some (k*ti31.size,ti31.size)) (madeCells ti31.zero (2*ti31.size)) [(0,.agg kE1.A),(1,.agg kE2.A)]=some (cat EC.A kXs):=by kernel_rfl
theorem fill_ka {pl:List (Nat×Nat)} (hpl:pl=[(0,1),(1,1),(2,1),(3,1),(4,1),(5,1),(6,1),(7,66),(73,1),(74,1),(75,1)]):Instr.fill (fun k=>pl[k]?) ti61.zero [(0,.int .i64 1),(1,.string (S [115])),(2,.string (S [65,67,77,69])),(4,.int .i64 6),(5,.int .i64 2),(6,.int .i64 1),(7,.agg (mkQ 0 1).1.A),(8,.string (S [85,83,68])),(9,.int .i64 1)]=some kAc.A:=by
 subst hpl;kernel_rfl
theorem fill_kal:Instr.fill (fun k=>some (k*ti61.size,ti61.size)) (madeCells ti61.zero (1*ti61.size)) [(0,.agg kAc.A)]=some (cat AC.A kAl):=by kernel_rfl
theorem eqs_bal {E:Env} (hE:E.P=Tryz.prog) (x:Ky×Int) {u v:Operand}:Runs E (do eqGuard .eql 49 u v (.agg (sumK x)) (.agg (sumK x));binOp .eql 49 (.agg (sumK x)) (.agg (sumK x))) (.bool true):=by
 have:=eql_bal hE x x (u:=u) (v:=v)
 rwa [eqK_self] at this
theorem known_p0 {E:Env} (hE:E.P=Tryz.prog):OwnC E 16 [] [] (fun x U=>x=.bool true∧U=[]):=by
 refine sx_ownC [] tt_ok mixed at16 E hE [] [] _ rfl rfl fun w X β hT=>?_
 have hE':(envC Tryz.prog tt Tryz.f16.ntmps w X (tiedK [] β)).toEnv.P=Tryz.prog:=rfl
 have O1:=made_of (n:=0) (d:=1) (by decide) (by decide) (by decide) (by decide)
 have FX:=fill_kx
 have FA:=fill_ka rfl
 have FL:=fill_kal
 have SX0:(cat EC.A kXs).size=2*10:=by rw [Go.SX.cat_size EC.size];rfl
 have SA0:(cat AC.A kAl).size=1*76:=by rw [Go.SX.cat_size AC.size];rfl
 have L1:=fun (g g2:Nat)=>at_zo hE' (x:=.slice (some ⟨g,0,none⟩) 2 2) (y:=.slice (some ⟨g2,0,none⟩) 1 1) (k:=9) (day:=5) (xs:=kXs) (al:=kAl) (nx:=2) (na:=1) rfl rfl (by decide) (by decide) kXs_in kAl_in
 have L2:=fun (g g2:Nat)=>at_zo hE' (x:=.slice (some ⟨g,0,none⟩) 2 2) (y:=.slice (some ⟨g2,0,none⟩) 1 1) (k:=9) (day:=7) (xs:=kXs) (al:=kAl) (nx:=2) (na:=1) rfl rfl (by decide) (by decide) kXs_in kAl_in
 have L3:=fun (g g2:Nat)=>at_zo hE' (x:=.slice (some ⟨g,0,none⟩) 2 2) (y:=.slice (some ⟨g2,0,none⟩) 1 1) (k:=9) (day:=8) (xs:=kXs) (al:=kAl) (nx:=2) (na:=1) rfl rfl (by decide) (by decide) kXs_in kAl_in
 rw [kn_1] at L1
 rw [kn_2] at L2
 rw [kn_3] at L3
 refine ⟨_,fill_k1 rfl,_,fill_k2 rfl,?_⟩
 refine .inr ⟨by decide,by decide,by decide,cat EC.A kXs,FX,SX0,trivial,fun g=>?_⟩
 refine .inl ⟨_,O1,?_⟩
 refine ⟨_,FA,?_⟩
 refine .inr ⟨by decide,by decide,by decide,cat AC.A kAl,FL,SA0,trivial,fun g2=>?_⟩
 have L1:=L1 g g2
 have L2:=L2 g g2
 have L3:=L3 g g2
 refine .inr (.inr (.inr ⟨[(9640,11),(9641,14)],[9506,9507,9508],[_,_,_,_],[_,_],_,L1,rfl,⟨.inl rfl,.inl rfl,trivial⟩,rfl,trivial,?_⟩))
 rintro r U ⟨U0,⟨xh,xc,xp,q1,q2,q3,rfl,rfl⟩,rfl⟩
 refine ⟨rfl,?_⟩
 have one:∀ {x:Value},IsL x 1→∃ g c,x=.slice (some ⟨g,0,none⟩) 1 c:=fun {x} h=>by
  rcases h with ⟨_,h⟩ | ⟨g,c,h⟩
  ·cases h
  ·exact ⟨g,c,h⟩
 obtain ⟨gh,ch,rfl⟩:=one (show IsL xh 1 from q1)
 obtain ⟨ca,cc,rfl⟩:=(show IsL xc 0 from q2).len
 obtain ⟨gp,cp,rfl⟩:=one (show IsL xp 1 from q3)
 refine ⟨fits3 rfl rfl rfl,?_⟩
 refine .inr (.inr (.inr ⟨[(9640,11),(9641,14),(9506,9516),(9507,9517),(9508,9518)],[9516,9517,9518],[_,_,_,_],[_,_],_,L2,rfl,⟨.inl rfl,.inl rfl,trivial⟩,rfl,trivial,?_⟩))
 rintro r U ⟨U0,⟨yh,yc,yp,w1,w2,w3,rfl,rfl⟩,rfl⟩
 obtain ⟨gh2,ch2,rfl⟩:=one (show IsL yh 1 from w1)
 obtain ⟨gc2,cc2,rfl⟩:=one (show IsL yc 1 from w2)
 obtain ⟨pa,pc,rfl⟩:=(show IsL yp 0 from w3).len
 refine ⟨rfl,fits3 rfl rfl rfl,?_⟩
 refine .inr (.inr (.inr ⟨[(9640,11),(9641,14),(9506,9526),(9507,9527),(9508,9528)],[9526,9527,9528],[_,_,_,_],[_,_],_,L3,rfl,⟨.inl rfl,.inl rfl,trivial⟩,rfl,trivial,?_⟩))
 rintro r U ⟨U0,⟨zh,zc,zp,v1,v2,v3,rfl,rfl⟩,rfl⟩
 refine ⟨rfl,fits3 (isL_one v1) (isL_one v2) (isL_one v3),?_⟩
 have H1:=held_zo hE' (x:=.slice (some ⟨gh,0,none⟩) 1 ch) (vc:=.slice ca 0 cc) (vp:=.slice (some ⟨gp,0,none⟩) 1 cp) (H:=[([65,67,77,69],10)]) (k:=[65,67,77,69]) (n:=1) rfl (by decide)
 have H2:=held_zo hE' (x:=.slice (some ⟨gh2,0,none⟩) 1 ch2) (vc:=.slice (some ⟨gc2,0,none⟩) 1 cc2) (vp:=.slice pa 0 pc) (H:=[([65,67,77,69],20)]) (k:=[65,67,77,69]) (n:=1) rfl (by decide)
 rw [show getA [(([65,67,77,69]:Bs),(10:Int))] [65,67,77,69]=10 from by decide] at H1
 rw [show getA [(([65,67,77,69]:Bs),(20:Int))] [65,67,77,69]=20 from by decide] at H2
 refine ⟨fun _=>?_,fun h=>absurd h (by decide)⟩
 refine .inr (.inr (.inl ⟨[(9610,9506)],[_,_],[_],_,[_],H1,rfl,⟨.inl rfl,trivial⟩,rfl,rfl,?_⟩))
 have B1:=fun (u v:Operand)=>eqs_bal hE' (([85,83,68],7),-100000) (u:=u) (v:=v)
 refine ⟨fun _=>?_,fun h=>absurd h (by decide)⟩
 refine ⟨_,rfl,_,fun w' _=>run_len_sl Tryz.underlying38 w',fun _=>?_,fun h=>absurd h (by decide)⟩
 refine ⟨_,rfl,_,fun w' _=>run_len_sl Tryz.underlying38 w',fun _=>?_,fun h=>absurd h (by decide)⟩
 refine ⟨_,rfl,by decide,by decide,.inr ⟨9508,gp,_,1,cp,_,_,_,rfl,rfl,by decide,sumK (([85,83,68],7),-100000),rfl,?_⟩⟩
 refine ⟨_,fill_bal (([85,83,68],7),-100000) rfl,_,B1 _ _,?_⟩
 refine ⟨fun _=>?_,fun h=>absurd h (by decide)⟩
 refine ⟨fun _=>?_,fun h=>absurd h (by decide)⟩
 refine .inr (.inr (.inl ⟨[(9610,9516)],[_,_],[_],_,[_],H2,rfl,⟨.inl rfl,trivial⟩,rfl,rfl,?_⟩))
 refine ⟨fun _=>?_,fun h=>absurd h (by decide)⟩
 refine ⟨_,rfl,_,fun w' _=>run_len_sl Tryz.underlying38 w',fun _=>?_,fun h=>absurd h (by decide)⟩
 refine ⟨_,rfl,by decide,by decide,.inr ⟨9517,gc2,_,1,cc2,_,_,_,rfl,rfl,.int .i64 (-100000),rfl,?_⟩⟩
 refine ⟨fun _=>?_,fun h=>absurd h (by decide)⟩
 exact ⟨[],[],⟨rfl,rfl⟩,trivial,rfl⟩
theorem known_p:Pure Tryz.prog 16 [] (.bool true):=pure_of (vs:=[]) at16.enters fun _w=>known_p0 rfl
theorem held_z6 {E:Env} (hE:E.P=Tryz.prog) {v vc vp:Value} {xs:List (Bs×Int)} {k:Bs} (hv:Lst E v 2 xs.length (cat sumA xs)) (hn:xs.length≤6000000000000):OwnC E 19 [SV.c (.agg #[v,vc,vp]),SV.c (.string (S k))] [] (fun x U=>x=.int .i64 (getA xs k)∧U=[]):=by
 refine sx_ownC [] tt_ok mixed at19 E hE [SV.c (.agg #[v,vc,vp]),SV.c (.string (S k))] [] _ rfl rfl fun w X β hT=>?_
 obtain ⟨a,cap,rfl,hc,h4⟩:=(hv.of_old hT).shape
 refine ⟨rfl,_,rfl,_,fun w' _=>run_len_sl Tryz.underlying37 w',?_⟩
 refine ⟨fun q f m=>∃ (i:Nat),q=xs.length - i∧i≤xs.length∧(∀ x∈xs.take i,x.1≠k)∧f=[(1,SV.c (.string (S k))),(8,SV.c (.slice a xs.length cap)),(9,SV.c (.int .i64 (xs.length:Nat))),(10,SV.c (.int .i64 (i:Nat)))]∧m=[],xs.length,⟨_,_,⟨0,rfl,by omega,fun x h=>by simp at h,rfl,rfl⟩,⟨rfl,rfl,rfl,rfl,trivial⟩,trivial,rfl⟩,?_⟩
 rintro q f m ⟨i,rfl,hi,hk,rfl,rfl⟩
 refine ⟨fun h=>?_,fun h=>?_⟩
 ·have h:i < xs.length:=by have:=of_decide_eq_true h;omega
  obtain ⟨b,o,rfl,h5⟩:=h4 (by omega)
  obtain ⟨y,hy⟩:∃ y,xs[i]? = some y:=⟨_,List.getElem?_eq_getElem h⟩
  have hE':VOk (envC Tryz.prog tt Tryz.f19.ntmps w X (tiedK [] β)):=tt_ok
  have L2:=lst_elem hE' h5 sumA_size hy (ty:=66) (ti:=ti66) rfl rfl rfl (p:=o+(i:Int).toNat*2) rfl
  refine ⟨by omega,by omega,.inl ⟨_,L2,sumA_fits y,_,rfl,fun c=>?_,fun c=>?_⟩⟩
  ·have c:y.1=k:=by have c:=(S_beq y.1 k).symm.trans c;simpa using c
   have e:getA xs k=y.2:=by
    have e1:xs=xs.take i++y :: xs.drop (i+1):=by rw [← drop_at hy,List.take_append_drop]
    rw [e1,getA_skip hk,← c];exact getA_hit (k:=y.1) (n:=y.2)
   exact ⟨_,rfl,[],[],⟨by rw [e];rfl,rfl⟩,trivial,rfl⟩
  ·have c:¬ y.1=k:=by have c:=(S_beq y.1 k).symm.trans c;simpa using c
   have hk':∀ x∈xs.take (i+1),x.1≠k:=fun x hx=>by
    rw [take_one hy] at hx
    rcases List.mem_append.1 hx with hx | hx
    ·exact hk x hx
    ·rw [List.mem_singleton.1 hx];exact c
   exact ⟨xs.length - (i+1),_,_,by omega,⟨i+1,rfl,by omega,hk',rfl,rfl⟩,⟨rfl,rfl,rfl,c_int (i64_succ (by omega)),trivial⟩,trivial,rfl⟩
 ·have h:i=xs.length:=by have:=of_decide_eq_false h;omega
  subst h
  rw [List.take_length] at hk
  exact ⟨[],[],⟨by rw [getA_none hk];rfl,rfl⟩,trivial,rfl⟩
theorem held_r6 {E:Env} (hE:E.P=Tryz.prog) {v vc vp:Value} {xs:List (Bs×Int)} {k:Bs} (hv:Lst E v 2 xs.length (cat sumA xs)) (hn:xs.length≤6000000000000):OwnC E 63 [SV.c (.agg #[v,vc,vp]),SV.c (.string (S k))] [] (fun x U=>x=.int .i64 (getA xs k)∧U=[]):=by
 refine sx_ownC [] tt_ok mixed at63 E hE [SV.c (.agg #[v,vc,vp]),SV.c (.string (S k))] [] _ rfl rfl fun w X β hT=>?_
 obtain ⟨a,cap,rfl,hc,h4⟩:=(hv.of_old hT).shape
 refine ⟨rfl,fun q f m=>∃ (i:Nat),q=xs.length - i∧i≤xs.length∧(∀ x∈xs.take i,x.1≠k)∧f=[(1,SV.c (.string (S k))),(2,SV.ptr 2 0),(5,SV.c (.int .i64 (i:Nat)))]∧m=[(2,Blk.row 40 3 #[.slice a xs.length cap,vc,vp])],xs.length,⟨_,_,⟨0,by omega,by omega,fun x h=>by simp at h,rfl,rfl⟩,⟨rfl,rfl,rfl,trivial⟩,⟨rfl,trivial⟩,rfl⟩,?_⟩
 rintro q f m ⟨i,rfl,hi,hk,rfl,rfl⟩
 refine ⟨_,rfl,_,fun w' _=>run_len_sl Tryz.underlying37 w',fun h=>?_,fun h=>?_⟩
 ·have h:i < xs.length:=by have:=of_decide_eq_true h;omega
  obtain ⟨b,o,rfl,h5⟩:=h4 (by omega)
  obtain ⟨y,hy⟩:∃ y,xs[i]? = some y:=⟨_,List.getElem?_eq_getElem h⟩
  have hE':VOk (envC Tryz.prog tt Tryz.f63.ntmps w X (tiedK [] β)):=tt_ok
  have L1:=lst_at hE' h5 sumA_size hy (j:=0) (v:=.string (S y.1)) rfl (ty:=9) (ti:=ti9) rfl rfl (p:=o+(i:Int).toNat*2+0) rfl
  have L2:=lst_at hE' h5 sumA_size hy (j:=1) (v:=.int .i64 y.2) rfl (ty:=3) (ti:=ti3) rfl rfl (p:=o+(i:Int).toNat*2+1) rfl
  refine ⟨_,rfl,by omega,by omega,.inl ⟨_,L1,fun c=>?_,fun c=>?_⟩⟩
  ·have c:y.1=k:=by have c:=(S_beq y.1 k).symm.trans c;simpa using c
   refine ⟨_,rfl,by omega,by omega,.inl ⟨_,L2,?_⟩⟩
   have e:getA xs k=y.2:=by
    have e1:xs=xs.take i++y :: xs.drop (i+1):=by rw [← drop_at hy,List.take_append_drop]
    rw [e1,getA_skip hk,← c];exact getA_hit (k:=y.1) (n:=y.2)
   exact ⟨[],[],⟨by rw [e];rfl,rfl⟩,trivial,rfl⟩
  ·have c:¬ y.1=k:=by have c:=(S_beq y.1 k).symm.trans c;simpa using c
   have hk':∀ x∈xs.take (i+1),x.1≠k:=fun x hx=>by
    rw [take_one hy] at hx
    rcases List.mem_append.1 hx with hx | hx
    ·exact hk x hx
    ·rw [List.mem_singleton.1 hx];exact c
   exact ⟨xs.length - (i+1),_,_,by omega,⟨i+1,rfl,by omega,hk',rfl,rfl⟩,⟨rfl,rfl,c_int (i64_succ (by omega)),trivial⟩,⟨rfl,trivial⟩,rfl⟩
 ·have h:i=xs.length:=by have:=of_decide_eq_false h;omega
  subst h
  rw [List.take_length] at hk
  exact ⟨[],[],⟨by rw [getA_none hk];rfl,rfl⟩,trivial,rfl⟩
theorem valid_law {E:Env} (hE:E.P=Tryz.prog) {g:Led} {vh vc vp:Value} (I:PfIn E g vh vc vp) (k:Bs):OwnC E 29 [SV.c (.agg #[vh,vc,vp]),SV.c (.string (S k))] [] (fun r U=>r=.bool true∧U=[]):=by
 refine sx_ownC [] tt_ok mixed at29 E hE [SV.c (.agg #[vh,vc,vp]),SV.c (.string (S k))] [] _ rfl rfl fun w X β hT=>?_
 have hE':(envC Tryz.prog tt Tryz.f29.ntmps w X (tiedK [] β)).toEnv.P=Tryz.prog:=rfl
 have I':PfIn (envC Tryz.prog tt Tryz.f29.ntmps w X (tiedK [] β)).toEnv g vh vc vp:=⟨I.h.of_old hT,I.c.of_old hT,I.p.of_old hT,I.b,I.ih,I.ic,I.ip⟩
 have V1:=valid_pz hE' I'
 have V2:=valid_pr hE' I'
 have H1:=held_z6 hE' (vc:=vc) (vp:=vp) (k:=k) I'.h I.b.1
 have H2:=held_r6 hE' (vc:=vc) (vp:=vp) (k:=k) I'.h I.b.1
 refine ⟨rfl,?_⟩
 refine .inl ⟨_,known_p,fun _=>?_,fun h=>absurd h (by decide)⟩
 refine .inr (.inr (.inl ⟨[],[_],[],_,[],V1,rfl,trivial,rfl,rfl,?_⟩))
 refine .inr (.inr (.inl ⟨[],[_],[],_,[],V2,rfl,trivial,rfl,rfl,?_⟩))
 refine ⟨fun _=>?_,fun h=>absurd h (by simp)⟩
 refine .inr (.inr (.inl ⟨[],[_,_],[],_,[],H1,rfl,trivial,rfl,rfl,?_⟩))
 refine .inr (.inr (.inl ⟨[],[_,_],[],_,[],H2,rfl,trivial,rfl,rfl,?_⟩))
 exact ⟨by kernel_rfl,[],[],⟨by show Value.bool _=_;simp,rfl⟩,trivial,rfl⟩
def codes3:List Bs:=[[85,83,68],[69,85,82],[71,66,80]]
def stocks4:List Bs:=[[65,67,77,69],[66,79,78,68],[71,79,76,68],[88,49]]
structure MdE (x:EC):Prop where
 v:validE x=true
 a : -100000≤x.amt∧x.amt≤100000
 q : -2000≤x.qty∧x.qty≤2000
 c:x.amt≠0→x.cur∈codes3
 i:x.qty≠0→x.ins∈stocks4
def totK (c:Bs):List (Ky×Int)→Int
 | []=>0
 | x :: r=>(if x.1.1=c then x.2 else 0)+totK c r
def sT (c:Bs):List EC→Int:=sumBy fun x=>if x.cur=c then x.amt else 0
structure RelS (n:Nat) (g1 g2:Led):Prop where
 o1:LedOk g1
 o2:LedOk g2
 h:g2.h=g1.h
 p:g2.p=[]
 t:∀ c,totK c g1.c+totK c g1.p=totK c g2.c
 b1:AmB n g1.c
 b2:AmB n g1.p
 b3:AmB n g2.c
theorem RelS.zero:RelS 0 .zero .zero:=⟨.zero,.zero,rfl,rfl,fun _=>rfl,.nil 0,.nil 0,.nil 0⟩
def lastK (l:List MK) (k:Int):Int:=match l.getLast? with
 | some m=>m.known
 | none=>k
theorem chkF_snoc (m:MK):∀ (l:List MK) (k:Int),chkF k (l++[m])=(chkF k l && mkGood (lastK l k) m)
 | [],k=>by
  show chkF k [m]=(chkF k [] && mkGood k m)
  rw [chkF,chkF];simp [chkF]
 | y :: l,k=>by
  rw [List.cons_append,chkF,chkF_snoc m l,chkF,Bool.and_assoc]
  congr 2
  unfold lastK
  cases l with
  | nil=>rfl
  | cons z r =>
   rw [List.getLast?_cons_cons]
   cases hg:(z :: r).getLast? with
   | some m'=>rfl
   | none=>simp at hg
theorem readP {E:Env} {f:FuncId} {sv:List SV} {xh xc xp:Value} {g:Led} (hent:Go.SX.Enters E.P f) {Q:Value→MemL→Prop} (hQ:∀ r U,Q r U→getM U 9506=none∧getM U 9507=none∧getM U 9508=none)
    (h:∀ E0:Env,E0.P=E.P→Lst E0 xh 2 g.h.length (cat sumA g.h)→Lst E0 xc 3 g.c.length (cat sumK g.c)→Lst E0 xp 3 g.p.length (cat sumK g.p)→OwnC E0 f sv [] Q):OwnC E f sv [(9506,Blk.own xh 66 2 g.h.length (cat sumA g.h)),(9507,Blk.own xc 49 3 g.c.length (cat sumK g.c)),(9508,Blk.own xp 49 3 g.p.length (cat sumK g.p))] (fun r U=>∃ U0,Q r U0∧U=(9506,Blk.own xh 66 2 g.h.length (cat sumA g.h)) :: (9507,Blk.own xc 49 3 g.c.length (cat sumK g.c)) :: (9508,Blk.own xp 49 3 g.p.length (cat sumK g.p)) :: U0):=by
 have h3:∀ E0:Env,E0.P=E.P→Lst E0 xh 2 g.h.length (cat sumA g.h)→Lst E0 xc 3 g.c.length (cat sumK g.c)→OwnC E0 f sv [(9508,Blk.own xp 49 3 g.p.length (cat sumK g.p))] (fun r U=>∃ U0,Q r U0∧U=(9508,Blk.own xp 49 3 g.p.length (cat sumK g.p)) :: U0):=fun E0 h0 l1 l2 =>
  OwnC.with_own2 (k:=9508) (v:=xp) (e:=49) (sz:=3) (n:=g.p.length) (A:=cat sumK g.p) (pre:=[]) (Q:=Q) rfl rfl (Go.SX.cat_all sumK_one g.p) (by rw [h0];exact hent) (fun E1 h1 ho1 l3=>h E1 (h1.trans h0) (l1.of_old ho1) (l2.of_old ho1) l3) (fun r U hq=>(hQ r U hq).2.2)
 have h2:∀ E0:Env,E0.P=E.P→Lst E0 xh 2 g.h.length (cat sumA g.h)→OwnC E0 f sv [(9507,Blk.own xc 49 3 g.c.length (cat sumK g.c)),(9508,Blk.own xp 49 3 g.p.length (cat sumK g.p))] (fun r U=>∃ U0,(∃ U1,Q r U1∧U0=(9508,Blk.own xp 49 3 g.p.length (cat sumK g.p)) :: U1)∧U=(9507,Blk.own xc 49 3 g.c.length (cat sumK g.c)) :: U0):=fun E0 h0 l1 =>
  OwnC.with_own2 (k:=9507) (v:=xc) (e:=49) (sz:=3) (n:=g.c.length) (A:=cat sumK g.c) rfl rfl (Go.SX.cat_all sumK_one g.c) (by rw [h0];exact hent) (fun E1 h1 ho1 l2=>h3 E1 (h1.trans h0) (l1.of_old ho1) l2) (fun r U ⟨U1,hq,hU⟩=>by rw [hU];exact (hQ r U1 hq).2.1)
 refine (OwnC.with_own2 (k:=9506) (v:=xh) (e:=66) (sz:=2) (n:=g.h.length) (A:=cat sumA g.h) rfl rfl (Go.SX.cat_all sumA_one g.h) hent (fun E1 h1 _ l1=>h2 E1 h1 l1) (fun r U ⟨U1,⟨U2,hq,hU2⟩,hU⟩=>by rw [hU,hU2];exact (hQ r U2 hq).1)).mono ?_
 rintro r U ⟨U1,⟨U2,⟨U3,h1,rfl⟩,rfl⟩,rfl⟩
 exact ⟨U3,h1,rfl⟩
structure OwnP (g:Led):Prop where
 b:g.h.length≤6000000000000∧g.c.length≤6000000000000∧g.p.length≤6000000000000
 ih:∀ x∈g.h,x.1.length≤9223372036854775807
 ic:∀ x∈g.c,x.1.1.length≤9223372036854775807
 ip:∀ x∈g.p,x.1.1.length≤9223372036854775807
def pfM (xh xc xp:Value) (g:Led):MemL:=[(9506,Blk.own xh 66 2 g.h.length (cat sumA g.h)),(9507,Blk.own xc 49 3 g.c.length (cat sumK g.c)),(9508,Blk.own xp 49 3 g.p.length (cat sumK g.p))]
theorem valid_zo {E:Env} (hE:E.P=Tryz.prog) {xh xc xp:Value} {g:Led} (I:OwnP g):OwnC E 26 [SV.c (.agg #[xh,xc,xp])] [(9506,Blk.own xh 66 2 g.h.length (cat sumA g.h)),(9507,Blk.own xc 49 3 g.c.length (cat sumK g.c)),(9508,Blk.own xp 49 3 g.p.length (cat sumK g.p))] (fun r U=>r=.bool (validP g)∧U=[(9506,Blk.own xh 66 2 g.h.length (cat sumA g.h)),(9507,Blk.own xc 49 3 g.c.length (cat sumK g.c)),(9508,Blk.own xp 49 3 g.p.length (cat sumK g.p))]):=by
 refine (readP (Q:=fun r U=>r=.bool (validP g)∧U=[]) (by rw [hE];exact at26.enters) (fun r U h=>by rw [h.2];exact ⟨rfl,rfl,rfl⟩) fun E0 h0 l1 l2 l3=>valid_pz (h0.trans hE) ⟨l1,l2,l3,I.b,I.ih,I.ic,I.ip⟩).mono ?_
 rintro r U ⟨U0,⟨h1,rfl⟩,rfl⟩
 exact ⟨h1,rfl⟩
theorem vlaw_o {E:Env} (hE:E.P=Tryz.prog) {xh xc xp:Value} {g:Led} (I:OwnP g) (k:Bs):OwnC E 29 [SV.c (.agg #[xh,xc,xp]),SV.c (.string (S k))] [(9506,Blk.own xh 66 2 g.h.length (cat sumA g.h)),(9507,Blk.own xc 49 3 g.c.length (cat sumK g.c)),(9508,Blk.own xp 49 3 g.p.length (cat sumK g.p))] (fun r U=>r=.bool true∧U=[(9506,Blk.own xh 66 2 g.h.length (cat sumA g.h)),(9507,Blk.own xc 49 3 g.c.length (cat sumK g.c)),(9508,Blk.own xp 49 3 g.p.length (cat sumK g.p))]):=by
 refine (readP (Q:=fun r U=>r=.bool true∧U=[]) (by rw [hE];exact at29.enters) (fun r U h=>by rw [h.2];exact ⟨rfl,rfl,rfl⟩) fun E0 h0 l1 l2 l3=>valid_law (h0.trans hE) ⟨l1,l2,l3,I.b,I.ih,I.ic,I.ip⟩ k).mono ?_
 rintro r U ⟨U0,⟨h1,rfl⟩,rfl⟩
 exact ⟨h1,rfl⟩
end Go.Proofs.YtekfkdddadcalaaGreatDoor
