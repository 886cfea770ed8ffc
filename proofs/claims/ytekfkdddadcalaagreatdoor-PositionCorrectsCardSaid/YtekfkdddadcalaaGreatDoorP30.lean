/- the chapter s examples of portfolios. PositionExact, at every call. made entries without actions: plain law. made entries without actions: what At returns: plain law. as days pass, what was pending is cash: plain law. records that became known later change nothing: plain law. At, of a book of the call s own and without actions. an entry corrected and corrected back: plain law. sums by loops: plain law. without actions and sales the order does not matter: plain law; no condition. -/
import Derived.Test.YtekfkdddadcalaaGreatDoorP29
import Derived.Test.YtekfkdddadcalaaGreatDoorP14
set_option maxRecDepth 100000
set_option maxHeartbeats 4000000
namespace Go.Proofs.YtekfkdddadcalaaGreatDoor
open Go Go.RowKit Go.SX
def kE1:EC:=⟨1,[101],5,7,[65,67,77,69],10,-100000,[85,83,68],1,false⟩
def kE2:EC:=⟨1,[102],8,8,[65,67,77,69],-21,5,[85,83,68],2,false⟩
def kXs:List EC:=[kE1,kE2]
def kAc:AC:=⟨1,[115],[65,67,77,69],[],6,2,1,(mkQ 0 1).1,[85,83,68],1,false⟩
def kAl:List AC:=[kAc]
theorem kn_1:atP kXs kAl 9 5=(⟨[([65,67,77,69],10)],[],[(([85,83,68],7),-100000)]⟩,0):=by kernel_rfl
theorem kn_2:atP kXs kAl 9 7=(⟨[([65,67,77,69],20)],[(([85,83,68],0),-100000)],[]⟩,0):=by kernel_rfl
theorem kn_3:atP kXs kAl 9 8=(.zero,181):=by kernel_rfl
def XO (x y:Value) (nx na:Nat) (xs:List EC) (al:List AC) (Q:Value→MemL→Prop) (r:Value) (U:MemL):Prop:=∃ U0,Q r U0∧U=(9640,Blk.own x 31 10 nx (cat EC.A xs)) :: (9641,Blk.own y 61 76 na (cat AC.A al)) :: U0
theorem readX {E:Env} {f:FuncId} {sv:List SV} {x y:Value} {xs:List EC} {al:List AC} {nx na:Nat} (hx:nx=xs.length) (hy:na=al.length) (hent:Go.SX.Enters E.P f) {Q:Value→MemL→Prop} (hQ:∀ r U,Q r U→getM U 9640=none∧getM U 9641=none)
    (h:∀ E0:Env,E0.P=E.P→(∀ w,OldW E0 w→OldW E w)→Lst E0 x 10 xs.length (cat EC.A xs)→Lst E0 y 76 al.length (cat AC.A al)→OwnC E0 f sv [] Q):OwnC E f sv [(9640,Blk.own x 31 10 nx (cat EC.A xs)),(9641,Blk.own y 61 76 na (cat AC.A al))] (XO x y nx na xs al Q):=by
 subst hx hy
 have h2:∀ E0:Env,E0.P=E.P→(∀ w,OldW E0 w→OldW E w)→Lst E0 x 10 xs.length (cat EC.A xs)→OwnC E0 f sv [(9641,Blk.own y 61 76 al.length (cat AC.A al))] (fun r U=>∃ U0,Q r U0∧U=(9641,Blk.own y 61 76 al.length (cat AC.A al)) :: U0):=fun E0 h0 ho hl =>
  OwnC.with_own2 (k:=9641) (v:=y) (e:=61) (sz:=76) (n:=al.length) (A:=cat AC.A al) (pre:=[]) (Q:=Q) rfl rfl (Go.SX.cat_all AC.all1 al) (by rw [h0];exact hent) (fun E1 h1 ho1 hl1=>h E1 (h1.trans h0) (fun w hw=>ho w (ho1 w hw)) (hl.of_old ho1) hl1) (fun r U hq=>(hQ r U hq).2)
 refine (OwnC.with_own2 (k:=9640) (v:=x) (e:=31) (sz:=10) (n:=xs.length) (A:=cat EC.A xs) rfl rfl (Go.SX.cat_all EC.one xs) hent h2 (fun r U ⟨U0,hq,hU⟩=>by rw [hU];exact (hQ r U0 hq).1)).mono ?_
 rintro r U ⟨U1,⟨U0,h1,rfl⟩,rfl⟩
 exact ⟨U0,h1,rfl⟩
theorem AtQ.apart {R:Led×Int} {r:Value} {U:MemL} (h:AtQ R r U):getM U 9640=none∧getM U 9641=none:=by
 obtain ⟨xh,xc,xp,-,-,-,-,rfl⟩:=h
 exact ⟨rfl,rfl⟩
theorem at_zo {E:Env} (hE:E.P=Tryz.prog) {x y:Value} {xs:List EC} {al:List AC} {nx na:Nat} {k day:Int} (hx:nx=xs.length) (hy:na=al.length) (hn:nx≤1000000000000) (hm:na≤1000000000000) (hin:∀ y∈xs,y.In) (hina:∀ y∈al,y.In):OwnC E 17 [SV.c x,SV.c y,SV.c (.int .i64 k),SV.c (.int .i64 day)] [(9640,Blk.own x 31 10 nx (cat EC.A xs)),(9641,Blk.own y 61 76 na (cat AC.A al))] (XO x y nx na xs al (AtQ (atP xs al k day))) :=
 readX hx hy (by rw [hE];exact at17.enters) (fun _ _ h=>h.apart) fun E0 h0 _ hl1 hl2=>at_z (h0.trans hE) hl1 hl2 (by omega) (by omega) hin hina
theorem held_zo {E:Env} (hE:E.P=Tryz.prog) {x vc vp:Value} {H:List (Bs×Int)} {k:Bs} {n:Nat} (hn:n=H.length) (hb:n≤1000000000000):OwnC E 19 [SV.c (.agg #[x,vc,vp]),SV.c (.string (S k))] [(9610,Blk.own x 66 2 n (cat sumA H))] (fun y U=>y=.int .i64 (getA H k)∧U=[(9610,Blk.own x 66 2 n (cat sumA H))]):=by
 subst hn
 refine (OwnC.with_own (k:=9610) (v:=x) (e:=66) (sz:=2) (n:=H.length) (A:=cat sumA H) (pre:=[]) rfl rfl (cat_all sumA_one H) (by rw [hE];exact at19.enters) (fun E0 h hl=>held_z (h.trans hE) hl hb) (fun x U h=>by rw [h.2];rfl)).mono ?_
 rintro y U ⟨U0,⟨h1,h2⟩,h3⟩
 exact ⟨h1,by rw [h3,h2]⟩
theorem kXs_in:∀ y∈kXs,y.In:=by
 intro y hy
 simp only [kXs,List.mem_cons,List.not_mem_nil,or_false] at hy
 rcases hy with rfl | rfl
 ·exact ⟨by decide,by decide,by decide⟩
 ·exact ⟨by decide,by decide,by decide⟩
theorem kAl_in:∀ y∈kAl,y.In:=by
 intro y hy
 simp only [kAl,List.mem_cons,List.not_mem_nil,or_false] at hy
 subst hy
 exact ⟨mkQ_in _ _,by decide,by decide,by decide,by decide,by decide,by decide⟩
theorem fill_k1 {pl:List (Nat×Nat)} (hpl:pl=[(0,1),(1,1),(2,1),(3,1),(4,1),(5,1),(6,1),(7,1),(8,1),(9,1)]):Instr.fill (fun k=>pl[k]?) ti31.zero [(0,.int .i64 1),(1,.string (S [101])),(2,.int .i64 5),(3,.int .i64 7),(4,.string (S [65,67,77,69])),(5,.int .i64 10),(6,.int .i64 (-100000)),(7,.string (S [85,83,68])),(8,.int .i64 1)]=some kE1.A:=by
 subst hpl;rfl
theorem fill_k2 {pl:List (Nat×Nat)} (hpl:pl=[(0,1),(1,1),(2,1),(3,1),(4,1),(5,1),(6,1),(7,1),(8,1),(9,1)]):Instr.fill (fun k=>pl[k]?) ti31.zero [(0,.int .i64 1),(1,.string (S [102])),(2,.int .i64 8),(3,.int .i64 8),(4,.string (S [65,67,77,69])),(5,.int .i64 (-21)),(6,.int .i64 5),(7,.string (S [85,83,68])),(8,.int .i64 2)]=some kE2.A:=by
 subst hpl;rfl
theorem fill_kx:Instr.fill (fun k=>some (k*ti31.size,ti31.size)) (madeCells ti31.zero (2*ti31.size)) [(0,.agg kE1.A),(1,.agg kE2.A)]=some (cat EC.A kXs):=by kernel_rfl
theorem fill_ka {pl:List (Nat×Nat)} (hpl:pl=[(0,1),(1,1),(2,1),(3,1),(4,1),(5,1),(6,1),(7,66),(73,1),(74,1),(75,1)]):Instr.fill (fun k=>pl[k]?) ti61.zero [(0,.int .i64 1),(1,.string (S [115])),(2,.string (S [65,67,77,69])),(4,.int .i64 6),(5,.int .i64 2),(6,.int .i64 1),(7,.agg (mkQ 0 1).1.A),(8,.string (S [85,83,68])),(9,.int .i64 1)]=some kAc.A:=by
 subst hpl;kernel_rfl
theorem fill_kal:Instr.fill (fun k=>some (k*ti61.size,ti61.size)) (madeCells ti61.zero (1*ti61.size)) [(0,.agg kAc.A)]=some (cat AC.A kAl):=by kernel_rfl
theorem eqs_bal {E:Env} (hE:E.P=Tryz.prog) (x:Ky×Int) {u v:Operand}:Runs E (do eqGuard .eql 49 u v (.agg (sumK x)) (.agg (sumK x));binOp .eql 49 (.agg (sumK x)) (.agg (sumK x))) (.bool true):=by
 have:=eql_bal hE x x (u:=u) (v:=v)
 rwa [eqK_self] at this
theorem known_p0 {E:Env} (hE:E.P=Tryz.prog):OwnC E 16 [] [] (fun x U=>x=.bool true∧U=[]):=by
 refine sx_ownC [] tt_ok mixed at16 E hE [] [] _ rfl rfl fun w X β hT=>?_
 have hE':(envC Tryz.prog tt Tryz.f16.ntmps w X (tiedK [] β)).toEnv.P=Tryz.prog:=rfl
 have O1:=made_of (n:=0) (d:=1) (by decide) (by decide) (by decide) (by decide)
 have FX:=fill_kx
 have FA:=fill_ka rfl
 have FL:=fill_kal
 have SX0:(cat EC.A kXs).size=2*10:=by rw [Go.SX.cat_size EC.size];rfl
 have SA0:(cat AC.A kAl).size=1*76:=by rw [Go.SX.cat_size AC.size];rfl
 have L1:=fun (g g2:Nat)=>at_zo hE' (x:=.slice (some ⟨g,0,none⟩) 2 2) (y:=.slice (some ⟨g2,0,none⟩) 1 1) (k:=9) (day:=5) (xs:=kXs) (al:=kAl) (nx:=2) (na:=1) rfl rfl (by decide) (by decide) kXs_in kAl_in
 have L2:=fun (g g2:Nat)=>at_zo hE' (x:=.slice (some ⟨g,0,none⟩) 2 2) (y:=.slice (some ⟨g2,0,none⟩) 1 1) (k:=9) (day:=7) (xs:=kXs) (al:=kAl) (nx:=2) (na:=1) rfl rfl (by decide) (by decide) kXs_in kAl_in
 have L3:=fun (g g2:Nat)=>at_zo hE' (x:=.slice (some ⟨g,0,none⟩) 2 2) (y:=.slice (some ⟨g2,0,none⟩) 1 1) (k:=9) (day:=8) (xs:=kXs) (al:=kAl) (nx:=2) (na:=1) rfl rfl (by decide) (by decide) kXs_in kAl_in
 rw [kn_1] at L1
 rw [kn_2] at L2
 rw [kn_3] at L3
 refine ⟨_,fill_k1 rfl,_,fill_k2 rfl,?_⟩
 refine .inr ⟨by decide,by decide,by decide,cat EC.A kXs,FX,SX0,trivial,fun g=>?_⟩
 refine .inl ⟨_,O1,?_⟩
 refine ⟨_,FA,?_⟩
 refine .inr ⟨by decide,by decide,by decide,cat AC.A kAl,FL,SA0,trivial,fun g2=>?_⟩
 have L1:=L1 g g2
 have L2:=L2 g g2
 have L3:=L3 g g2
 refine .inr (.inr (.inr ⟨[(9640,11),(9641,14)],[9506,9507,9508],[_,_,_,_],[_,_],_,L1,rfl,⟨.inl rfl,.inl rfl,trivial⟩,rfl,trivial,?_⟩))
 rintro r U ⟨U0,⟨xh,xc,xp,q1,q2,q3,rfl,rfl⟩,rfl⟩
 refine ⟨rfl,?_⟩
 have one:∀ {x:Value},IsL x 1→∃ g c,x=.slice (some ⟨g,0,none⟩) 1 c:=fun {x} h=>by
  rcases h with ⟨_,h⟩ | ⟨g,c,h⟩
  ·cases h
  ·exact ⟨g,c,h⟩
 obtain ⟨gh,ch,rfl⟩:=one (show IsL xh 1 from q1)
 obtain ⟨ca,cc,rfl⟩:=(show IsL xc 0 from q2).len
 obtain ⟨gp,cp,rfl⟩:=one (show IsL xp 1 from q3)
 refine ⟨fits3 rfl rfl rfl,?_⟩
 refine .inr (.inr (.inr ⟨[(9640,11),(9641,14),(9506,9516),(9507,9517),(9508,9518)],[9516,9517,9518],[_,_,_,_],[_,_],_,L2,rfl,⟨.inl rfl,.inl rfl,trivial⟩,rfl,trivial,?_⟩))
 rintro r U ⟨U0,⟨yh,yc,yp,w1,w2,w3,rfl,rfl⟩,rfl⟩
 obtain ⟨gh2,ch2,rfl⟩:=one (show IsL yh 1 from w1)
 obtain ⟨gc2,cc2,rfl⟩:=one (show IsL yc 1 from w2)
 obtain ⟨pa,pc,rfl⟩:=(show IsL yp 0 from w3).len
 refine ⟨rfl,fits3 rfl rfl rfl,?_⟩
 refine .inr (.inr (.inr ⟨[(9640,11),(9641,14),(9506,9526),(9507,9527),(9508,9528)],[9526,9527,9528],[_,_,_,_],[_,_],_,L3,rfl,⟨.inl rfl,.inl rfl,trivial⟩,rfl,trivial,?_⟩))
 rintro r U ⟨U0,⟨zh,zc,zp,v1,v2,v3,rfl,rfl⟩,rfl⟩
 refine ⟨rfl,fits3 (isL_one v1) (isL_one v2) (isL_one v3),?_⟩
 have H1:=held_zo hE' (x:=.slice (some ⟨gh,0,none⟩) 1 ch) (vc:=.slice ca 0 cc) (vp:=.slice (some ⟨gp,0,none⟩) 1 cp) (H:=[([65,67,77,69],10)]) (k:=[65,67,77,69]) (n:=1) rfl (by decide)
 have H2:=held_zo hE' (x:=.slice (some ⟨gh2,0,none⟩) 1 ch2) (vc:=.slice (some ⟨gc2,0,none⟩) 1 cc2) (vp:=.slice pa 0 pc) (H:=[([65,67,77,69],20)]) (k:=[65,67,77,69]) (n:=1) rfl (by decide)
 rw [show getA [(([65,67,77,69]:Bs),(10:Int))] [65,67,77,69]=10 from by decide] at H1
 rw [show getA [(([65,67,77,69]:Bs),(20:Int))] [65,67,77,69]=20 from by decide] at H2
 refine ⟨fun _=>?_,fun h=>absurd h (by decide)⟩
 refine .inr (.inr (.inl ⟨[(9610,9506)],[_,_],[_],_,[_],H1,rfl,⟨.inl rfl,trivial⟩,rfl,rfl,?_⟩))
 have B1:=fun (u v:Operand)=>eqs_bal hE' (([85,83,68],7),-100000) (u:=u) (v:=v)
 refine ⟨fun _=>?_,fun h=>absurd h (by decide)⟩
 refine ⟨_,rfl,_,fun w' _=>run_len_sl Tryz.underlying38 w',fun _=>?_,fun h=>absurd h (by decide)⟩
 refine ⟨_,rfl,_,fun w' _=>run_len_sl Tryz.underlying38 w',fun _=>?_,fun h=>absurd h (by decide)⟩
 refine ⟨_,rfl,by decide,by decide,.inr ⟨9508,gp,_,1,cp,_,_,_,rfl,rfl,by decide,sumK (([85,83,68],7),-100000),rfl,?_⟩⟩
 refine ⟨_,fill_bal (([85,83,68],7),-100000) rfl,_,B1 _ _,?_⟩
 refine ⟨fun _=>?_,fun h=>absurd h (by decide)⟩
 refine ⟨fun _=>?_,fun h=>absurd h (by decide)⟩
 refine .inr (.inr (.inl ⟨[(9610,9516)],[_,_],[_],_,[_],H2,rfl,⟨.inl rfl,trivial⟩,rfl,rfl,?_⟩))
 refine ⟨fun _=>?_,fun h=>absurd h (by decide)⟩
 refine ⟨_,rfl,_,fun w' _=>run_len_sl Tryz.underlying38 w',fun _=>?_,fun h=>absurd h (by decide)⟩
 refine ⟨_,rfl,by decide,by decide,.inr ⟨9517,gc2,_,1,cc2,_,_,_,rfl,rfl,.int .i64 (-100000),rfl,?_⟩⟩
 refine ⟨fun _=>?_,fun h=>absurd h (by decide)⟩
 exact ⟨[],[],⟨rfl,rfl⟩,trivial,rfl⟩
theorem known_p:Pure Tryz.prog 16 [] (.bool true):=pure_of (vs:=[]) at16.enters fun _w=>known_p0 rfl
theorem run_len {day:Int}:∀ (ops:List Ev) {g g':Led},LedOk g→runL day g ops=.ok g'→g'.h.length≤g.h.length+2*ops.length∧g'.c.length≤g.c.length+ops.length∧g'.p.length≤g.p.length+ops.length
 | [],g,g',_,h=>by cases h;simp
 | o :: l,g,g',hg,h=>by
  rw [runL] at h
  cases e:stepL day g o with
  | error e'=>rw [e] at h;cases h
  | ok g1 =>
   rw [e] at h
   obtain ⟨h1,h2,h3,h4⟩:=step_okL hg e
   obtain ⟨h5,h6,h7⟩:=run_len l h1 h
   simp only [List.length_cons]
   exact ⟨by omega,by omega,by omega⟩
theorem pfL_len (g:Led):(pfL g).1.h.length≤g.h.length∧(pfL g).1.c.length≤g.c.length∧(pfL g).1.p.length≤g.p.length:=by
 unfold pfL
 split
 ·simp
 ·exact ⟨Nat.zero_le _,Nat.zero_le _,Nat.zero_le _⟩
theorem ops_len (al:List AC) (xs:List EC) (day:Int):(opsL al xs day).length≤al.length+xs.length:=by
 unfold opsL
 rw [(stabK_stab dayO _).len]
 refine Nat.le_trans (List.length_filter_le _ _) ?_
 simp
theorem atP_len (xs:List EC) (al:List AC) (k day:Int):(atP xs al k day).1.h.length≤20000∧(atP xs al k day).1.c.length≤20000∧(atP xs al k day).1.p.length≤20000:=by
 unfold atP
 split
 ·exact ⟨Nat.zero_le _,Nat.zero_le _,Nat.zero_le _⟩
 rename_i h1
 split
 ·exact ⟨Nat.zero_le _,Nat.zero_le _,Nat.zero_le _⟩
 rename_i h2
 split
 ·exact ⟨Nat.zero_le _,Nat.zero_le _,Nat.zero_le _⟩
 have l1:=visX_len (k:=k) (Classical.not_not.1 h1)
 have l2:=visA_len (k:=k) (Classical.not_not.1 h2)
 have l3:=ops_len (visA al k) (visX xs k) day
 cases e:runL day .zero (opsL (visA al k) (visX xs k) day) with
 | error e'=>exact ⟨Nat.zero_le _,Nat.zero_le _,Nat.zero_le _⟩
 | ok g =>
  obtain ⟨h3,h4,h5⟩:=run_len _ .zero e
  have h6:=pfL_len g
  have z1:Led.zero.h.length=0:=rfl
  have z2:Led.zero.c.length=0:=rfl
  have z3:Led.zero.p.length=0:=rfl
  show (pfL g).1.h.length≤_∧(pfL g).1.c.length≤_∧(pfL g).1.p.length≤_
  exact ⟨by omega,by omega,by omega⟩
def codes3:List Bs:=[[85,83,68],[69,85,82],[71,66,80]]
def stocks4:List Bs:=[[65,67,77,69],[66,79,78,68],[71,79,76,68],[88,49]]
structure MdE (x:EC):Prop where
 v:validE x=true
 a : -100000≤x.amt∧x.amt≤100000
 q : -2000≤x.qty∧x.qty≤2000
 c:x.amt≠0→x.cur∈codes3
 i:x.qty≠0→x.ins∈stocks4
theorem sum_le {f:EC→Int}:∀ {l:List EC},(∀ x∈l,-100000≤f x∧f x≤100000)→-(100000*(l.length:Int))≤sumBy f l∧sumBy f l≤100000*(l.length:Int)
 | [],_=>by show _≤(0:Int)∧(0:Int)≤_;simp
 | x :: r,h=>by
  have h1:=h x (by simp)
  have h2:=sum_le (l:=r) fun y hy=>h y (by simp [hy])
  rw [sumBy]
  simp only [List.length_cons]
  omega
theorem erase_len {α:Type} [DecidableEq α] {a:α}:∀ {m:List α},a∈m→(m.erase a).length+1=m.length:=fun {m} h=>by
 rw [List.length_erase_of_mem h]
 have:0 < m.length:=List.length_pos_of_mem h
 omega
theorem nodup_sub {α:Type} [DecidableEq α]:∀ {l m:List α},l.Pairwise (·≠·)→(∀ x∈l,x∈m)→l.length≤m.length
 | [],_,_,_=>Nat.zero_le _
 | a :: r,m,h,hs=>by
  obtain ⟨h1,h2⟩:=List.pairwise_cons.1 h
  have ha:=hs a (by simp)
  have:=nodup_sub (l:=r) (m:=m.erase a) h2 fun x hx=>(List.mem_erase_of_ne (fun e=>h1 x hx e.symm)).2 (hs x (by simp [hx]))
  have h3:=erase_len ha
  simp only [List.length_cons]
  omega
theorem srt_keys {κ:Type} {lt:κ→κ→Bool} (O:StrictO lt) {l:List (κ×Int)} (h:SrtA lt l):(l.map (·.1)).Pairwise (·≠·) :=
 List.pairwise_map.2 (h.imp fun {_x _y} hxy=>O.ne hxy)
theorem hold_md {H:List (Bs×Int)} (_hb:HB H) {n:Nat} (hn:∀ s,getA H s≤2000*(n:Int)) (hs:SrtA ltB H) (hl:n≤1000) {k:Bs} {q:Int} (hq : -2000≤q∧q≤2000):holdL H k q=.error 181∨∃ H',holdL H k q=.ok H'∧∀ s,getA H' s≤2000*((n+1:Nat):Int):=by
 have h1:=hn k
 unfold holdL
 by_cases h2:getA H k+q < 0
 ·rw [if_pos h2];exact .inl rfl
 ·rw [if_neg h2,if_neg (by omega)]
  refine .inr ⟨_,rfl,fun s=>?_⟩
  rw [(setA_upd ltB_ok hs k _).get]
  have h3:=hn s
  split<;>omega
theorem ent_md {day:Int} {g:Led} (h:LedOk g) {n:Nat} (hn:∀ s,getA g.h s≤2000*(n:Int)) (hl:n≤1000) {x:EC} (hq : -2000≤x.qty∧x.qty≤2000):entL day g x=.error 181∨∃ g',entL day g x=.ok g'∧∀ s,getA g'.h s≤2000*((n+1:Nat):Int):=by
 unfold entL
 split
 ·refine .inr ⟨_,rfl,fun s=>?_⟩
  rw [settle_h]
  have:=hn s
  omega
 ·rcases hold_md h.b hn h.h.1 hl (k:=x.ins) hq with e | ⟨H',e,h2⟩
  ·rw [e];exact .inl rfl
  ·rw [e];exact .inr ⟨_,rfl,h2⟩
theorem run_md {day:Int}:∀ (X:List EC) {g:Led} {n:Nat},LedOk g→(∀ s,getA g.h s≤2000*(n:Int))→n+X.length≤1000→(∀ x∈X,-2000≤x.qty∧x.qty≤2000)→runL day g (X.map (Sum.inr:EC→Ev))=.error 181∨∃ g',runL day g (X.map (Sum.inr:EC→Ev))=.ok g'
 | [],g,n,_,_,_,_=>.inr ⟨g,rfl⟩
 | x :: X,g,n,h,hn,hl,hx=>by
  rw [List.map_cons,runL]
  have es:stepL day g (Sum.inr x)=entL day g x:=rfl
  rw [es]
  simp only [List.length_cons] at hl
  rcases ent_md (day:=day) h hn (by omega) (hx x (by simp)) with e | ⟨g1,e,h2⟩
  ·rw [e];exact .inl rfl
  ·rw [e]
   exact run_md X (ent_okL h e).1 h2 (by omega) fun y hy=>hx y (by simp [hy])
theorem run_buy {day:Int}:∀ (X:List EC) {g:Led} {n:Nat},LedOk g→(∀ s,getA g.h s≤2000*(n:Int))→n+X.length≤1000→(∀ x∈X,0≤x.qty∧x.qty≤2000)→∃ g',runL day g (X.map (Sum.inr:EC→Ev))=.ok g'
 | [],g,n,_,_,_,_=>⟨g,rfl⟩
 | x :: X,g,n,h,hn,hl,hx=>by
  rw [List.map_cons,runL]
  have es:stepL day g (Sum.inr x)=entL day g x:=rfl
  rw [es]
  simp only [List.length_cons] at hl
  have hq:=hx x (by simp)
  rcases ent_md (day:=day) h hn (by omega) (x:=x) (by omega) with e | ⟨g1,e,h2⟩
  ·exfalso
   unfold entL at e
   split at e
   ·cases e
   ·split at e
    ·rename_i e' hE
     cases e
     unfold holdL at hE
     have h0:=(HB.get h.b x.ins).1
     rw [if_neg (by omega)] at hE
     split at hE
     ·cases hE
     ·cases hE
    ·cases e
  ·rw [e]
   exact run_buy X (ent_okL h e).1 h2 (by omega) fun y hy=>hx y (by simp [hy])
theorem run_ckeys {day:Int} {P:Ky→Prop}:∀ (X:List EC) {g g':Led},LedOk g→(∀ y∈g.c,P y.1)→(∀ x∈X,EOk x∧(x.amt≠0→P (x.cur,0)))→runL day g (X.map (Sum.inr:EC→Ev))=.ok g'→∀ y∈g'.c,P y.1
 | [],g,g',_,h,_,e=>by cases e;exact h
 | x :: X,g,g',hg,h,hx,e=>by
  rw [List.map_cons,runL] at e
  have es:stepL day g (Sum.inr x)=entL day g x:=rfl
  rw [es] at e
  cases e1:entL day g x with
  | error e'=>rw [e1] at e;cases e
  | ok g1 =>
   rw [e1] at e
   obtain ⟨h1,h2⟩:=hx x (by simp)
   have hC:∀ y∈(settleL day g x).c,P y.1:=by
    unfold settleL
    split
    ·exact pay_kok hg.c h h1.m h2
    ·exact h
   have hC1:∀ y∈g1.c,P y.1:=by
    unfold entL at e1
    split at e1
    ·cases e1;exact hC
    ·split at e1
     ·cases e1
     ·cases e1;exact hC
   exact run_ckeys X (ent_okL hg e1).1 hC1 (fun y hy=>hx y (by simp [hy])) e
theorem pf_made {day:Int} {X:List EC} (hX:∀ x∈X,MdE x) (hl:X.length≤30) {g:Led} (e:runL day .zero (X.map (Sum.inr:EC→Ev))=.ok g):pfL g=(g,0)∧(∀ s,getA g.h s=sH s X)∧(∀ k,getA g.c k=sC day k X)∧(∀ k,getA g.p k=sP day k X)∧LedOk g:=by
 obtain ⟨b1,b2,b3,-,-,b6⟩:=run_sum X (n:=0) .zero (by omega) (.nil 0) (.nil 0) (fun x hx=>.of (hX x hx).v) e
 have z:∀ s:Bs,getA Led.zero.h s=0:=fun _=>rfl
 have z1:∀ s:Ky,getA Led.zero.c s=0:=fun _=>rfl
 have z2:∀ s:Ky,getA Led.zero.p s=0:=fun _=>rfl
 simp only [z,z1,z2,Int.zero_add] at b1 b2 b3
 have l1:=(run_len _ .zero e).1
 have l2:Led.zero.h.length=0:=rfl
 rw [List.length_map,l2] at l1
 have l3:g.c.length≤3:=by
  have hk:=run_ckeys (P:=fun k=>k∈codes3.map fun c=>(c,(0:Int))) X .zero (fun y hy=>by cases hy) (fun x hx=>⟨.of (hX x hx).v,fun h=>List.mem_map.2 ⟨_,(hX x hx).c h,rfl⟩⟩) e
  have:=nodup_sub (srt_keys ltK2_ok b6.c.1) (m:=codes3.map fun c=>(c,(0:Int))) fun k hk'=>by
   obtain ⟨y,hy,rfl⟩:=List.mem_map.1 hk'
   exact hk y hy
  rw [List.length_map] at this
  exact this
 have rng:∀ (f:EC→Int),(∀ x∈X,-100000≤f x∧f x≤100000)→inB (sumBy f X) (-1000000000000000) 1000000000000000=true:=fun f hf=>by
  have:=sum_le hf
  exact inB_iff.2 (by omega)
 have hc:amtB g.c=true:=List.all_eq_true.2 fun x hx=>by
  rw [← getA_at ltK2_ok b6.c.1 hx,b2]
  refine rng _ fun y hy=>?_
  have:=(hX y hy).a
  split<;>omega
 have hp:amtB g.p=true:=List.all_eq_true.2 fun x hx=>by
  rw [← getA_at ltK2_ok b6.p.1 hx,b3]
  refine rng _ fun y hy=>?_
  have:=(hX y hy).a
  split<;>omega
 have hF:finE g=0:=by
  unfold finE
  rw [if_neg (by omega)]
  have hc':g.c.all (fun x=>inB x.2 (-1000000000000000) 1000000000000000)=true:=hc
  have hp':g.p.all (fun x=>inB x.2 (-1000000000000000) 1000000000000000)=true:=hp
  rw [hc',hp'];rfl
 refine ⟨by unfold pfL;rw [if_pos hF],b1,b2,b3,b6⟩
theorem ops_inr (xs:List EC) (day:Int):opsL [] xs day=(stabK EC.day (xs.filter fun x=>decide (x.day≤day))).map (Sum.inr:EC→Ev):=by
 unfold opsL
 rw [List.map_nil,List.nil_append,List.filter_map,stabK_map (key:=EC.day) (key':=dayO) (Sum.inr:EC→Ev) (fun _=>rfl)]
 rfl
def totK (c:Bs):List (Ky×Int)→Int
 | []=>0
 | x :: r=>(if x.1.1=c then x.2 else 0)+totK c r
theorem totK_app (c:Bs):∀ (l m:List (Ky×Int)),totK c (l++m)=totK c l+totK c m
 | [],m=>by show _=(0:Int)+_;simp
 | x :: r,m=>by rw [List.cons_append,totK,totK_app c r m,totK];omega
theorem totK_set {f:List (Ky×Int)} (hs:SrtA ltK2 f) (k:Ky) (v:Int) (c:Bs):totK c (setA ltK2 f k v)=totK c f+if k.1=c then v - getA f k else 0:=by
 obtain ⟨p,s,e,h1,h2,-,h4⟩:=setA_parts ltK2_ok k v hs
 have hp:∀ x∈p,x.1≠k:=fun x hx=>ltK2_ok.ne (h1 x hx)
 have hs2:∀ x∈s,x.1≠k:=fun x hx=>(ltK2_ok.ne (h2 x hx)).symm
 have hg:(f=p++s∧getA f k=0)∨∃ n,f=p++(k,n) :: s∧getA f k=n:=by
  rcases h4 with e4 | ⟨n,e4⟩
  ·exact .inl ⟨e4,by rw [e4,getA_skip hp];exact getA_none hs2⟩
  ·exact .inr ⟨n,e4,by rw [e4,getA_skip hp,getA_hit]⟩
 rw [e]
 rcases hg with ⟨e4,e5⟩ | ⟨n,e4,e5⟩
 ·rw [e5,e4]
  split
  ·rename_i hv;rw [hv];split<;>omega
  ·rw [totK_app,totK_app,totK];split<;>omega
 ·rw [e5,e4]
  split
  ·rename_i hv;rw [hv,totK_app,totK_app,totK];split<;>omega
  ·rw [totK_app,totK_app,totK,totK];split<;>omega
theorem totK_pay {f:List (Ky×Int)} (hs:SrtA ltK2 f) {n:Nat} (hb:AmB n f) (hn:n≤8192) (k:Ky) {v:Int} (hv : -1000000000000000≤v∧v≤1000000000000000) (c:Bs):totK c (payL f k v)=totK c f+if k.1=c then v else 0:=by
 have h0:=hb k
 have ew:w64 (getA f k+v)=getA f k+v:=w64_in (by omega)
 unfold payL
 rw [totK_set hs,ew]
 split<;>omega
def sT (c:Bs):List EC→Int:=sumBy fun x=>if x.cur=c then x.amt else 0
theorem run_tot {day:Int} (c:Bs):∀ (X:List EC) {g g':Led} {n:Nat},LedOk g→n+X.length≤8192→AmB n g.c→AmB n g.p→(∀ x∈X,ZOk x)→runL day g (X.map (Sum.inr:EC→Ev))=.ok g'→totK c g'.c+totK c g'.p=totK c g.c+totK c g.p+sT c X
 | [],g,g',n,_,_,_,_,_,e=>by
  cases e
  show _=_+(0:Int);omega
 | x :: X,g,g',n,h,hn,hc,hp,hx,e=>by
  rw [List.map_cons,runL] at e
  have es:stepL day g (Sum.inr x)=entL day g x:=rfl
  rw [es] at e
  simp only [List.length_cons] at hn
  cases e1:entL day g x with
  | error e'=>rw [e1] at e;cases e
  | ok g1 =>
   rw [e1] at e
   have hz:=hx x (by simp)
   obtain ⟨a1,a2,a3,a4,a5⟩:=ent_sum h (by omega) hc hp hz e1
   have ih:=run_tot c X (ent_okL h e1).1 (by omega) a4 a5 (fun y hy=>hx y (by simp [hy])) e
   have hS:totK c (settleL day g x).c+totK c (settleL day g x).p=totK c g.c+totK c g.p+if x.cur=c then x.amt else 0:=by
    unfold settleL
    split
    ·show totK c (payL g.c (x.cur,0) x.amt)+totK c g.p=_
     have ht:totK c (payL g.c (x.cur,0) x.amt)=totK c g.c+if x.cur=c then x.amt else 0:=totK_pay h.c.1 hc (by omega) (x.cur,0) hz.a c
     rw [ht];omega
    ·show totK c g.c+totK c (payL g.p (x.cur,x.settle) x.amt)=_
     have ht:totK c (payL g.p (x.cur,x.settle) x.amt)=totK c g.p+if x.cur=c then x.amt else 0:=totK_pay h.p.1 hp (by omega) (x.cur,x.settle) hz.a c
     rw [ht];omega
   have hg:totK c g1.c+totK c g1.p=totK c (settleL day g x).c+totK c (settleL day g x).p:=by
    unfold entL at e1
    split at e1
    ·cases e1;rfl
    ·split at e1
     ·cases e1
     ·cases e1;rfl
   rw [ih,hg,hS]
   unfold sT
   rw [sumBy];omega
theorem at_made {xs:List EC} {k day:Int} (h:∀ x∈xs,MdE x) (hl:xs.length≤30) (h1:chkX xs=0) (hd:inB day 0 73048=true):atP xs [] k day=(.zero,181)∨∃ g,atP xs [] k day=(g,0)∧LedOk g∧(∀ s,getA g.h s=sH s ((visX xs k).filter fun x=>decide (x.day≤day)))∧(∀ q,getA g.c q=sC day q ((visX xs k).filter fun x=>decide (x.day≤day)))∧(∀ q,getA g.p q=sP day q ((visX xs k).filter fun x=>decide (x.day≤day)))∧∀ c,totK c g.c+totK c g.p=sT c ((visX xs k).filter fun x=>decide (x.day≤day)):=by
 have hA:chkA []=0:=rfl
 have vA:visA [] k=[]:=rfl
 have e0:atP xs [] k day=finL (runL day .zero ((stabK EC.day ((visX xs k).filter fun x=>decide (x.day≤day))).map (Sum.inr:EC→Ev))):=by
  unfold atP
  rw [h1,hA,hd,vA,ops_inr]
  simp
 have hp:=(stabK_stab EC.day ((visX xs k).filter fun x=>decide (x.day≤day))).perm
 have hX:∀ x∈stabK EC.day ((visX xs k).filter fun x=>decide (x.day≤day)),MdE x:=fun x hx=>h x (visX_ok x (List.mem_filter.1 (hp.mem_iff.1 hx)).1).1
 have hlen:(stabK EC.day ((visX xs k).filter fun x=>decide (x.day≤day))).length≤30:=by
  rw [hp.length_eq]
  refine Nat.le_trans (List.length_filter_le _ _) (Nat.le_trans ?_ hl)
  unfold visX
  rw [if_pos h1,fm_lenE fun i hi=>visNE_mem hi]
  exact visNE_len xs k
 generalize hXX:stabK EC.day ((visX xs k).filter fun x=>decide (x.day≤day))=X at e0 hp hX hlen
 rcases run_md (day:=day) X .zero (n:=0) (fun s=>by show (0:Int)≤_;omega) (by omega) (fun x hx=>(hX x hx).q) with e | ⟨g,e⟩
 ·rw [e] at e0;exact .inl e0
 ·obtain ⟨b1,b2,b3,b4,b5⟩:=pf_made hX hlen e
  have bt:=fun c=>run_tot c X (n:=0) .zero (by omega) (.nil 0) (.nil 0) (fun x hx=>.of (hX x hx).v) e
  rw [e] at e0
  refine .inr ⟨g,e0.trans b1,b5,fun s=>?_,fun q=>?_,fun q=>?_,fun c=>?_⟩
  ·rw [b2];exact sumBy_perm hp
  ·rw [b3];exact sumBy_perm hp
  ·rw [b4];exact sumBy_perm hp
  ·rw [bt]
   show (0:Int)+0+sT c X=_
   rw [Int.zero_add,Int.zero_add]
   exact sumBy_perm hp
theorem apply_cashb {a:AC} {q:Int} (h:(applyA a q).2=0) : -1000000000000000≤(applyA a q).1.cash∧(applyA a q).1.cash≤1000000000000000:=by
 unfold applyA at h ⊢
 split at h
 ·cases h
 rename_i h1
 split at h
 ·cases h
 rename_i h2
 split at h
 ·cases h
 rename_i h3
 split at h
 ·rename_i h4;exact absurd h h4
 rename_i h4
 rw [if_neg h1,if_neg h2,if_neg h3,if_neg h4]
 show -1000000000000000≤(rndI (rndQ (mulQ (paidQ a q) a.cash).1 2 6)).1∧(rndI (rndQ (mulQ (paidQ a q) a.cash).1 2 6)).1≤1000000000000000
 unfold rndI
 split
 ·show -1000000000000000≤(0:Int)∧(0:Int)≤1000000000000000
  decide
 ·split
  ·show -1000000000000000≤(0:Int)∧(0:Int)≤1000000000000000
   decide
  ·rename_i h5;simp only;omega
structure RelS (n:Nat) (g1 g2:Led):Prop where
 o1:LedOk g1
 o2:LedOk g2
 h:g2.h=g1.h
 p:g2.p=[]
 t:∀ c,totK c g1.c+totK c g1.p=totK c g2.c
 b1:AmB n g1.c
 b2:AmB n g1.p
 b3:AmB n g2.c
theorem RelS.zero:RelS 0 .zero .zero:=⟨.zero,.zero,rfl,rfl,fun _=>rfl,.nil 0,.nil 0,.nil 0⟩
def BothS (n:Nat) (A B:Except Int Led):Prop:=(∃ e,A=.error e∧B=.error e)∨∃ g1 g2,A=.ok g1∧B=.ok g2∧RelS n g1 g2
theorem act_settle {n:Nat} (hn:n≤8000) {g1 g2:Led} (R:RelS n g1 g2) (a:AC):BothS (n+1) (actL g1 a) (actL g2 a):=by
 have k1:=fun g' (e:actL g1 a=.ok g')=>(act_okL R.o1 e).1
 have k2:=fun g' (e:actL g2 a=.ok g')=>(act_okL R.o2 e).1
 unfold actL at k1 k2 ⊢
 rw [R.h] at k2 ⊢
 by_cases h0:(applyA a (getA g1.h a.ins)).2≠0
 ·rw [if_pos h0,if_pos h0];exact .inl ⟨_,rfl,rfl⟩
 rw [if_neg h0] at k1 k2
 rw [if_neg h0,if_neg h0]
 have hc:=apply_cashb (Classical.not_not.1 h0)
 cases e:holdL (setA ltB g1.h a.ins 0) (applyA a (getA g1.h a.ins)).1.ins (applyA a (getA g1.h a.ins)).1.qty with
 | error e'=>exact .inl ⟨_,rfl,rfl⟩
 | ok H =>
  rw [e] at k1 k2
  obtain ⟨-,p1⟩:=pay_get R.o1.c.1 R.b1 (by omega) (a.cur,0) hc
  obtain ⟨-,p3⟩:=pay_get R.o2.c.1 R.b3 (by omega) (a.cur,0) hc
  refine .inr ⟨_,_,rfl,rfl,k1 _ rfl,k2 _ rfl,rfl,R.p,fun c=>?_,p1,R.b2.mono (by omega),p3⟩
  have t1:totK c (payL g1.c (a.cur,0) (applyA a (getA g1.h a.ins)).1.cash)=totK c g1.c+if a.cur=c then (applyA a (getA g1.h a.ins)).1.cash else 0:=totK_pay R.o1.c.1 R.b1 (by omega) (a.cur,0) hc c
  have t2:totK c (payL g2.c (a.cur,0) (applyA a (getA g1.h a.ins)).1.cash)=totK c g2.c+if a.cur=c then (applyA a (getA g1.h a.ins)).1.cash else 0:=totK_pay R.o2.c.1 R.b3 (by omega) (a.cur,0) hc c
  have:=R.t c
  show totK c (payL g1.c (a.cur,0) (applyA a (getA g1.h a.ins)).1.cash)+totK c g1.p=totK c (payL g2.c (a.cur,0) (applyA a (getA g1.h a.ins)).1.cash)
  rw [t1,t2];omega
theorem ent_settle {n:Nat} (hn:n≤8000) {d1 d2:Int} {g1 g2:Led} (R:RelS n g1 g2) {x:EC} (hx:ZOk x) (hs:x.settle≤d2):BothS (n+1) (entL d1 g1 x) (entL d2 g2 x):=by
 have S1:=settle_ok (day:=d1) R.o1 x
 have S2:=settle_ok (day:=d2) R.o2 x
 have hR:RelS (n+1) (settleL d1 g1 x) (settleL d2 g2 x):=by
  obtain ⟨-,p1⟩:=pay_get R.o1.c.1 R.b1 (by omega) (x.cur,0) hx.a
  obtain ⟨-,p2⟩:=pay_get R.o1.p.1 R.b2 (by omega) (x.cur,x.settle) hx.a
  obtain ⟨-,p3⟩:=pay_get R.o2.c.1 R.b3 (by omega) (x.cur,0) hx.a
  have t1:∀ c,totK c (payL g1.c (x.cur,0) x.amt)=totK c g1.c+if x.cur=c then x.amt else 0:=fun c=>totK_pay R.o1.c.1 R.b1 (by omega) (x.cur,0) hx.a c
  have t2:∀ c,totK c (payL g1.p (x.cur,x.settle) x.amt)=totK c g1.p+if x.cur=c then x.amt else 0:=fun c=>totK_pay R.o1.p.1 R.b2 (by omega) (x.cur,x.settle) hx.a c
  have t3:∀ c,totK c (payL g2.c (x.cur,0) x.amt)=totK c g2.c+if x.cur=c then x.amt else 0:=fun c=>totK_pay R.o2.c.1 R.b3 (by omega) (x.cur,0) hx.a c
  have eh:(settleL d2 g2 x).h=(settleL d1 g1 x).h:=by rw [settle_h,settle_h,R.h]
  have e2:settleL d2 g2 x=⟨g2.h,payL g2.c (x.cur,0) x.amt,g2.p⟩:=by unfold settleL;rw [if_pos hs]
  rw [e2] at S2 eh ⊢
  by_cases hd:x.settle≤d1
  ·have e1:settleL d1 g1 x=⟨g1.h,payL g1.c (x.cur,0) x.amt,g1.p⟩:=by unfold settleL;rw [if_pos hd]
   rw [e1] at S1 eh ⊢
   refine ⟨S1,S2,eh,R.p,fun c=>?_,p1,R.b2.mono (by omega),p3⟩
   have:=R.t c
   show totK c (payL g1.c (x.cur,0) x.amt)+totK c g1.p=totK c (payL g2.c (x.cur,0) x.amt)
   rw [t1,t3];omega
  ·have e1:settleL d1 g1 x=⟨g1.h,g1.c,payL g1.p (x.cur,x.settle) x.amt⟩:=by unfold settleL;rw [if_neg hd]
   rw [e1] at S1 eh ⊢
   refine ⟨S1,S2,eh,R.p,fun c=>?_,R.b1.mono (by omega),p2,p3⟩
   have:=R.t c
   show totK c g1.c+totK c (payL g1.p (x.cur,x.settle) x.amt)=totK c (payL g2.c (x.cur,0) x.amt)
   rw [t2,t3];omega
 have k1:=fun g' (e:entL d1 g1 x=.ok g')=>(ent_okL R.o1 e).1
 have k2:=fun g' (e:entL d2 g2 x=.ok g')=>(ent_okL R.o2 e).1
 unfold entL at k1 k2 ⊢
 rw [R.h] at k2 ⊢
 by_cases hk:x.kind=2
 ·rw [if_pos hk,if_pos hk]
  exact .inr ⟨_,_,rfl,rfl,hR⟩
 ·rw [if_neg hk] at k1 k2
  rw [if_neg hk,if_neg hk]
  cases e:holdL g1.h x.ins x.qty with
  | error e'=>exact .inl ⟨_,rfl,rfl⟩
  | ok H =>
   rw [e] at k1 k2
   exact .inr ⟨_,_,rfl,rfl,k1 _ rfl,k2 _ rfl,rfl,hR.p,hR.t,hR.b1,hR.b2,hR.b3⟩
theorem run_settle {d1 d2:Int}:∀ (l:List Ev) {n:Nat} {g1 g2:Led},RelS n g1 g2→n+l.length≤8000→(∀ x,Sum.inr x∈l→ZOk x∧x.settle≤d2)→BothS (n+l.length) (runL d1 g1 l) (runL d2 g2 l)
 | [],n,g1,g2,R,_,_=>.inr ⟨g1,g2,rfl,rfl,R⟩
 | o :: l,n,g1,g2,R,hn,hx=>by
  simp only [List.length_cons] at hn
  have hS:BothS (n+1) (stepL d1 g1 o) (stepL d2 g2 o):=by
   cases o with
   | inl a=>exact act_settle (by omega) R a
   | inr x=>exact ent_settle (by omega) R (hx x (by simp)).1 (hx x (by simp)).2
  rw [runL,runL]
  rcases hS with ⟨e,e1,e2⟩ | ⟨g1',g2',e1,e2,R'⟩
  ·rw [e1,e2];exact .inl ⟨e,rfl,rfl⟩
  ·rw [e1,e2]
   have:=run_settle (d1:=d1) (d2:=d2) l R' (by omega) fun x hx'=>hx x (by simp [hx'])
   rw [show n+(o :: l).length=n+1+l.length by simp only [List.length_cons];omega]
   exact this
theorem lastGo_snoc (k:Int) (key:List UInt8) (m:MK):∀ (r:List MK) (i:Nat) (a:Int),lastGo k key i (r++[m]) a=if m.known≤k∧m.key=key then ((i+r.length:Nat):Int) else lastGo k key i r a
 | [],i,a=>by
  show lastGo k key i [m] a=_
  rw [lastGo,lastGo,lastGo]
  rfl
 | x :: r,i,a=>by
  rw [List.cons_append,lastGo,lastGo_snoc k key m r,lastGo]
  simp only [List.length_cons]
  rw [show i+1+r.length=i+(r.length+1) by omega]
theorem lastI_snoc (k:Int) (key:List UInt8) (m:MK) (l:List MK):lastI k key (l++[m])=if m.known≤k∧m.key=key then ((l.length:Nat):Int) else lastI k key l:=by
 unfold lastI
 rw [lastGo_snoc,Nat.zero_add]
theorem visB_last (k:Int) (m:MK) (l:List MK):visB (l++[m]) k l.length=(!m.void && decide (m.known≤k)):=by
 unfold visB
 rw [List.getElem?_append_right (by omega),Nat.sub_self]
 show (!m.void && (decide (m.known≤k) && (lastI k m.key (l++[m]) == (l.length:Nat))))=_
 rw [lastI_snoc]
 by_cases h:m.known≤k
 ·rw [if_pos ⟨h,rfl⟩,decide_eq_true h]
  simp
 ·rw [decide_eq_false h];simp
theorem visB_old {k:Int} {m:MK} {l:List MK} {i:Nat} {y:MK} (hy:l[i]? = some y):visB (l++[m]) k i=(visB l k i && !(decide (m.known≤k) && decide (y.key=m.key))):=by
 have hi:=(List.getElem?_eq_some_iff.1 hy).1
 unfold visB
 rw [List.getElem?_append_left hi,hy]
 show (!y.void && (decide (y.known≤k) && (lastI k y.key (l++[m]) == (i:Nat))))=((!y.void && (decide (y.known≤k) && (lastI k y.key l == (i:Nat)))) && _)
 rw [lastI_snoc]
 by_cases h:m.known≤k∧m.key=y.key
 ·rw [if_pos h,decide_eq_true h.1,decide_eq_true h.2.symm]
  have:(((l.length:Nat):Int) == ((i:Nat):Int))=false:=by rw [beq_eq_false_iff_ne];omega
  rw [this];simp
 ·rw [if_neg h]
  have:(decide (m.known≤k) && decide (y.key=m.key))=false:=by
   rw [Bool.and_eq_false_iff,decide_eq_false_iff_not,decide_eq_false_iff_not]
   by_cases h1:m.known≤k
   ·exact .inr fun e=>h ⟨h1,e.symm⟩
   ·exact .inl h1
  rw [this];simp
theorem visI_snoc (k:Int) (m:MK) (l:List MK):visI (l++[m]) k=(visI l k).filter (fun i=>!(decide (m.known≤k) && match l[i]? with | some y=>decide (y.key=m.key) | none=>false))++if (!m.void && decide (m.known≤k))=true then [l.length] else []:=by
 unfold visI
 rw [List.length_append,show [m].length=1 from rfl,List.range_succ,List.filter_append]
 congr 1
 ·rw [List.filter_filter]
  refine List.filter_congr fun i hi=>?_
  have hi:=List.mem_range.1 hi
  obtain ⟨y,hy⟩:∃ y,l[i]? = some y:=⟨_,List.getElem?_eq_getElem hi⟩
  rw [visB_old hy,hy,Bool.and_comm]
 ·rw [List.filter_cons,visB_last,List.filter_nil]
theorem fm_filter {α β:Type} (f:α→Option β) (p:β→Bool) (q:α→Bool):∀ (l:List α),(∀ a∈l,∀ b,f a=some b→q a=p b)→(l.filter q).filterMap f=(l.filterMap f).filter p
 | [],_=>rfl
 | a :: r,h=>by
  have ih:=fm_filter f p q r fun b hb=>h b (by simp [hb])
  cases e:f a with
  | none =>
   rw [List.filterMap_cons_none e,List.filter_cons]
   split
   ·rw [List.filterMap_cons_none e,ih]
   ·exact ih
  | some b =>
   have hq:=h a (by simp) b e
   rw [List.filterMap_cons_some e,List.filter_cons,List.filter_cons,hq]
   split
   ·rw [List.filterMap_cons_some e,ih]
   ·exact ih
theorem fm_snoc {xs:List EC} {x:EC}:∀ {l:List Nat},(∀ i∈l,i < xs.length)→l.filterMap (fun i=>(xs++[x])[i]?)=l.filterMap (fun i=>xs[i]?):=fun {l} h=>by
 induction l with
 | nil=>rfl
 | cons a r ih =>
  have ha:=h a (by simp)
  obtain ⟨y,hy⟩:∃ y,xs[a]? = some y:=⟨_,List.getElem?_eq_getElem ha⟩
  have hy2:(xs++[x])[a]? = some y:=by rw [List.getElem?_append_left ha];exact hy
  rw [List.filterMap_cons_some (f:=fun i=>(xs++[x])[i]?) hy2,List.filterMap_cons_some (f:=fun i=>xs[i]?) hy,ih fun i hi=>h i (by simp [hi])]
theorem visX_snoc {xs:List EC} {x:EC} {k:Int} (h:chkX xs=0) (h2:chkX (xs++[x])=0):visX (xs++[x]) k=(visX xs k).filter (fun y=>!(decide (x.known≤k) && decide (y.key=x.key)))++if (!x.void && decide (x.known≤k))=true then [x] else []:=by
 unfold visX
 rw [if_pos h,if_pos h2]
 unfold visNE
 rw [List.map_append,List.map_cons,List.map_nil,visI_snoc,List.filterMap_append]
 congr 1
 ·refine (fm_snoc (xs:=xs) (x:=x) fun i hi=>visNE_mem (k:=k) (show i∈visNE xs k from (List.mem_filter.1 hi).1)).trans ?_
  refine fm_filter _ _ _ _ fun i hi y hy=>?_
  have hm:(xs.map mkE)[i]? = some (mkE y):=by rw [List.getElem?_map,hy];rfl
  rw [hm];rfl
 ·rw [List.length_map]
  show (if (!x.void && decide (x.known≤k))=true then [xs.length] else []).filterMap _=_
  split
  ·rw [List.filterMap_cons_some (b:=x) (by rw [List.getElem?_append_right (by omega),Nat.sub_self];rfl)];rfl
  ·rfl
def lastK (l:List MK) (k:Int):Int:=match l.getLast? with
 | some m=>m.known
 | none=>k
theorem chkF_snoc (m:MK):∀ (l:List MK) (k:Int),chkF k (l++[m])=(chkF k l && mkGood (lastK l k) m)
 | [],k=>by
  show chkF k [m]=(chkF k [] && mkGood k m)
  rw [chkF,chkF];simp [chkF]
 | y :: l,k=>by
  rw [List.cons_append,chkF,chkF_snoc m l,chkF,Bool.and_assoc]
  congr 2
  unfold lastK
  cases l with
  | nil=>rfl
  | cons z r =>
   rw [List.getLast?_cons_cons]
   cases hg:(z :: r).getLast? with
   | some m'=>rfl
   | none=>simp at hg
theorem filter_keep {α:Type} {p:α→Bool} {l:List α} (h:∀ x∈l,p x=true):l.filter p=l:=List.filter_eq_self.2 h
theorem at_n {E:Env} (hE:E.P=Tryz.prog) {x:Value} {xs:List EC} {nx:Nat} {k day:Int} (hx:nx=xs.length) (hn:nx≤1000000000000) (hin:∀ y∈xs,y.In):OwnC E 17 [SV.c x,SV.c (.slice none 0 0),SV.c (.int .i64 k),SV.c (.int .i64 day)] [(9640,Blk.own x 31 10 nx (cat EC.A xs))] (fun r U=>∃ U0,AtQ (atP xs [] k day) r U0∧U=(9640,Blk.own x 31 10 nx (cat EC.A xs)) :: U0):=by
 subst hx
 exact OwnC.with_own (k:=9640) (v:=x) (e:=31) (sz:=10) (n:=xs.length) (A:=cat EC.A xs) (pre:=[]) rfl rfl (Go.SX.cat_all EC.one xs) (by rw [hE];exact at17.enters) (fun E0 h hl=>at_z (al:=[]) (h.trans hE) hl (Lst.nil _ 76) (by omega) (by decide) hin (fun _ h=>by cases h)) (fun r U h=>h.apart.1)
theorem lastGo_k {k k':Int} {key:List UInt8}:∀ {r:List MK} {i:Nat} {a:Int},(∀ m∈r,m.known≤k∧m.known≤k')→lastGo k key i r a=lastGo k' key i r a
 | [],_,_,_=>rfl
 | m :: r,i,a,h=>by
  have h1:=h m (by simp)
  rw [lastGo,lastGo,lastGo_k (r:=r) fun y hy=>h y (by simp [hy])]
  by_cases e:m.key=key
  ·rw [if_pos ⟨h1.1,e⟩,if_pos ⟨h1.2,e⟩]
  ·rw [if_neg (fun h=>e h.2),if_neg (fun h=>e h.2)]
theorem visX_k {xs:List EC} {k k':Int} (h:∀ y∈xs,y.known≤k∧y.known≤k'):visX xs k=visX xs k':=by
 have hm:∀ m∈xs.map mkE,m.known≤k∧m.known≤k':=fun m hm=>by
  obtain ⟨y,hy,rfl⟩:=List.mem_map.1 hm
  exact h y hy
 have:visNE xs k=visNE xs k':=by
  unfold visNE visI
  refine List.filter_congr fun i hi=>?_
  unfold visB
  cases e:(xs.map mkE)[i]? with
  | none=>rfl
  | some m =>
   have h1:=hm m (List.mem_of_getElem? e)
   show (!m.void && (decide (m.known≤k) && (lastI k m.key (xs.map mkE) == (i:Nat))))=(!m.void && (decide (m.known≤k') && (lastI k' m.key (xs.map mkE) == (i:Nat))))
   rw [decide_eq_true h1.1,decide_eq_true h1.2]
   unfold lastI
   rw [lastGo_k hm]
 unfold visX
 rw [this]
theorem pw_fm {α β:Type} {R:β→β→Prop} {f:α→Option β}:∀ {l:List α},l.Pairwise (fun a b=>∀ x y,f a=some x→f b=some y→R x y)→(l.filterMap f).Pairwise R
 | [],_=>.nil
 | a :: r,h=>by
  obtain ⟨h1,h2⟩:=List.pairwise_cons.1 h
  cases e:f a with
  | none=>rw [List.filterMap_cons_none e];exact pw_fm h2
  | some x =>
   rw [List.filterMap_cons_some e]
   refine List.pairwise_cons.2 ⟨fun y hy=>?_,pw_fm h2⟩
   obtain ⟨b,hb,hf⟩:=List.mem_filterMap.1 hy
   exact h1 b hb x y e hf
theorem visX_keys (xs:List EC) (k:Int):(visX xs k).Pairwise fun a b=>a.key≠b.key:=by
 unfold visX
 split
 ·refine pw_fm ?_
  have hn:(visNE xs k).Pairwise (· < ·):=by
   unfold visNE visI
   exact List.Pairwise.filter _ List.pairwise_lt_range
  refine List.Pairwise.imp_of_mem ?_ hn
  intro i j hi hj hij x y hx hy he
  have li:lastI k x.key (xs.map mkE)=i∧lastI k y.key (xs.map mkE)=j:=by
   have one:∀ (q:Nat) (z:EC),q∈visNE xs k→xs[q]? = some z→lastI k z.key (xs.map mkE)=q:=fun q z hq hz=>by
    have h:=(List.mem_filter.1 hq).2
    unfold visB at h
    have hm:(xs.map mkE)[q]? = some (mkE z):=by rw [List.getElem?_map,hz];rfl
    rw [hm] at h
    simp only [Bool.and_eq_true,beq_iff_eq] at h
    exact h.2.2
   exact ⟨one i x hi hx,one j y hj hy⟩
  rw [he] at li
  omega
 ·exact .nil
def EC.un (x:EC):EC:={ x with known:=0,key:=[] }
theorem run_un {day:Int}:∀ (l:List Ev) {g:Led},runL day g l=runL day g (l.map fun o=>match o with
 | .inl a=>(.inl a:Ev)
 | .inr x=>.inr x.un)
 | [],_=>rfl
 | .inl a :: l,g=>by
  rw [List.map_cons,runL,runL]
  cases stepL day g (.inl a) with
  | error e=>rfl
  | ok g'=>exact run_un l
 | .inr x :: l,g=>by
  rw [List.map_cons,runL,runL]
  have:stepL day g (.inr x.un)=stepL day g (.inr x):=rfl
  show _=match stepL day g (.inr x.un) with | .error e=>Except.error e | .ok g'=>runL day g' _
  rw [this]
  cases stepL day g (.inr x) with
  | error e=>rfl
  | ok g'=>exact run_un l
theorem ops_un (al:List AC) (xs:List EC) (day:Int):((opsL al xs day).map fun o=>match o with
 | .inl a=>(.inl a:Ev)
 | .inr x=>.inr x.un)=opsL al (xs.map EC.un) day:=by
 unfold opsL
 rw [stabK_map (key:=dayO) (key':=dayO) _ (fun o=>by cases o<;>rfl)]
 congr 1
 rw [List.filter_append,List.filter_append,List.map_append]
 congr 1
 ·rw [List.filter_map,List.map_map];rfl
 ·rw [List.filter_map,List.map_map,List.map_map,List.filter_map];rfl
theorem run_alike {al:List AC} {xs ys:List EC} {day:Int} (h:xs.map EC.un=ys.map EC.un):runL day .zero (opsL al xs day)=runL day .zero (opsL al ys day):=by
 rw [run_un,ops_un,h,← ops_un,← run_un]
theorem drop_last_keys {v:List EC} {x:EC} (h:(v++[x]).Pairwise fun a b=>a.key≠b.key):(v++[x]).filter (fun y=>!decide (y.key=x.key))=v:=by
 obtain ⟨-,-,h3⟩:=List.pairwise_append.1 h
 rw [List.filter_append,filter_keep (l:=v) (fun y hy=>by rw [decide_eq_false (h3 y hy x (by simp))];rfl),List.filter_cons,decide_eq_true rfl]
 simp
theorem at_corr {xs v:List EC} {x w x':EC} {day:Int} (h1:chkX xs=0) (h2:chkX (xs++[w])=0) (h3:chkX (xs++[w]++[x'])=0) (hk:∀ y∈xs,y.known≤100) (hv:visX xs 100=v++[x]) (hw:w.key=x.key∧w.known=200) (hx:x'.key=x.key∧x'.known=201∧x'.void=false∧x'.un=x.un) :
    atP (xs++[w]++[x']) [] 201 day=atP xs [] 100 day∧atP (xs++[w]++[x']) [] 100 day=atP xs [] 100 day:=by
 have e1:visX xs 201=v++[x]:=by rw [← hv];exact visX_k fun y hy=>by have:=hk y hy;omega
 have e2:visX (xs++[w]++[x']) 201=v++[x']:=by
  rw [visX_snoc h2 h3,visX_snoc h1 h2,e1,hw.1,hw.2,hx.1,hx.2.1,hx.2.2.1]
  have d1:decide ((200:Int)≤201)=true:=rfl
  have d2:decide ((201:Int)≤201)=true:=rfl
  simp only [d1,d2,Bool.true_and,Bool.and_true,Bool.not_false,if_true]
  have hp:=visX_keys xs 100
  rw [hv] at hp
  rw [drop_last_keys hp,List.filter_append]
  congr 1
  obtain ⟨-,-,h4⟩:=List.pairwise_append.1 hp
  rw [filter_keep (l:=v) (fun y hy=>by rw [decide_eq_false (h4 y hy x (by simp))];rfl)]
  have:((if (!w.void)=true then [w] else []).filter fun y=>!decide (y.key=x.key))=[]:=by
   split
   ·rw [List.filter_cons,decide_eq_true hw.1];simp
   ·rfl
  rw [this,List.append_nil]
 have e3:visX (xs++[w]++[x']) 100=visX xs 100:=by
  rw [visX_snoc h2 h3,visX_snoc h1 h2,hw.2,hx.2.1]
  simp
 have r1:runL day .zero (opsL (visA [] 201) (v++[x']) day)=runL day .zero (opsL (visA [] 100) (v++[x]) day):=by
  have a1:visA [] 201=[]:=rfl
  have a2:visA [] 100=[]:=rfl
  rw [a1,a2]
  refine run_alike ?_
  rw [List.map_append,List.map_append,List.map_cons,List.map_cons,hx.2.2.2]
 constructor
 ·unfold atP
  rw [h1,h3,e2,r1,hv]
 ·unfold atP
  rw [h1,h3,e3]
theorem w_add (a b:Int):IntKind.i64.wrap (IntKind.i64.wrap a+b)=IntKind.i64.wrap (a+b):=by
 rw [IntKind.wrap_i64,IntKind.wrap_i64,IntKind.wrap_i64];omega
theorem w_sub (a b:Int):IntKind.i64.wrap (IntKind.i64.wrap a - b)=IntKind.i64.wrap (a - b):=by
 rw [IntKind.wrap_i64,IntKind.wrap_i64,IntKind.wrap_i64];omega
theorem sumBy_take (f:EC→Int) {l:List EC} {i:Nat} {x:EC} (h:l[i]? = some x):sumBy f (l.take (i+1))=sumBy f (l.take i)+f x:=by
 rw [List.take_add_one,h,sumBy_app]
 show _+(f x+0)=_
 omega
theorem totK_take (c:Bs) {l:List (Ky×Int)} {i:Nat} {x:Ky×Int} (h:l[i]? = some x):totK c (l.take (i+1))=totK c (l.take i)+if x.1.1=c then x.2 else 0:=by
 rw [List.take_add_one,h,totK_app]
 show _+(_+(0:Int))=_
 omega
def fH (d:Int) (s:Bs) (x:EC):Int:=if x.day≤d∧x.ins=s then x.qty else 0
def fT (d:Int) (c:Bs) (x:EC):Int:=if x.day≤d∧x.cur=c then x.amt else 0
theorem sH_filter (d:Int) (s:Bs) (l:List EC):sH s (l.filter fun x=>decide (x.day≤d))=sumBy (fH d s) l:=by
 unfold sH
 rw [sumBy_filter]
 refine sumBy_congr fun x _=>?_
 unfold fH
 by_cases h:x.day≤d
 ·rw [if_pos (decide_eq_true h)];simp [h]
 ·rw [if_neg (by simp [h])];simp [h]
theorem sT_filter (d:Int) (c:Bs) (l:List EC):sT c (l.filter fun x=>decide (x.day≤d))=sumBy (fT d c) l:=by
 unfold sT
 rw [sumBy_filter]
 refine sumBy_congr fun x _=>?_
 unfold fT
 by_cases h:x.day≤d
 ·rw [if_pos (decide_eq_true h)];simp [h]
 ·rw [if_neg (by simp [h])];simp [h]
theorem lastI_uniq {k:Int} {l:List MK} {i:Nat} {m:MK} (hi:l[i]? = some m) (hk:m.known≤k) (hn:∀ (j:Nat) (m':MK),i < j→l[j]? = some m'→m'.key≠m.key):lastI k m.key l=i:=by
 unfold lastI
 rcases lastGo_spec k m.key l 0 (-1) with ⟨h1,-⟩ | ⟨j,m',h1,h2,h3,h4,h5⟩
 ·exact absurd rfl (h1 i m hi hk)
 ·rw [h4,Nat.zero_add]
  rcases Nat.lt_trichotomy j i with h | h | h
  ·exact absurd rfl (h5 i m h hi hk)
  ·rw [h]
  ·exact absurd h3 (hn j m' h h1)
theorem fm_range {α:Type} (xs:List α):∀ n,n≤xs.length→(List.range n).filterMap (fun i=>xs[i]?)=xs.take n
 | 0,_=>by simp
 | n+1,h=>by
  obtain ⟨y,hy⟩:∃ y,xs[n]? = some y:=⟨_,List.getElem?_eq_getElem (by omega)⟩
  rw [List.range_succ,List.filterMap_append,fm_range xs n (by omega),take_one hy,List.filterMap_cons_some (f:=fun i=>xs[i]?) hy]
  rfl
theorem visX_all {xs:List EC} {k:Int} (h:chkX xs=0) (hv:∀ x∈xs,x.void=false∧x.known≤k) (hk:xs.Pairwise fun a b=>a.key≠b.key):visX xs k=xs:=by
 unfold visX
 rw [if_pos h]
 have:visNE xs k=List.range xs.length:=by
  unfold visNE visI
  rw [List.length_map]
  refine filter_keep fun i hi=>?_
  have hi:=List.mem_range.1 hi
  obtain ⟨y,hy⟩:∃ y,xs[i]? = some y:=⟨_,List.getElem?_eq_getElem hi⟩
  have hm:(xs.map mkE)[i]? = some (mkE y):=by rw [List.getElem?_map,hy];rfl
  have hy2:=hv y (List.mem_of_getElem? hy)
  unfold visB
  rw [hm]
  show (!y.void && (decide (y.known≤k) && (lastI k (mkE y).key (xs.map mkE) == (i:Nat))))=true
  rw [lastI_uniq hm hy2.2 (fun j m' hj hm'=>by
   obtain ⟨z,hz,rfl⟩:∃ z,xs[j]? = some z∧mkE z=m':=by
    rw [List.getElem?_map] at hm'
    cases e:xs[j]? with
    | none=>rw [e] at hm';cases hm'
    | some z=>rw [e] at hm';exact ⟨z,rfl,Option.some.inj hm'⟩
   obtain ⟨l1,e1⟩:=List.getElem?_eq_some_iff.1 hy
   obtain ⟨l2,e2⟩:=List.getElem?_eq_some_iff.1 hz
   have:=List.pairwise_iff_getElem.1 hk i j l1 l2 hj
   rw [e1,e2] at this
   exact fun h=>this h.symm),hy2.1,decide_eq_true hy2.2]
  simp
 rw [this,fm_range xs _ (Nat.le_refl _),List.take_length]
theorem sumBy_map (f:EC→Int) (hf:∀ x,f x.un=f x):∀ (l:List EC),sumBy f (l.map EC.un)=sumBy f l
 | []=>rfl
 | x :: r=>by rw [List.map_cons,sumBy,sumBy,hf,sumBy_map f hf r]
theorem sum_alike {f:EC→Int} (hf:∀ x,f x.un=f x) {xs ys:List EC} (h:(xs.map EC.un).Perm (ys.map EC.un)):sumBy f xs=sumBy f ys:=by
 rw [← sumBy_map f hf xs,← sumBy_map f hf ys];exact sumBy_perm h
theorem perm_days {xs ys:List EC} (h:(xs.map EC.un).Perm (ys.map EC.un)) (d:Int):((xs.filter fun x=>decide (x.day≤d)).map EC.un).Perm ((ys.filter fun x=>decide (x.day≤d)).map EC.un):=by
 have:=h.filter fun x=>decide (x.day≤d)
 rw [List.filter_map,List.filter_map] at this
 exact this
theorem at_order {xs ys:List EC} {day:Int} (hx:∀ x∈xs,MdE x∧0≤x.qty) (hy:∀ x∈ys,MdE x∧0≤x.qty) (lx:xs.length≤30) (ly:ys.length≤30) (cx:chkX xs=0) (cy:chkX ys=0) (vx:∀ x∈xs,x.void=false∧x.known≤99) (vy:∀ x∈ys,x.void=false∧x.known≤99) (kx:xs.Pairwise fun a b=>a.key≠b.key) (ky:ys.Pairwise fun a b=>a.key≠b.key) (hp:(xs.map EC.un).Perm (ys.map EC.un)) (hd:inB day 0 73048=true):∃ g,atP xs [] 99 day=(g,0)∧atP ys [] 99 day=(g,0):=by
 have one:∀ {zs:List EC},(∀ x∈zs,MdE x∧0≤x.qty)→zs.length≤30→chkX zs=0→(∀ x∈zs,x.void=false∧x.known≤99)→(zs.Pairwise fun a b=>a.key≠b.key)→∃ g,atP zs [] 99 day=(g,0)∧LedOk g∧(∀ s,getA g.h s=sH s (zs.filter fun x=>decide (x.day≤day)))∧(∀ q,getA g.c q=sC day q (zs.filter fun x=>decide (x.day≤day)))∧(∀ q,getA g.p q=sP day q (zs.filter fun x=>decide (x.day≤day))):=fun {zs} h1 h2 h3 h4 h5=>by
  have hv:=visX_all h3 h4 h5
  rcases at_made (k:=99) (fun x hx=>(h1 x hx).1) h2 h3 hd with e | ⟨g,e,a1,a2,a3,a4,-⟩
  ·exfalso
   have hA:chkA []=0:=rfl
   have vA:visA [] 99=[]:=rfl
   have e0:atP zs [] 99 day=finL (runL day .zero ((stabK EC.day (zs.filter fun x=>decide (x.day≤day))).map (Sum.inr:EC→Ev))):=by
    unfold atP
    rw [h3,hA,hd,vA,hv,ops_inr]
    simp
   have hpm:=(stabK_stab EC.day (zs.filter fun x=>decide (x.day≤day))).perm
   have hX:∀ x∈stabK EC.day (zs.filter fun x=>decide (x.day≤day)),MdE x∧0≤x.qty:=fun x hx=>h1 x (List.mem_filter.1 (hpm.mem_iff.1 hx)).1
   have hlen:(stabK EC.day (zs.filter fun x=>decide (x.day≤day))).length≤30:=by
    rw [hpm.length_eq];exact Nat.le_trans (List.length_filter_le _ _) h2
   obtain ⟨g,eg⟩:=run_buy (day:=day) _ .zero (n:=0) (fun s=>by show (0:Int)≤_;omega) (by omega) (fun x hx=>⟨(hX x hx).2,(hX x hx).1.q.2⟩)
   have hF:=(pf_made (fun x hx=>(hX x hx).1) hlen eg).1
   rw [eg] at e0
   have:finL (.ok g)=pfL g:=rfl
   rw [e0,this,hF] at e
   cases e
  ·rw [hv] at a2 a3 a4
   exact ⟨g,e,a1,a2,a3,a4⟩
 obtain ⟨g,e,a1,a2,a3,a4⟩:=one hx lx cx vx kx
 obtain ⟨g',e',b1,b2,b3,b4⟩:=one hy ly cy vy ky
 have hpd:=perm_days hp day
 have eh:g'.h=g.h:=extA ltB_ok b1.h.1 a1.h.1 b1.h.2 a1.h.2 fun s=>by
  rw [b2,a2];exact (sum_alike (fun _=>rfl) hpd).symm
 have ec:g'.c=g.c:=extA ltK2_ok b1.c.1 a1.c.1 b1.c.2 a1.c.2 fun q=>by
  rw [b3,a3];exact (sum_alike (fun _=>rfl) hpd).symm
 have ep:g'.p=g.p:=extA ltK2_ok b1.p.1 a1.p.1 b1.p.2 a1.p.2 fun q=>by
  rw [b4,a4];exact (sum_alike (fun _=>rfl) hpd).symm
 refine ⟨g,e,?_⟩
 rw [e']
 cases g;cases g'
 simp only at eh ec ep
 subst eh ec ep
 rfl
end Go.Proofs.YtekfkdddadcalaaGreatDoor
