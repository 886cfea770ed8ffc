/- the chapter s examples of portfolios. PositionExact, at every call. made entries without actions: plain law. records that became known later change nothing: plain law. made entries without actions: what At returns: plain law. as days pass, what was pending is cash: plain law. At, of a book of the call s own and without actions. PositionValid, at every call. At, Visible, Valid of lists of the call s own. an entry corrected and corrected back: plain law. without actions and sales the order does not matter: plain law. sums by loops: plain law; no condition. -/
import Derived.Test.YtekfkdddadcalaaGreatDoorPositionLaterQ28
import Derived.Test.YtekfkdddadcalaaGreatDoorPositionLaterQ13
set_option maxRecDepth 100000
set_option maxHeartbeats 4000000
namespace Go.Proofs.YtekfkdddadcalaaGreatDoor
open Go Go.RowKit Go.SX
def kE1:EC:=⟨1,[101],5,7,[65,67,77,69],10,-100000,[85,83,68],1,false⟩
def kE2:EC:=⟨1,[102],8,8,[65,67,77,69],-21,5,[85,83,68],2,false⟩
def kXs:List EC:=[kE1,kE2]
def kAc:AC:=⟨1,[115],[65,67,77,69],[],6,2,1,(mkQ 0 1).1,[85,83,68],1,false⟩
def kAl:List AC:=[kAc]
theorem kn_1:atP kXs kAl 9 5=(⟨[([65,67,77,69],10)],[],[(([85,83,68],7),-100000)]⟩,0):=by kernel_rfl
theorem kn_2:atP kXs kAl 9 7=(⟨[([65,67,77,69],20)],[(([85,83,68],0),-100000)],[]⟩,0):=by kernel_rfl
theorem kn_3:atP kXs kAl 9 8=(.zero,181):=by kernel_rfl
def XO (x y:Value) (nx na:Nat) (xs:List EC) (al:List AC) (Q:Value→MemL→Prop) (r:Value) (U:MemL):Prop:=∃ U0,Q r U0∧U=(9640,Blk.own x 31 10 nx (cat EC.A xs)) :: (9641,Blk.own y 61 76 na (cat AC.A al)) :: U0
theorem readX {E:Env} {f:FuncId} {sv:List SV} {x y:Value} {xs:List EC} {al:List AC} {nx na:Nat} (hx:nx=xs.length) (hy:na=al.length) (hent:Go.SX.Enters E.P f) {Q:Value→MemL→Prop} (hQ:∀ r U,Q r U→getM U 9640=none∧getM U 9641=none)
    (h:∀ E0:Env,E0.P=E.P→(∀ w,OldW E0 w→OldW E w)→Lst E0 x 10 xs.length (cat EC.A xs)→Lst E0 y 76 al.length (cat AC.A al)→OwnC E0 f sv [] Q):OwnC E f sv [(9640,Blk.own x 31 10 nx (cat EC.A xs)),(9641,Blk.own y 61 76 na (cat AC.A al))] (XO x y nx na xs al Q):=by
 subst hx hy
 have h2:∀ E0:Env,E0.P=E.P→(∀ w,OldW E0 w→OldW E w)→Lst E0 x 10 xs.length (cat EC.A xs)→OwnC E0 f sv [(9641,Blk.own y 61 76 al.length (cat AC.A al))] (fun r U=>∃ U0,Q r U0∧U=(9641,Blk.own y 61 76 al.length (cat AC.A al)) :: U0):=fun E0 h0 ho hl =>
  OwnC.with_own2 (k:=9641) (v:=y) (e:=61) (sz:=76) (n:=al.length) (A:=cat AC.A al) (pre:=[]) (Q:=Q) rfl rfl (Go.SX.cat_all AC.all1 al) (by rw [h0];exact hent) (fun E1 h1 ho1 hl1=>h E1 (h1.trans h0) (fun w hw=>ho w (ho1 w hw)) (hl.of_old ho1) hl1) (fun r U hq=>(hQ r U hq).2)
 refine (OwnC.with_own2 (k:=9640) (v:=x) (e:=31) (sz:=10) (n:=xs.length) (A:=cat EC.A xs) rfl rfl (Go.SX.cat_all EC.one xs) hent h2 (fun r U ⟨U0,hq,hU⟩=>by rw [hU];exact (hQ r U0 hq).1)).mono ?_
 rintro r U ⟨U1,⟨U0,h1,rfl⟩,rfl⟩
 exact ⟨U0,h1,rfl⟩
theorem AtQ.apart {R:Led×Int} {r:Value} {U:MemL} (h:AtQ R r U):getM U 9640=none∧getM U 9641=none:=by
 obtain ⟨xh,xc,xp,-,-,-,-,rfl⟩:=h
 exact ⟨rfl,rfl⟩
theorem at_zo {E:Env} (hE:E.P=Tryz.prog) {x y:Value} {xs:List EC} {al:List AC} {nx na:Nat} {k day:Int} (hx:nx=xs.length) (hy:na=al.length) (hn:nx≤1000000000000) (hm:na≤1000000000000) (hin:∀ y∈xs,y.In) (hina:∀ y∈al,y.In):OwnC E 17 [SV.c x,SV.c y,SV.c (.int .i64 k),SV.c (.int .i64 day)] [(9640,Blk.own x 31 10 nx (cat EC.A xs)),(9641,Blk.own y 61 76 na (cat AC.A al))] (XO x y nx na xs al (AtQ (atP xs al k day))) :=
 readX hx hy (by rw [hE];exact at17.enters) (fun _ _ h=>h.apart) fun E0 h0 _ hl1 hl2=>at_z (h0.trans hE) hl1 hl2 (by omega) (by omega) hin hina
theorem held_zo {E:Env} (hE:E.P=Tryz.prog) {x vc vp:Value} {H:List (Bs×Int)} {k:Bs} {n:Nat} (hn:n=H.length) (hb:n≤1000000000000):OwnC E 19 [SV.c (.agg #[x,vc,vp]),SV.c (.string (S k))] [(9610,Blk.own x 66 2 n (cat sumA H))] (fun y U=>y=.int .i64 (getA H k)∧U=[(9610,Blk.own x 66 2 n (cat sumA H))]):=by
 subst hn
 refine (OwnC.with_own (k:=9610) (v:=x) (e:=66) (sz:=2) (n:=H.length) (A:=cat sumA H) (pre:=[]) rfl rfl (cat_all sumA_one H) (by rw [hE];exact at19.enters) (fun E0 h hl=>held_z (h.trans hE) hl hb) (fun x U h=>by rw [h.2];rfl)).mono ?_
 rintro y U ⟨U0,⟨h1,h2⟩,h3⟩
 exact ⟨h1,by rw [h3,h2]⟩
theorem kXs_in:∀ y∈kXs,y.In:=by
 intro y hy
 simp only [kXs,List.mem_cons,List.not_mem_nil,or_false] at hy
 rcases hy with rfl | rfl
 ·exact ⟨by decide,by decide,by decide⟩
 ·exact ⟨by decide,by decide,by decide⟩
theorem kAl_in:∀ y∈kAl,y.In:=by
 intro y hy
 simp only [kAl,List.mem_cons,List.not_mem_nil,or_false] at hy
 subst hy
 exact ⟨mkQ_in _ _,by decide,by decide,by decide,by decide,by decide,by decide⟩
theorem fill_k1 {pl:List (Nat×Nat)} (hpl:pl=[(0,1),(1,1),(2,1),(3,1),(4,1),(5,1),(6,1),(7,1),(8,1),(9,1)]):Instr.fill (fun k=>pl[k]?) ti31.zero [(0,.int .i64 1),(1,.string (S [101])),(2,.int .i64 5),(3,.int .i64 7),(4,.string (S [65,67,77,69])),(5,.int .i64 10),(6,.int .i64 (-100000)),(7,.string (S [85,83,68])),(8,.int .i64 1)]=some kE1.A:=by
 subst hpl;rfl
theorem fill_k2 {pl:List (Nat×Nat)} (hpl:pl=[(0,1),(1,1),(2,1),(3,1),(4,1),(5,1),(6,1),(7,1),(8,1),(9,1)]):Instr.fill (fun k=>pl[k]?) ti31.zero [(0,.int .i64 1),(1,.string (S [102])),(2,.int .i64 8),(3,.int .i64 8),(4,.string (S [65,67,77,69])),(5,.int .i64 (-21)),(6,.int .i64 5),(7,.string (S [85,83,68])),(8,.int .i64 2)]=some kE2.A:=by
 subst hpl;rfl
theorem fill_kx:Instr.fill (fun k=>some (k*ti31.size,ti31.size)) (madeCells ti31.zero (2*ti31.size)) [(0,.agg kE1.A),(1,.agg kE2.A)]=some (cat EC.A kXs):=by kernel_rfl
theorem fill_ka {pl:List (Nat×Nat)} (hpl:pl=[(0,1),(1,1),(2,1),(3,1),(4,1),(5,1),(6,1),(7,66),(73,1),(74,1),(75,1)]):Instr.fill (fun k=>pl[k]?) ti61.zero [(0,.int .i64 1),(1,.string (S [115])),(2,.string (S [65,67,77,69])),(4,.int .i64 6),(5,.int .i64 2),(6,.int .i64 1),(7,.agg (mkQ 0 1).1.A),(8,.string (S [85,83,68])),(9,.int .i64 1)]=some kAc.A:=by
 subst hpl;kernel_rfl
theorem fill_kal:Instr.fill (fun k=>some (k*ti61.size,ti61.size)) (madeCells ti61.zero (1*ti61.size)) [(0,.agg kAc.A)]=some (cat AC.A kAl):=by kernel_rfl
theorem eqs_bal {E:Env} (hE:E.P=Tryz.prog) (x:Ky×Int) {u v:Operand}:Runs E (do eqGuard .eql 49 u v (.agg (sumK x)) (.agg (sumK x));binOp .eql 49 (.agg (sumK x)) (.agg (sumK x))) (.bool true):=by
 have:=eql_bal hE x x (u:=u) (v:=v)
 rwa [eqK_self] at this
theorem known_p0 {E:Env} (hE:E.P=Tryz.prog):OwnC E 16 [] [] (fun x U=>x=.bool true∧U=[]):=by
 refine sx_ownC [] tt_ok mixed at16 E hE [] [] _ rfl rfl fun w X β hT=>?_
 have hE':(envC Tryz.prog tt Tryz.f16.ntmps w X (tiedK [] β)).toEnv.P=Tryz.prog:=rfl
 have O1:=made_of (n:=0) (d:=1) (by decide) (by decide) (by decide) (by decide)
 have FX:=fill_kx
 have FA:=fill_ka rfl
 have FL:=fill_kal
 have SX0:(cat EC.A kXs).size=2*10:=by rw [Go.SX.cat_size EC.size];rfl
 have SA0:(cat AC.A kAl).size=1*76:=by rw [Go.SX.cat_size AC.size];rfl
 have L1:=fun (g g2:Nat)=>at_zo hE' (x:=.slice (some ⟨g,0,none⟩) 2 2) (y:=.slice (some ⟨g2,0,none⟩) 1 1) (k:=9) (day:=5) (xs:=kXs) (al:=kAl) (nx:=2) (na:=1) rfl rfl (by decide) (by decide) kXs_in kAl_in
 have L2:=fun (g g2:Nat)=>at_zo hE' (x:=.slice (some ⟨g,0,none⟩) 2 2) (y:=.slice (some ⟨g2,0,none⟩) 1 1) (k:=9) (day:=7) (xs:=kXs) (al:=kAl) (nx:=2) (na:=1) rfl rfl (by decide) (by decide) kXs_in kAl_in
 have L3:=fun (g g2:Nat)=>at_zo hE' (x:=.slice (some ⟨g,0,none⟩) 2 2) (y:=.slice (some ⟨g2,0,none⟩) 1 1) (k:=9) (day:=8) (xs:=kXs) (al:=kAl) (nx:=2) (na:=1) rfl rfl (by decide) (by decide) kXs_in kAl_in
 rw [kn_1] at L1
 rw [kn_2] at L2
 rw [kn_3] at L3
 refine ⟨_,fill_k1 rfl,_,fill_k2 rfl,?_⟩
 refine .inr ⟨by decide,by decide,by decide,cat EC.A kXs,FX,SX0,trivial,fun g=>?_⟩
 refine .inl ⟨_,O1,?_⟩
 refine ⟨_,FA,?_⟩
 refine .inr ⟨by decide,by decide,by decide,cat AC.A kAl,FL,SA0,trivial,fun g2=>?_⟩
 have L1:=L1 g g2
 have L2:=L2 g g2
 have L3:=L3 g g2
 refine .inr (.inr (.inr ⟨[(9640,11),(9641,14)],[9506,9507,9508],[_,_,_,_],[_,_],_,L1,rfl,⟨.inl rfl,.inl rfl,trivial⟩,rfl,trivial,?_⟩))
 rintro r U ⟨U0,⟨xh,xc,xp,q1,q2,q3,rfl,rfl⟩,rfl⟩
 refine ⟨rfl,?_⟩
 have one:∀ {x:Value},IsL x 1→∃ g c,x=.slice (some ⟨g,0,none⟩) 1 c:=fun {x} h=>by
  rcases h with ⟨_,h⟩ | ⟨g,c,h⟩
  ·cases h
  ·exact ⟨g,c,h⟩
 obtain ⟨gh,ch,rfl⟩:=one (show IsL xh 1 from q1)
 obtain ⟨ca,cc,rfl⟩:=(show IsL xc 0 from q2).len
 obtain ⟨gp,cp,rfl⟩:=one (show IsL xp 1 from q3)
 refine ⟨fits3 rfl rfl rfl,?_⟩
 refine .inr (.inr (.inr ⟨[(9640,11),(9641,14),(9506,9516),(9507,9517),(9508,9518)],[9516,9517,9518],[_,_,_,_],[_,_],_,L2,rfl,⟨.inl rfl,.inl rfl,trivial⟩,rfl,trivial,?_⟩))
 rintro r U ⟨U0,⟨yh,yc,yp,w1,w2,w3,rfl,rfl⟩,rfl⟩
 obtain ⟨gh2,ch2,rfl⟩:=one (show IsL yh 1 from w1)
 obtain ⟨gc2,cc2,rfl⟩:=one (show IsL yc 1 from w2)
 obtain ⟨pa,pc,rfl⟩:=(show IsL yp 0 from w3).len
 refine ⟨rfl,fits3 rfl rfl rfl,?_⟩
 refine .inr (.inr (.inr ⟨[(9640,11),(9641,14),(9506,9526),(9507,9527),(9508,9528)],[9526,9527,9528],[_,_,_,_],[_,_],_,L3,rfl,⟨.inl rfl,.inl rfl,trivial⟩,rfl,trivial,?_⟩))
 rintro r U ⟨U0,⟨zh,zc,zp,v1,v2,v3,rfl,rfl⟩,rfl⟩
 refine ⟨rfl,fits3 (isL_one v1) (isL_one v2) (isL_one v3),?_⟩
 have H1:=held_zo hE' (x:=.slice (some ⟨gh,0,none⟩) 1 ch) (vc:=.slice ca 0 cc) (vp:=.slice (some ⟨gp,0,none⟩) 1 cp) (H:=[([65,67,77,69],10)]) (k:=[65,67,77,69]) (n:=1) rfl (by decide)
 have H2:=held_zo hE' (x:=.slice (some ⟨gh2,0,none⟩) 1 ch2) (vc:=.slice (some ⟨gc2,0,none⟩) 1 cc2) (vp:=.slice pa 0 pc) (H:=[([65,67,77,69],20)]) (k:=[65,67,77,69]) (n:=1) rfl (by decide)
 rw [show getA [(([65,67,77,69]:Bs),(10:Int))] [65,67,77,69]=10 from by decide] at H1
 rw [show getA [(([65,67,77,69]:Bs),(20:Int))] [65,67,77,69]=20 from by decide] at H2
 refine ⟨fun _=>?_,fun h=>absurd h (by decide)⟩
 refine .inr (.inr (.inl ⟨[(9610,9506)],[_,_],[_],_,[_],H1,rfl,⟨.inl rfl,trivial⟩,rfl,rfl,?_⟩))
 have B1:=fun (u v:Operand)=>eqs_bal hE' (([85,83,68],7),-100000) (u:=u) (v:=v)
 refine ⟨fun _=>?_,fun h=>absurd h (by decide)⟩
 refine ⟨_,rfl,_,fun w' _=>run_len_sl Tryz.underlying38 w',fun _=>?_,fun h=>absurd h (by decide)⟩
 refine ⟨_,rfl,_,fun w' _=>run_len_sl Tryz.underlying38 w',fun _=>?_,fun h=>absurd h (by decide)⟩
 refine ⟨_,rfl,by decide,by decide,.inr ⟨9508,gp,_,1,cp,_,_,_,rfl,rfl,by decide,sumK (([85,83,68],7),-100000),rfl,?_⟩⟩
 refine ⟨_,fill_bal (([85,83,68],7),-100000) rfl,_,B1 _ _,?_⟩
 refine ⟨fun _=>?_,fun h=>absurd h (by decide)⟩
 refine ⟨fun _=>?_,fun h=>absurd h (by decide)⟩
 refine .inr (.inr (.inl ⟨[(9610,9516)],[_,_],[_],_,[_],H2,rfl,⟨.inl rfl,trivial⟩,rfl,rfl,?_⟩))
 refine ⟨fun _=>?_,fun h=>absurd h (by decide)⟩
 refine ⟨_,rfl,_,fun w' _=>run_len_sl Tryz.underlying38 w',fun _=>?_,fun h=>absurd h (by decide)⟩
 refine ⟨_,rfl,by decide,by decide,.inr ⟨9517,gc2,_,1,cc2,_,_,_,rfl,rfl,.int .i64 (-100000),rfl,?_⟩⟩
 refine ⟨fun _=>?_,fun h=>absurd h (by decide)⟩
 exact ⟨[],[],⟨rfl,rfl⟩,trivial,rfl⟩
theorem known_p:Pure Tryz.prog 16 [] (.bool true):=pure_of (vs:=[]) at16.enters fun _w=>known_p0 rfl
theorem run_len {day:Int}:∀ (ops:List Ev) {g g':Led},LedOk g→runL day g ops=.ok g'→g'.h.length≤g.h.length+2*ops.length∧g'.c.length≤g.c.length+ops.length∧g'.p.length≤g.p.length+ops.length
 | [],g,g',_,h=>by cases h;simp
 | o :: l,g,g',hg,h=>by
  rw [runL] at h
  cases e:stepL day g o with
  | error e'=>rw [e] at h;cases h
  | ok g1 =>
   rw [e] at h
   obtain ⟨h1,h2,h3,h4⟩:=step_okL hg e
   obtain ⟨h5,h6,h7⟩:=run_len l h1 h
   simp only [List.length_cons]
   exact ⟨by omega,by omega,by omega⟩
theorem pfL_len (g:Led):(pfL g).1.h.length≤g.h.length∧(pfL g).1.c.length≤g.c.length∧(pfL g).1.p.length≤g.p.length:=by
 unfold pfL
 split
 ·simp
 ·exact ⟨Nat.zero_le _,Nat.zero_le _,Nat.zero_le _⟩
theorem ops_len (al:List AC) (xs:List EC) (day:Int):(opsL al xs day).length≤al.length+xs.length:=by
 unfold opsL
 rw [(stabK_stab dayO _).len]
 refine Nat.le_trans (List.length_filter_le _ _) ?_
 simp
theorem atP_len (xs:List EC) (al:List AC) (k day:Int):(atP xs al k day).1.h.length≤20000∧(atP xs al k day).1.c.length≤20000∧(atP xs al k day).1.p.length≤20000:=by
 unfold atP
 split
 ·exact ⟨Nat.zero_le _,Nat.zero_le _,Nat.zero_le _⟩
 rename_i h1
 split
 ·exact ⟨Nat.zero_le _,Nat.zero_le _,Nat.zero_le _⟩
 rename_i h2
 split
 ·exact ⟨Nat.zero_le _,Nat.zero_le _,Nat.zero_le _⟩
 have l1:=visX_len (k:=k) (Classical.not_not.1 h1)
 have l2:=visA_len (k:=k) (Classical.not_not.1 h2)
 have l3:=ops_len (visA al k) (visX xs k) day
 cases e:runL day .zero (opsL (visA al k) (visX xs k) day) with
 | error e'=>exact ⟨Nat.zero_le _,Nat.zero_le _,Nat.zero_le _⟩
 | ok g =>
  obtain ⟨h3,h4,h5⟩:=run_len _ .zero e
  have h6:=pfL_len g
  have z1:Led.zero.h.length=0:=rfl
  have z2:Led.zero.c.length=0:=rfl
  have z3:Led.zero.p.length=0:=rfl
  show (pfL g).1.h.length≤_∧(pfL g).1.c.length≤_∧(pfL g).1.p.length≤_
  exact ⟨by omega,by omega,by omega⟩
def codes3:List Bs:=[[85,83,68],[69,85,82],[71,66,80]]
def stocks4:List Bs:=[[65,67,77,69],[66,79,78,68],[71,79,76,68],[88,49]]
structure MdE (x:EC):Prop where
 v:validE x=true
 a : -100000≤x.amt∧x.amt≤100000
 q : -2000≤x.qty∧x.qty≤2000
 c:x.amt≠0→x.cur∈codes3
 i:x.qty≠0→x.ins∈stocks4
theorem lastGo_snoc (k:Int) (key:List UInt8) (m:MK):∀ (r:List MK) (i:Nat) (a:Int),lastGo k key i (r++[m]) a=if m.known≤k∧m.key=key then ((i+r.length:Nat):Int) else lastGo k key i r a
 | [],i,a=>by
  show lastGo k key i [m] a=_
  rw [lastGo,lastGo,lastGo]
  rfl
 | x :: r,i,a=>by
  rw [List.cons_append,lastGo,lastGo_snoc k key m r,lastGo]
  simp only [List.length_cons]
  rw [show i+1+r.length=i+(r.length+1) by omega]
theorem lastI_snoc (k:Int) (key:List UInt8) (m:MK) (l:List MK):lastI k key (l++[m])=if m.known≤k∧m.key=key then ((l.length:Nat):Int) else lastI k key l:=by
 unfold lastI
 rw [lastGo_snoc,Nat.zero_add]
theorem visB_last (k:Int) (m:MK) (l:List MK):visB (l++[m]) k l.length=(!m.void && decide (m.known≤k)):=by
 unfold visB
 rw [List.getElem?_append_right (by omega),Nat.sub_self]
 show (!m.void && (decide (m.known≤k) && (lastI k m.key (l++[m]) == (l.length:Nat))))=_
 rw [lastI_snoc]
 by_cases h:m.known≤k
 ·rw [if_pos ⟨h,rfl⟩,decide_eq_true h]
  simp
 ·rw [decide_eq_false h];simp
theorem visB_old {k:Int} {m:MK} {l:List MK} {i:Nat} {y:MK} (hy:l[i]? = some y):visB (l++[m]) k i=(visB l k i && !(decide (m.known≤k) && decide (y.key=m.key))):=by
 have hi:=(List.getElem?_eq_some_iff.1 hy).1
 unfold visB
 rw [List.getElem?_append_left hi,hy]
 show (!y.void && (decide (y.known≤k) && (lastI k y.key (l++[m]) == (i:Nat))))=((!y.void && (decide (y.known≤k) && (lastI k y.key l == (i:Nat)))) && _)
 rw [lastI_snoc]
 by_cases h:m.known≤k∧m.key=y.key
 ·rw [if_pos h,decide_eq_true h.1,decide_eq_true h.2.symm]
  have:(((l.length:Nat):Int) == ((i:Nat):Int))=false:=by rw [beq_eq_false_iff_ne];omega
  rw [this];simp
 ·rw [if_neg h]
  have:(decide (m.known≤k) && decide (y.key=m.key))=false:=by
   rw [Bool.and_eq_false_iff,decide_eq_false_iff_not,decide_eq_false_iff_not]
   by_cases h1:m.known≤k
   ·exact .inr fun e=>h ⟨h1,e.symm⟩
   ·exact .inl h1
  rw [this];simp
theorem visI_snoc (k:Int) (m:MK) (l:List MK):visI (l++[m]) k=(visI l k).filter (fun i=>!(decide (m.known≤k) && match l[i]? with | some y=>decide (y.key=m.key) | none=>false))++if (!m.void && decide (m.known≤k))=true then [l.length] else []:=by
 unfold visI
 rw [List.length_append,show [m].length=1 from rfl,List.range_succ,List.filter_append]
 congr 1
 ·rw [List.filter_filter]
  refine List.filter_congr fun i hi=>?_
  have hi:=List.mem_range.1 hi
  obtain ⟨y,hy⟩:∃ y,l[i]? = some y:=⟨_,List.getElem?_eq_getElem hi⟩
  rw [visB_old hy,hy,Bool.and_comm]
 ·rw [List.filter_cons,visB_last,List.filter_nil]
theorem fm_filter {α β:Type} (f:α→Option β) (p:β→Bool) (q:α→Bool):∀ (l:List α),(∀ a∈l,∀ b,f a=some b→q a=p b)→(l.filter q).filterMap f=(l.filterMap f).filter p
 | [],_=>rfl
 | a :: r,h=>by
  have ih:=fm_filter f p q r fun b hb=>h b (by simp [hb])
  cases e:f a with
  | none =>
   rw [List.filterMap_cons_none e,List.filter_cons]
   split
   ·rw [List.filterMap_cons_none e,ih]
   ·exact ih
  | some b =>
   have hq:=h a (by simp) b e
   rw [List.filterMap_cons_some e,List.filter_cons,List.filter_cons,hq]
   split
   ·rw [List.filterMap_cons_some e,ih]
   ·exact ih
theorem fm_snoc {xs:List EC} {x:EC}:∀ {l:List Nat},(∀ i∈l,i < xs.length)→l.filterMap (fun i=>(xs++[x])[i]?)=l.filterMap (fun i=>xs[i]?):=fun {l} h=>by
 induction l with
 | nil=>rfl
 | cons a r ih =>
  have ha:=h a (by simp)
  obtain ⟨y,hy⟩:∃ y,xs[a]? = some y:=⟨_,List.getElem?_eq_getElem ha⟩
  have hy2:(xs++[x])[a]? = some y:=by rw [List.getElem?_append_left ha];exact hy
  rw [List.filterMap_cons_some (f:=fun i=>(xs++[x])[i]?) hy2,List.filterMap_cons_some (f:=fun i=>xs[i]?) hy,ih fun i hi=>h i (by simp [hi])]
theorem visX_snoc {xs:List EC} {x:EC} {k:Int} (h:chkX xs=0) (h2:chkX (xs++[x])=0):visX (xs++[x]) k=(visX xs k).filter (fun y=>!(decide (x.known≤k) && decide (y.key=x.key)))++if (!x.void && decide (x.known≤k))=true then [x] else []:=by
 unfold visX
 rw [if_pos h,if_pos h2]
 unfold visNE
 rw [List.map_append,List.map_cons,List.map_nil,visI_snoc,List.filterMap_append]
 congr 1
 ·refine (fm_snoc (xs:=xs) (x:=x) fun i hi=>visNE_mem (k:=k) (show i∈visNE xs k from (List.mem_filter.1 hi).1)).trans ?_
  refine fm_filter _ _ _ _ fun i hi y hy=>?_
  have hm:(xs.map mkE)[i]? = some (mkE y):=by rw [List.getElem?_map,hy];rfl
  rw [hm];rfl
 ·rw [List.length_map]
  show (if (!x.void && decide (x.known≤k))=true then [xs.length] else []).filterMap _=_
  split
  ·rw [List.filterMap_cons_some (b:=x) (by rw [List.getElem?_append_right (by omega),Nat.sub_self];rfl)];rfl
  ·rfl
def lastK (l:List MK) (k:Int):Int:=match l.getLast? with
 | some m=>m.known
 | none=>k
theorem chkF_snoc (m:MK):∀ (l:List MK) (k:Int),chkF k (l++[m])=(chkF k l && mkGood (lastK l k) m)
 | [],k=>by
  show chkF k [m]=(chkF k [] && mkGood k m)
  rw [chkF,chkF];simp [chkF]
 | y :: l,k=>by
  rw [List.cons_append,chkF,chkF_snoc m l,chkF,Bool.and_assoc]
  congr 2
  unfold lastK
  cases l with
  | nil=>rfl
  | cons z r =>
   rw [List.getLast?_cons_cons]
   cases hg:(z :: r).getLast? with
   | some m'=>rfl
   | none=>simp at hg
theorem fmA_snoc {xs:List AC} {x:AC}:∀ {l:List Nat},(∀ i∈l,i < xs.length)→l.filterMap (fun i=>(xs++[x])[i]?)=l.filterMap (fun i=>xs[i]?):=fun {l} h=>by
 induction l with
 | nil=>rfl
 | cons a r ih =>
  have ha:=h a (by simp)
  obtain ⟨y,hy⟩:∃ y,xs[a]? = some y:=⟨_,List.getElem?_eq_getElem ha⟩
  have hy2:(xs++[x])[a]? = some y:=by rw [List.getElem?_append_left ha];exact hy
  rw [List.filterMap_cons_some (f:=fun i=>(xs++[x])[i]?) hy2,List.filterMap_cons_some (f:=fun i=>xs[i]?) hy,ih fun i hi=>h i (by simp [hi])]
theorem visA_snoc {xs:List AC} {x:AC} {k:Int} (h:chkA xs=0) (h2:chkA (xs++[x])=0):visA (xs++[x]) k=(visA xs k).filter (fun y=>!(decide (x.known≤k) && decide (y.key=x.key)))++if (!x.void && decide (x.known≤k))=true then [x] else []:=by
 unfold visA
 rw [if_pos h,if_pos h2]
 unfold visN
 rw [List.map_append,List.map_cons,List.map_nil,visI_snoc,List.filterMap_append]
 congr 1
 ·refine (fmA_snoc (xs:=xs) (x:=x) fun i hi=>visN_mem (k:=k) (show i∈visN xs k from (List.mem_filter.1 hi).1)).trans ?_
  refine fm_filter _ _ _ _ fun i hi y hy=>?_
  have hm:(xs.map mkOf)[i]? = some (mkOf y):=by rw [List.getElem?_map,hy];rfl
  rw [hm];rfl
 ·rw [List.length_map]
  show (if (!x.void && decide (x.known≤k))=true then [xs.length] else []).filterMap _=_
  split
  ·rw [List.filterMap_cons_some (b:=x) (by rw [List.getElem?_append_right (by omega),Nat.sub_self];rfl)];rfl
  ·rfl
theorem ops_late {al B:List AC} {xs X:List EC} {day:Int} (hB:∀ b∈B,day < b.day) (hX:∀ x∈X,day < x.day):opsL (al++B) (xs++X) day=opsL al xs day:=by
 unfold opsL
 congr 1
 rw [List.map_append,List.map_append,List.filter_append,List.filter_append,List.filter_append,List.filter_append]
 have h1:(B.map (Sum.inl:AC→Ev)).filter (fun o=>decide (dayO o≤day))=[]:=List.filter_eq_nil_iff.2 fun o ho=>by
  obtain ⟨b,hb,rfl⟩:=List.mem_map.1 ho
  have:=hB b hb
  show ¬ decide (b.day≤day)=true
  rw [decide_eq_true_eq];omega
 have h2:(X.map (Sum.inr:EC→Ev)).filter (fun o=>decide (dayO o≤day))=[]:=List.filter_eq_nil_iff.2 fun o ho=>by
  obtain ⟨b,hb,rfl⟩:=List.mem_map.1 ho
  have:=hX b hb
  show ¬ decide (b.day≤day)=true
  rw [decide_eq_true_eq];omega
 rw [h1,h2,List.append_nil,List.append_nil]
theorem filter_keep {α:Type} {p:α→Bool} {l:List α} (h:∀ x∈l,p x=true):l.filter p=l:=List.filter_eq_self.2 h
theorem at_later {xs:List EC} {al:List AC} {x:EC} {b:AC} {k day:Int} (h1:chkX xs=0) (h2:chkX (xs++[x])=0) (h3:chkA al=0) (h4:chkA (al++[b])=0) (kx:∀ y∈xs,y.key≠x.key) (kb:∀ y∈al,y.key≠b.key) (hx:x.void=true∨k < x.known∨day < x.day) (hb:b.void=true∨k < b.known∨day < b.day):atP (xs++[x]) (al++[b]) k day=atP xs al k day:=by
 unfold atP
 rw [h1,h2,h3,h4]
 simp only [ne_eq,not_true_eq_false,if_false]
 rw [visX_snoc h1 h2,visA_snoc h3 h4]
 rw [filter_keep (l:=visX xs k) (fun y hy=>by rw [decide_eq_false (kx y (visX_ok y hy).1),Bool.and_false];rfl),filter_keep (l:=visA al k) (fun y hy=>by rw [decide_eq_false (kb y (visA_mem y hy).1),Bool.and_false];rfl)]
 rw [ops_late]
 ·intro b' hb'
  split at hb'
  ·rename_i hc
   simp only [List.mem_singleton] at hb'
   rw [hb']
   simp only [Bool.and_eq_true,Bool.not_eq_true',decide_eq_true_eq] at hc
   rcases hb with hb | hb | hb
   ·rw [hb] at hc;exact absurd hc.1 (by decide)
   ·omega
   ·exact hb
  ·cases hb'
 ·intro x' hx'
  split at hx'
  ·rename_i hc
   simp only [List.mem_singleton] at hx'
   rw [hx']
   simp only [Bool.and_eq_true,Bool.not_eq_true',decide_eq_true_eq] at hc
   rcases hx with hx | hx | hx
   ·rw [hx] at hc;exact absurd hc.1 (by decide)
   ·omega
   ·exact hx
  ·cases hx'
def totK (c:Bs):List (Ky×Int)→Int
 | []=>0
 | x :: r=>(if x.1.1=c then x.2 else 0)+totK c r
def sT (c:Bs):List EC→Int:=sumBy fun x=>if x.cur=c then x.amt else 0
structure RelS (n:Nat) (g1 g2:Led):Prop where
 o1:LedOk g1
 o2:LedOk g2
 h:g2.h=g1.h
 p:g2.p=[]
 t:∀ c,totK c g1.c+totK c g1.p=totK c g2.c
 b1:AmB n g1.c
 b2:AmB n g1.p
 b3:AmB n g2.c
theorem RelS.zero:RelS 0 .zero .zero:=⟨.zero,.zero,rfl,rfl,fun _=>rfl,.nil 0,.nil 0,.nil 0⟩
end Go.Proofs.YtekfkdddadcalaaGreatDoor
