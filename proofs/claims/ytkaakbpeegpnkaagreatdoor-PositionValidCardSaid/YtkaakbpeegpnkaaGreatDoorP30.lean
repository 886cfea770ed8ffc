/- lists with room, tails of lists, what At leaves. position.At. the laws comparisons of balances, entries, portfolios. the reference: finish; no condition. -/
import Derived.Test.YtkaakbpeegpnkaaGreatDoorP29
import Derived.Test.YtkaakbpeegpnkaaGreatDoorP24
set_option maxRecDepth 100000
set_option maxHeartbeats 4000000
namespace Go.Proofs.YtkaakbpeegpnkaaGreatDoor
open Go Go.RowKit Go.SX
def CapU (U:MemL):Prop:=∀ d v e sz n A,getM U d=some (Blk.own v e sz n A)→∃ a c,v=.slice a n c∧n≤c
theorem OwnC.caps8 {E:Env} {f:FuncId} {vs:List SV} {pre:MemL} {Q:Value→MemL→Prop} (h:OwnC E f vs pre Q):OwnC E f vs pre (fun r U=>Q r U∧CapU U) :=
 ⟨h.1,fun ρ w xs h1 h2=>(h.2 ρ w xs h1 h2).mono fun _e w' ⟨x,U,h3,h4,h5,h6⟩=>⟨x,U,h3,⟨h4,fun d v e sz n A hd=>by
  have h7:w'.ownsRow 0 e sz v n A.toList:=(h5.loose d _ hd rfl).2
  rcases h7.2 with ⟨h0,hn⟩ | ⟨g',cap',cur,hv,hb,hg,hnc,hcm,hcs,htake⟩
  ·exact ⟨none,0,by rw [h0,hn],by omega⟩
  ·exact ⟨_,cap',hv,hnc⟩⟩,h5,h6⟩⟩
def TailS (x:Value) (sz n i:Nat) (v:Value):Prop:=i≤n∧∃ a c,v=.slice a (n - i) c∧n - i≤c∧(i < n→∃ g c0,x=.slice (some ⟨g,0,none⟩) n c0∧a=some ⟨g,i*sz,none⟩)
theorem TailS.start {x:Value} {sz n:Nat} (h:IsL x n) (hc:∃ a c,x=.slice a n c∧n≤c):TailS x sz n 0 x:=by
 obtain ⟨a,c,rfl,hn⟩:=hc
 refine ⟨by omega,a,c,rfl,by omega,fun h0=>?_⟩
 rcases h with ⟨h1,h2⟩ | ⟨g,c0,h1⟩
 ·omega
 ·cases h1
  exact ⟨g,c,rfl,by rw [Nat.zero_mul]⟩
theorem TailS.next {x:Value} {sz n i c m:Nat} {a:Option Addr} (hz:sz≠0) (h:TailS x sz n i (.slice a m c)) (hi:i < n):TailS x sz n (i+1) (.slice (if c=1 then a else a.map (·.add (1*sz))) (m - 1) (c - 1)):=by
 obtain ⟨h1,a',c',h2,h3,h4⟩:=h
 cases h2
 refine ⟨by omega,_,_,rfl,by omega,fun h5=>?_⟩
 obtain ⟨g,c0,h6,rfl⟩:=h4 hi
 refine ⟨g,c0,h6,?_⟩
 rw [if_neg (by omega)]
 show some (Addr.add ⟨g,i*sz,none⟩ (1*sz))=_
 simp only [Addr.add,Nat.succ_mul,Nat.zero_mul,Nat.zero_add,if_neg hz]
theorem TailS.len {x v:Value} {sz n i:Nat} (h:TailS x sz n i v):∃ a c,v=.slice a (n - i) c:=by
 obtain ⟨-,a,c,h,-⟩:=h
 exact ⟨a,c,h⟩
theorem TailS.at {x v:Value} {sz n i:Nat} (h:TailS x sz n i v) (hi:i < n):∃ g c0 c,x=.slice (some ⟨g,0,none⟩) n c0∧v=.slice (some ⟨g,i*sz,none⟩) (n - i) c:=by
 obtain ⟨-,a,c,rfl,-,h4⟩:=h
 obtain ⟨g,c0,h5,rfl⟩:=h4 hi
 exact ⟨g,c0,c,h5,rfl⟩
theorem elem_is18 {P:Program} {t e:TypeId} (hu:P.underlying t=some (.slice e)):P.elem t=e:=by simp [Program.elem,hu]
theorem runs_lo18 {E:VE} (hE:VOk E) {t e:TypeId} (hu:E.P.underlying t=some (.slice e)) {j:TI} (hj:E.tt e=some j) {a:Option Addr} {n cap:Nat} {k:IntKind} {x:Int} (i:Nat) (hx:x=i) (hi:i≤n):Runs E.toEnv (Instr.sliceAt t (.slice a n cap) (some (.int k x)) none none) (.slice (if cap=i then a else a.map (·.add (i*j.size))) (n - i) (cap - i)):=fun w _=>by
 subst hx
 have he:=elem_is18 hu
 have hu2:E.P.underlying t=some (.slice (E.P.elem t)):=by rw [he];exact hu
 rw [run_sliceAt_slice _ t _ _ _ _ hu2,run_slice_l _ t a n cap hu2 k i (by omega) (by omega),he,Go.SX.run_sizeOf (hE _ j hj)]
 simp only [Result.andThen_ok,sliced,Int.toNat_natCast]
theorem runs_hi18 {E:VE} (hE:VOk E) {t e:TypeId} (hu:E.P.underlying t=some (.slice e)) {j:TI} (hj:E.tt e=some j) {a:Option Addr} {n cap:Nat} {k:IntKind} {x:Int} (i:Nat) (hx:x=i) (hi:i≤cap):Runs E.toEnv (Instr.sliceAt t (.slice a n cap) none (some (.int k x)) none) (.slice a i cap):=fun w _=>by
 subst hx
 have he:=elem_is18 hu
 have hu2:E.P.underlying t=some (.slice (E.P.elem t)):=by rw [he];exact hu
 rw [run_sliceAt_slice _ t _ _ _ _ hu2,run_slice_h _ t a n cap hu2 k i (by omega) (by omega),he,Go.SX.run_sizeOf (hE _ j hj)]
 simp only [Result.andThen_ok,sliced,Int.toNat_natCast,Nat.zero_mul,Nat.sub_zero]
 congr 2
 split
 ·rfl
 ·cases a with
  | none=>rfl
  | some a=>simp [Addr.add]
def AtQ (R:Led×Int) (r:Value) (U:MemL):Prop:=∃ xh xc xp,IsL xh R.1.h.length∧IsL xc R.1.c.length∧IsL xp R.1.p.length∧r=.tuple #[.agg #[xh,xc,xp],.int .i64 R.2]∧U=[(9506,Blk.own xh 90 2 R.1.h.length (cat sumA R.1.h)),(9507,Blk.own xc 85 3 R.1.c.length (cat sumK R.1.c)),(9508,Blk.own xp 85 3 R.1.p.length (cat sumK R.1.p))]
theorem AtQ.bad (e:Int):AtQ (.zero,e) (.tuple #[.agg #[.slice none 0 0,.slice none 0 0,.slice none 0 0],.int .i64 e]) [(9506,Blk.own (.slice none 0 0) 90 2 0 #[]),(9507,Blk.own (.slice none 0 0) 85 3 0 #[]),(9508,Blk.own (.slice none 0 0) 85 3 0 #[])] :=
 ⟨.slice none 0 0,.slice none 0 0,.slice none 0 0,.nil,.nil,.nil,rfl,rfl⟩
theorem day_ok {a:AC} (h:validA a=true):0≤a.day∧a.day≤73048:=by
 unfold validA at h
 simp only [Bool.and_eq_true] at h
 obtain ⟨-,h⟩:=h
 split at h
 ·unfold AC.beq AC.nil at h
  simp only [Bool.and_eq_true,beq_iff_eq] at h
  have:=h.2.2.2.2.1
  omega
 ·simp only [Bool.and_eq_true,bodyOk,Bool.not_eq_true',decide_eq_false_iff_not] at h
  omega
theorem visX_len {xs:List EC} {k:Int} (h:chkX xs=0):(visX xs k).length≤4096:=by
 unfold visX
 rw [if_pos h,fm_lenE fun i hi=>visNE_mem hi]
 have h1:=visNE_len xs k
 have h2:=(chkX_zero h).2
 omega
theorem visA_len {al:List AC} {k:Int} (h:chkA al=0):(visA al k).length≤4096:=by
 unfold visA
 rw [if_pos h,fm_len fun i hi=>visN_mem hi]
 have h1:=visN_len al k
 have h2:=(chkA_zero h).2
 omega
theorem offA0 (i:Nat):offAt (i*76) 0 ti61.size=i*76:=by
 show offAt (i*76) 0 76=i*76
 simp [offAt]
theorem offX0 (i:Nat):offAt (i*10) 0 ti47.size=i*10:=by
 show offAt (i*10) 0 10=i*10
 simp [offAt]
theorem at_z {E:Env} (hE:E.P=Tryz.prog) {ve va:Value} {xs:List EC} {al:List AC} {k day:Int} (hv:Lst E ve 10 xs.length (cat EC.A xs)) (hva:Lst E va 76 al.length (cat AC.A al)) (hn:xs.length≤2000000000000) (hm:al.length≤1000000000000) (hin:∀ y∈xs,y.In) (hina:∀ y∈al,y.In):OwnC E 7 [SV.c ve,SV.c va,SV.c (.int .i64 k),SV.c (.int .i64 day)] [] (AtQ (atP xs al k day)):=by
 refine sx_ownC [21,23] tt_ok mixed at7 E hE [SV.c ve,SV.c va,SV.c (.int .i64 k),SV.c (.int .i64 day)] [] _ rfl rfl fun w X β hT=>?_
 have hv':=hv.of_old hT
 have hva':=hva.of_old hT
 have C1:=OwnC.caps8 (vis_e (E:=(envC Tryz.prog tt Tryz.f7.ntmps w X (tiedK [] β) [21,23]).toEnv) (k:=k) rfl hv' hn hin)
 have C2:=OwnC.caps8 (vis_za (E:=(envC Tryz.prog tt Tryz.f7.ntmps w X (tiedK [] β) [21,23]).toEnv) (k:=k) rfl hva' hm hina)
 refine .inr (.inr (.inr ⟨[],[3000],[_,_],[],_,C1,rfl,trivial,rfl,trivial,?_⟩))
 rintro r U ⟨⟨sx,nx,hsx,rfl,hx,rfl⟩,hcx⟩
 refine ⟨rfl,?_⟩
 have bad:∀ e:Int,atP xs al k day=(.zero,e)→AtQ (atP xs al k day) (.tuple #[.agg #[.slice none 0 0,.slice none 0 0,.slice none 0 0],.int .i64 e]) [(9506,Blk.own (.slice none 0 0) 90 2 0 #[]),(9507,Blk.own (.slice none 0 0) 85 3 0 #[]),(9508,Blk.own (.slice none 0 0) 85 3 0 #[])]:=fun e h=>by
  rw [h];exact AtQ.bad e
 refine ⟨fun h=>?_,fun h=>?_⟩
 ·have h:(chkX xs != 0)=true:=h
  have h:chkX xs≠0:=by simpa using h
  have hP:atP xs al k day=(.zero,chkX xs):=by unfold atP;rw [if_pos h]
  refine ⟨_,rfl,nil3_fits,?_⟩
  exact ⟨_,[],bad _ hP,⟨.inr ⟨rfl,rfl,rfl⟩,.inr ⟨rfl,rfl,rfl⟩,.inr ⟨rfl,rfl,rfl⟩,trivial⟩,rfl⟩
 have h:(chkX xs != 0)=false:=h
 have hX:chkX xs=0:=by simpa using h
 refine .inr (.inr (.inr ⟨[(3000,3001)],[3001],[_,_],[],_,C2,rfl,trivial,rfl,trivial,?_⟩))
 rintro r U ⟨⟨sa,na,hsa,rfl,ha,rfl⟩,hca⟩
 refine ⟨rfl,?_⟩
 refine ⟨fun h=>?_,fun h=>?_⟩
 ·have h:(chkA al != 0)=true:=h
  have h:chkA al≠0:=by simpa using h
  have hP:atP xs al k day=(.zero,chkA al):=by unfold atP;rw [if_neg (fun h=>h hX),if_pos h]
  refine ⟨_,rfl,nil3_fits,?_⟩
  exact ⟨_,[],bad _ hP,⟨.inr ⟨rfl,rfl,rfl⟩,.inr ⟨rfl,rfl,rfl⟩,.inr ⟨rfl,rfl,rfl⟩,trivial⟩,rfl⟩
 have h:(chkA al != 0)=false:=h
 have hA:chkA al=0:=by simpa using h
 refine .inl ⟨_,within_p day 0 73048,fun h=>?_,fun h=>?_⟩
 ·have h:(!(inB day 0 73048))=true:=h
  have h:inB day 0 73048=false:=by simpa using h
  have hP:atP xs al k day=(.zero,50):=by unfold atP;rw [if_neg (fun h=>h hX),if_neg (fun h=>h hA),if_pos h]
  refine ⟨_,rfl,nil3_fits,?_⟩
  exact ⟨_,[],bad _ hP,⟨.inr ⟨rfl,rfl,rfl⟩,.inr ⟨rfl,rfl,rfl⟩,.inr ⟨rfl,rfl,rfl⟩,trivial⟩,rfl⟩
 have h:(!(inB day 0 73048))=false:=h
 have hD:inB day 0 73048=true:=by simpa using h
 have hP:atP xs al k day=finL (runL day .zero (opsL (visA al k) (visX xs k) day)):=by unfold atP;rw [if_neg (fun h=>h hX),if_neg (fun h=>h hA),if_neg (by rw [hD];decide)]
 have dX:dayIne (visX xs k):=fun z hz=>(visX_ok z hz).2.d
 have dA:dayIna (visA al k):=fun z hz=>day_ok (visA_mem z hz).2
 have nX:nx≤4096:=by rw [hsx];exact visX_len hX
 have nA:na≤4096:=by rw [hsa];exact visA_len hA
 have hcx:=hcx 3000 _ _ _ _ _ rfl
 have hca:=hca 3000 _ _ _ _ _ rfl
 have S1:=sortS_e (E:=(envC Tryz.prog tt Tryz.f7.ntmps w X (tiedK [] β) [21,23]).toEnv) rfl hx hsx (by omega) dX
 have S2:=sortS_a (E:=(envC Tryz.prog tt Tryz.f7.ntmps w X (tiedK [] β) [21,23]).toEnv) rfl ha hsa (by omega) dA
 refine .inr (.inr (.inl ⟨[(6000,3000)],[_,_],[_],_,[_],S1,rfl,⟨.inl rfl,trivial⟩,rfl,rfl,?_⟩))
 refine .inr (.inr (.inl ⟨[(6000,3001)],[_,_],[_],_,[_],S2,rfl,⟨.inl rfl,trivial⟩,rfl,rfl,?_⟩))
 refine ⟨#[fnW 28,.slice none 0 0],rfl,#[fnW 29,.slice none 0 0],rfl,#[fnW 29,.slice none 0 0],rfl,LdA (.slice none 0 0) (.slice none 0 0) (.slice none 0 0) day,rfl,?_⟩
 have sA:Srt AC.day (stabK AC.day (visA al k)):=(stabK_stab AC.day _).srt
 have sX:Srt EC.day (stabK EC.day (visX xs k)):=(stabK_stab EC.day _).srt
 have lA:(stabK AC.day (visA al k)).length=na:=by rw [(stabK_stab AC.day _).len];exact hsa.symm
 have lX:(stabK EC.day (visX xs k)).length=nx:=by rw [(stabK_stab EC.day _).len];exact hsx.symm
 have mA:∀ a∈stabK AC.day (visA al k),a.In:=fun a h=>hina a (visA_mem a ((stabK_stab AC.day _).perm.mem_iff.1 h)).1
 have mX:∀ x∈stabK EC.day (visX xs k),EOk x:=fun x h=>(visX_ok x ((stabK_stab EC.day _).perm.mem_iff.1 h)).2
 rw [← rest_all] at hP
 generalize stabK AC.day (visA al k)=A at sA lA mA hP ⊢
 generalize stabK EC.day (visX xs k)=B at sX lX mX hP ⊢
 refine ⟨rfl,fun f m=>∃ (g:Led) (vh vc vp:Value),IsL vh g.h.length∧IsL vc g.c.length∧IsL vp g.p.length∧(g.h.length≤16384∧g.c.length≤8192∧g.p.length≤8192)∧atP xs al k day=pfL g∧f=[(8,SV.ptr 8 0),(13,SV.ptr 48 0)]∧m=[(8,Blk.row 30 3 #[.slice none 0 0,.slice none 0 0,.slice none 0 0]),(48,Blk.row 73 7 (LdA vh vc vp day)),(9501,Blk.own vh 120 2 (g.h).length (cat sumA g.h)),(9504,Blk.own vc 163 3 (g.c).length (cat sumK g.c)),(9505,Blk.own vp 163 3 (g.p).length (cat sumK g.p))],?_,?_⟩
 rotate_left
 ·rintro f1 m1 ⟨g,vh,vc,vp,hh,hc,hp,hl,hF,rfl,rfl⟩
  have PO:=portfolio_z (E:=(envC Tryz.prog tt Tryz.f7.ntmps w X (tiedK [] β) [21,23]).toEnv) (day:=day) rfl hh hc hp (by omega)
  refine .inr (.inr (.inr ⟨[(9500,48)],[9506,9507,9508],[_],[_,_,_,_],_,PO,rfl,⟨.inl rfl,.inl rfl,.inl rfl,rfl,trivial⟩,rfl,trivial,?_⟩))
  rintro r U ⟨xh,xc,xp,q1,q2,q3,rfl,rfl⟩
  refine ⟨by kernel_rfl,?_⟩
  have Q:AtQ (atP xs al k day) (.tuple #[.agg #[xh,xc,xp],.int .i64 (pfL g).2]) [(9506,Blk.own xh 90 2 (pfL g).1.h.length (cat sumA (pfL g).1.h)),(9507,Blk.own xc 85 3 (pfL g).1.c.length (cat sumK (pfL g).1.c)),(9508,Blk.own xp 85 3 (pfL g).1.p.length (cat sumK (pfL g).1.p))]:=by
   rw [hF];exact ⟨xh,xc,xp,q1,q2,q3,rfl,rfl⟩
  exact ⟨fits3 (isL_one q1) (isL_one q2) (isL_one q3),_,[],Q,⟨.inl rfl,.inl rfl,.inl rfl,trivial⟩,rfl⟩
 refine ⟨fun q f m=>∃ (i j:Nat) (va' vx':Value) (g:Led) (vh vc vp:Value),q=(na - i)+(nx - j)∧TailS sa 76 na i va'∧TailS sx 10 nx j vx'∧LedOk g∧IsL vh g.h.length∧IsL vc g.c.length∧IsL vp g.p.length∧(g.h.length≤2*(i+j)∧g.c.length≤i+j∧g.p.length≤i+j)∧runL day .zero (restL day A B)=runL day g (restL day (A.drop i) (B.drop j))∧f=[(3,SV.c (.int .i64 day)),(8,SV.ptr 8 0),(10,SV.c vx'),(12,SV.c va'),(13,SV.ptr 48 0)]∧m=[(8,Blk.row 30 3 #[.slice none 0 0,.slice none 0 0,.slice none 0 0]),(3000,Blk.own sx 47 10 nx (cat EC.A B)),(3001,Blk.own sa 61 76 na (cat AC.A A)),(48,Blk.row 73 7 (LdA vh vc vp day)),(9501,Blk.own vh 120 2 (g.h).length (cat sumA g.h)),(9504,Blk.own vc 163 3 (g.c).length (cat sumK g.c)),(9505,Blk.own vp 163 3 (g.p).length (cat sumK g.p))],na+nx,⟨_,_,⟨0,0,sa,sx,.zero,.slice none 0 0,.slice none 0 0,.slice none 0 0,by omega,.start ha hca,.start hx hcx,.zero,.nil,.nil,.nil,⟨by decide,by decide,by decide⟩,rfl,rfl,rfl⟩,⟨rfl,rfl,rfl,rfl,rfl,trivial⟩,⟨rfl,.inl rfl,.inl rfl,rfl,.inr ⟨rfl,rfl,rfl⟩,.inr ⟨rfl,rfl,rfl⟩,.inr ⟨rfl,rfl,rfl⟩,trivial⟩,rfl⟩,?_⟩
 rintro q f m ⟨i,j,va',vx',g,vh,vc,vp,rfl,ta,tx,hg,hh,hc,hp,hl,hR,rfl,rfl⟩
 obtain ⟨aa,ac,rfl⟩:=ta.len
 obtain ⟨xa,xc,rfl⟩:=tx.len
 refine ⟨_,fun w' _=>run_len_sl Tryz.underlying23 w',?_⟩
 refine ⟨fun c=>?_,fun c=>?_⟩
 ·have ci:i=na:=by have:=of_decide_eq_false (show decide (((na - i:Nat):Int) > 0)=false from c);have:=ta.1;omega
  refine ⟨_,fun w' _=>run_len_sl Tryz.underlying22 w',?_⟩
  refine ⟨fun c1=>?_,fun c1=>?_⟩
  ·have cj:j < nx:=by have:=of_decide_eq_true (show decide (((nx - j:Nat):Int) > 0)=true from c1);omega
   refine ⟨fun f m=>∃ (i2 j2:Nat) (va2 vx2:Value) (g2:Led) (wh wc wp:Value) (e:Int),i2+j2=i+j+1∧TailS sa 76 na i2 va2∧TailS sx 10 nx j2 vx2∧IsL wh g2.h.length∧IsL wc g2.c.length∧IsL wp g2.p.length∧((e≠0∧runL day g (restL day (A.drop i) (B.drop j))=.error e)∨(e=0∧LedOk g2∧(g2.h.length≤2*(i2+j2)∧g2.c.length≤i2+j2∧g2.p.length≤i2+j2)∧runL day g (restL day (A.drop i) (B.drop j))=runL day g2 (restL day (A.drop i2) (B.drop j2))))∧f=[(3,SV.c (.int .i64 day)),(8,SV.ptr 8 0),(10,SV.c vx2),(12,SV.c va2),(13,SV.ptr 48 0),(14,SV.c (.int .i64 e))]∧m=[(8,Blk.row 30 3 #[.slice none 0 0,.slice none 0 0,.slice none 0 0]),(3000,Blk.own sx 47 10 nx (cat EC.A B)),(3001,Blk.own sa 61 76 na (cat AC.A A)),(48,Blk.row 73 7 (LdA wh wc wp day)),(9501,Blk.own wh 120 2 (g2.h).length (cat sumA g2.h)),(9504,Blk.own wc 163 3 (g2.c).length (cat sumK g2.c)),(9505,Blk.own wp 163 3 (g2.p).length (cat sumK g2.p))],?_,?_⟩
   rotate_left
   ·rintro f1 m1 ⟨i2,j2,va2,vx2,g2,wh,wc,wp,e,hij,ta2,tx2,hh2,hc2,hp2,hE2,rfl,rfl⟩
    refine ⟨fun c=>?_,fun c=>?_⟩
    ·have c:(e != 0)=true:=c
     have c:e≠0:=by simpa using c
     rcases hE2 with ⟨-,hE2⟩ | ⟨hE2,-⟩
     ·refine ⟨_,rfl,nil3_fits,?_⟩
      exact ⟨_,[],bad e (by rw [hP,hR,hE2];rfl),⟨.inr ⟨rfl,rfl,rfl⟩,.inr ⟨rfl,rfl,rfl⟩,.inr ⟨rfl,rfl,rfl⟩,trivial⟩,rfl⟩
     ·exact absurd hE2 c
    ·have c:(e != 0)=false:=c
     have c:e=0:=by simpa using c
     rcases hE2 with ⟨hE2,-⟩ | ⟨-,hg2,hl2,hE2⟩
     ·exact absurd c hE2
     ·have t1:=ta2.1
      have t2:=tx2.1
      have t3:=ta.1
      have t4:=tx.1
      exact ⟨(na - i2)+(nx - j2),_,_,by omega,⟨i2,j2,va2,vx2,g2,wh,wc,wp,rfl,ta2,tx2,hg2,hh2,hc2,hp2,hl2,by rw [hR,hE2],rfl,rfl⟩,⟨rfl,rfl,rfl,rfl,rfl,trivial⟩,⟨rfl,.inl rfl,.inl rfl,rfl,.inl rfl,.inl rfl,.inl rfl,trivial⟩,rfl⟩
   obtain ⟨x,hx0⟩:∃ x,B[j]? = some x:=⟨_,List.getElem?_eq_getElem (show j < B.length by omega)⟩
   obtain ⟨gX,cX0,cX1,rfl,hvx2⟩:=tx.at cj
   cases hvx2
   have hdx:=drop_at hx0
   have LX:(cat EC.A B)[j*10+2]? = some (.int .i64 x.day):=(cat_get EC.size B j x 2 hx0 (by decide)).trans x.g2
   have hhead:∀ z,(A.drop i)[0]? = some z→¬ z.day≤x.day:=fun z hz=>by rw [List.drop_eq_nil_of_le (by omega)] at hz;cases hz
   refine ⟨_,fun w' _=>run_len_sl Tryz.underlying22 w',?_⟩
   refine ⟨fun _=>?_,fun c3=>absurd c3 (by simp only [beq_iff_eq,Bool.not_false];omega)⟩
   refine ⟨_,fun w' _=>run_len_sl Tryz.underlying23 w',?_⟩
   refine ⟨fun c4=>absurd c4 (by rw [decide_eq_false (by omega)];decide),fun _=>?_⟩
   refine ⟨by kernel_rfl,nofun,fun _=>?_⟩
   refine ⟨by omega,by omega,.inr ⟨3000,gX,_,nx,cX0,_,_,_,rfl,rfl,_,(by rw [offX0];exact LX),?_⟩⟩
   refine ⟨fun c2=>?_,fun c2=>?_⟩
   ·have c2:day < x.day:=of_decide_eq_true c2
    have hE3:restL day (A.drop i) (B.drop j)=[]:=by
     rw [hdx];exact rest_end sA.drop (by rw [← hdx];exact sX.drop) (merge_x hhead) c2
    exact ⟨_,_,⟨g,vh,vc,vp,hh,hc,hp,by omega,by rw [hP,hR,hE3];rfl,rfl,rfl⟩,⟨rfl,rfl,trivial⟩,⟨rfl,rfl,.inl rfl,.inl rfl,.inl rfl,trivial⟩,rfl⟩
   ·have c2:¬ day < x.day:=of_decide_eq_false c2
    have hE3:restL day (A.drop i) (B.drop j)=.inr x :: restL day (A.drop i) (B.drop (j+1)):=by
     rw [hdx];exact rest_x hhead (by omega)
    have AO:=enter_z (E:=(envC Tryz.prog tt Tryz.f7.ntmps w X (tiedK [] β) [21,23]).toEnv) (day:=day) rfl hg hh hc hp (by omega) (mX x (List.mem_of_getElem? hx0)).q
    have EA:=cat_extract EC.size hx0
    have hszX:(cat EC.A B).size=nx*10:=by rw [Go.SX.cat_size EC.size,lX]
    generalize x.A=AA at AO EA
    refine ⟨by omega,by omega,.inr ⟨3000,gX,_,nx,cX0,_,_,_,rfl,rfl,(by rw [offX0,hszX];show j*10+10≤nx*10;omega),AA,(by rw [offX0];exact EA),?_⟩⟩
    refine .inr (.inr (.inr ⟨[(9500,48)],[],[_,_],[_,_,_,_],_,AO,rfl,⟨.inl rfl,.inl rfl,.inl rfl,rfl,trivial⟩,by kernel_rfl,trivial,?_⟩))
    rintro r U ⟨g2,wh,wc,wp,k1,k2,k3,rfl,hM⟩
    refine ⟨by kernel_rfl,_,runs_lo18 (E:=(envC Tryz.prog tt Tryz.f7.ntmps w X (tiedK [] β) [21,23])) tt_ok Tryz.underlying22 (j:=ti47) rfl 1 rfl (by omega),?_⟩
    have hrun:runL day g (restL day (A.drop i) (B.drop j))=match entL day g x with
     | .error e=>.error e
     | .ok g'=>runL day g' (restL day (A.drop i) (B.drop (j+1))):=by rw [hE3];rfl
    have tn:=tx.next (by decide) cj
    cases hS:entL day g x with
    | error e =>
     rw [hS] at hM hrun
     obtain ⟨rfl,he⟩:=hM
     exact ⟨_,_,⟨i,j+1,_,_,g2,wh,wc,wp,e,by omega,ta,tn,k1,k2,k3,.inl ⟨he,hrun⟩,rfl,rfl⟩,⟨rfl,rfl,rfl,rfl,rfl,rfl,trivial⟩,⟨rfl,.inl rfl,.inl rfl,rfl,.inl rfl,.inl rfl,.inl rfl,trivial⟩,rfl⟩
    | ok g' =>
     rw [hS] at hM hrun
     obtain ⟨rfl,rfl⟩:=hM
     obtain ⟨s1,s2,s3,s4⟩:=ent_okL hg hS
     exact ⟨_,_,⟨i,j+1,_,_,g2,wh,wc,wp,0,by omega,ta,tn,k1,k2,k3,.inr ⟨rfl,s1,⟨by omega,by omega,by omega⟩,hrun⟩,rfl,rfl⟩,⟨rfl,rfl,rfl,rfl,rfl,rfl,trivial⟩,⟨rfl,.inl rfl,.inl rfl,rfl,.inl rfl,.inl rfl,.inl rfl,trivial⟩,rfl⟩
  ·have cj:j=nx:=by have:=of_decide_eq_false (show decide (((nx - j:Nat):Int) > 0)=false from c1);have:=tx.1;omega
   have hE3:restL day (A.drop i) (B.drop j)=[]:=by
    rw [List.drop_eq_nil_of_le (by omega),List.drop_eq_nil_of_le (by omega)];exact rest_nil day
   exact ⟨_,_,⟨g,vh,vc,vp,hh,hc,hp,by omega,by rw [hP,hR,hE3];rfl,rfl,rfl⟩,⟨rfl,rfl,trivial⟩,⟨rfl,rfl,.inl rfl,.inl rfl,.inl rfl,trivial⟩,rfl⟩
 ·have ci:i < na:=by have:=of_decide_eq_true (show decide (((na - i:Nat):Int) > 0)=true from c);omega
  refine ⟨fun _=>?_,nofun⟩
  refine ⟨fun f m=>∃ (i2 j2:Nat) (va2 vx2:Value) (g2:Led) (wh wc wp:Value) (e:Int),i2+j2=i+j+1∧TailS sa 76 na i2 va2∧TailS sx 10 nx j2 vx2∧IsL wh g2.h.length∧IsL wc g2.c.length∧IsL wp g2.p.length∧((e≠0∧runL day g (restL day (A.drop i) (B.drop j))=.error e)∨(e=0∧LedOk g2∧(g2.h.length≤2*(i2+j2)∧g2.c.length≤i2+j2∧g2.p.length≤i2+j2)∧runL day g (restL day (A.drop i) (B.drop j))=runL day g2 (restL day (A.drop i2) (B.drop j2))))∧f=[(3,SV.c (.int .i64 day)),(8,SV.ptr 8 0),(10,SV.c vx2),(12,SV.c va2),(13,SV.ptr 48 0),(14,SV.c (.int .i64 e))]∧m=[(8,Blk.row 30 3 #[.slice none 0 0,.slice none 0 0,.slice none 0 0]),(3000,Blk.own sx 47 10 nx (cat EC.A B)),(3001,Blk.own sa 61 76 na (cat AC.A A)),(48,Blk.row 73 7 (LdA wh wc wp day)),(9501,Blk.own wh 120 2 (g2.h).length (cat sumA g2.h)),(9504,Blk.own wc 163 3 (g2.c).length (cat sumK g2.c)),(9505,Blk.own wp 163 3 (g2.p).length (cat sumK g2.p))],?_,?_⟩
  rotate_left
  ·rintro f1 m1 ⟨i2,j2,va2,vx2,g2,wh,wc,wp,e,hij,ta2,tx2,hh2,hc2,hp2,hE2,rfl,rfl⟩
   refine ⟨fun c=>?_,fun c=>?_⟩
   ·have c:(e != 0)=true:=c
    have c:e≠0:=by simpa using c
    rcases hE2 with ⟨-,hE2⟩ | ⟨hE2,-⟩
    ·refine ⟨_,rfl,nil3_fits,?_⟩
     exact ⟨_,[],bad e (by rw [hP,hR,hE2];rfl),⟨.inr ⟨rfl,rfl,rfl⟩,.inr ⟨rfl,rfl,rfl⟩,.inr ⟨rfl,rfl,rfl⟩,trivial⟩,rfl⟩
    ·exact absurd hE2 c
   ·have c:(e != 0)=false:=c
    have c:e=0:=by simpa using c
    rcases hE2 with ⟨hE2,-⟩ | ⟨-,hg2,hl2,hE2⟩
    ·exact absurd c hE2
    ·have t1:=ta2.1
     have t2:=tx2.1
     have t3:=ta.1
     have t4:=tx.1
     exact ⟨(na - i2)+(nx - j2),_,_,by omega,⟨i2,j2,va2,vx2,g2,wh,wc,wp,rfl,ta2,tx2,hg2,hh2,hc2,hp2,hl2,by rw [hR,hE2],rfl,rfl⟩,⟨rfl,rfl,rfl,rfl,rfl,trivial⟩,⟨rfl,.inl rfl,.inl rfl,rfl,.inl rfl,.inl rfl,.inl rfl,trivial⟩,rfl⟩
  refine ⟨_,fun w' _=>run_len_sl Tryz.underlying22 w',?_⟩
  obtain ⟨a,ha0⟩:∃ a,A[i]? = some a:=⟨_,List.getElem?_eq_getElem (show i < A.length by omega)⟩
  obtain ⟨gA,cA0,cA1,rfl,hva2⟩:=ta.at ci
  cases hva2
  have hda:=drop_at ha0
  refine ⟨fun c=>?_,fun c=>?_⟩
  ·have cj:j < nx:=by have c:((((nx - j:Nat):Int)) == 0)=false:=c;simp only [beq_eq_false_iff_ne] at c;omega
   obtain ⟨x,hx0⟩:∃ x,B[j]? = some x:=⟨_,List.getElem?_eq_getElem (show j < B.length by omega)⟩
   obtain ⟨gX,cX0,cX1,rfl,hvx2⟩:=tx.at cj
   cases hvx2
   have hdx:=drop_at hx0
   refine ⟨_,fun w' _=>run_len_sl Tryz.underlying23 w',fun _=>?_,fun c=>absurd c (by rw [decide_eq_true (by omega)];decide)⟩
   have LA:(cat AC.A A)[i*76+4]? = some (.int .i64 a.day):=(cat_get AC.size A i a 4 ha0 (by decide)).trans a.g4
   have LX:(cat EC.A B)[j*10+2]? = some (.int .i64 x.day):=(cat_get EC.size B j x 2 hx0 (by decide)).trans x.g2
   refine ⟨by omega,by omega,.inr ⟨3001,gA,_,na,cA0,_,_,_,rfl,rfl,_,(by rw [offA0];exact LA),?_⟩⟩
   refine ⟨by omega,by omega,.inr ⟨3000,gX,_,nx,cX0,_,_,_,rfl,rfl,_,(by rw [offX0];exact LX),?_⟩⟩
   refine ⟨by kernel_rfl,fun c1=>?_,fun c1=>?_⟩
   ·have c1:a.day≤x.day:=of_decide_eq_true c1
    have hhead:∀ z,(B.drop j)[0]? = some z→a.day≤z.day:=fun z hz=>by rw [hdx] at hz;cases hz;exact c1
    refine ⟨by omega,by omega,.inr ⟨3001,gA,_,na,cA0,_,_,_,rfl,rfl,_,(by rw [offA0];exact LA),?_⟩⟩
    refine ⟨fun c2=>?_,fun c2=>?_⟩
    ·have c2:day < a.day:=of_decide_eq_true c2
     have hE3:restL day (A.drop i) (B.drop j)=[]:=by
      rw [hda];exact rest_end (by rw [← hda];exact sA.drop) sX.drop (merge_a hhead) c2
     exact ⟨_,_,⟨g,vh,vc,vp,hh,hc,hp,by omega,by rw [hP,hR,hE3];rfl,rfl,rfl⟩,⟨rfl,rfl,trivial⟩,⟨rfl,rfl,.inl rfl,.inl rfl,.inl rfl,trivial⟩,rfl⟩
    ·have c2:¬ day < a.day:=of_decide_eq_false c2
     have hE3:restL day (A.drop i) (B.drop j)=.inl a :: restL day (A.drop (i+1)) (B.drop j):=by
      rw [hda];exact rest_a hhead (by omega)
     have AO:=act_z (E:=(envC Tryz.prog tt Tryz.f7.ntmps w X (tiedK [] β) [21,23]).toEnv) (day:=day) rfl hg hh hc hp (by omega) (mA a (List.mem_of_getElem? ha0))
     have EA:=cat_extract AC.size ha0
     have hszA:(cat AC.A A).size=na*76:=by rw [Go.SX.cat_size AC.size,lA]
     generalize a.A=AA at AO EA
     refine ⟨by omega,by omega,.inr ⟨3001,gA,_,na,cA0,_,_,_,rfl,rfl,(by rw [offA0,hszA];show i*76+76≤na*76;omega),AA,(by rw [offA0];exact EA),?_⟩⟩
     refine .inr (.inr (.inr ⟨[(9500,48)],[],[_,_],[_,_,_,_],_,AO,rfl,⟨.inl rfl,.inl rfl,.inl rfl,rfl,trivial⟩,by kernel_rfl,trivial,?_⟩))
     rintro r U ⟨g2,wh,wc,wp,k1,k2,k3,rfl,hM⟩
     refine ⟨by kernel_rfl,_,runs_lo18 (E:=(envC Tryz.prog tt Tryz.f7.ntmps w X (tiedK [] β) [21,23])) tt_ok Tryz.underlying23 (j:=ti61) rfl 1 rfl (by omega),?_⟩
     have hrun:runL day g (restL day (A.drop i) (B.drop j))=match actL g a with
      | .error e=>.error e
      | .ok g'=>runL day g' (restL day (A.drop (i+1)) (B.drop j)):=by rw [hE3];rfl
     have tn:=ta.next (by decide) ci
     cases hS:actL g a with
     | error e =>
      rw [hS] at hM hrun
      obtain ⟨rfl,he⟩:=hM
      exact ⟨_,_,⟨i+1,j,_,_,g2,wh,wc,wp,e,by omega,tn,tx,k1,k2,k3,.inl ⟨he,hrun⟩,rfl,rfl⟩,⟨rfl,rfl,rfl,rfl,rfl,rfl,trivial⟩,⟨rfl,.inl rfl,.inl rfl,rfl,.inl rfl,.inl rfl,.inl rfl,trivial⟩,rfl⟩
     | ok g' =>
      rw [hS] at hM hrun
      obtain ⟨rfl,rfl⟩:=hM
      obtain ⟨s1,s2,s3,s4⟩:=act_okL hg hS
      exact ⟨_,_,⟨i+1,j,_,_,g2,wh,wc,wp,0,by omega,tn,tx,k1,k2,k3,.inr ⟨rfl,s1,⟨by omega,by omega,by rw [s4];omega⟩,hrun⟩,rfl,rfl⟩,⟨rfl,rfl,rfl,rfl,rfl,rfl,trivial⟩,⟨rfl,.inl rfl,.inl rfl,rfl,.inl rfl,.inl rfl,.inl rfl,trivial⟩,rfl⟩
   ·have c1:¬ a.day≤x.day:=of_decide_eq_false c1
    have hhead:∀ z,(A.drop i)[0]? = some z→¬ z.day≤x.day:=fun z hz=>by rw [hda] at hz;cases hz;exact c1
    refine ⟨by omega,by omega,.inr ⟨3000,gX,_,nx,cX0,_,_,_,rfl,rfl,_,(by rw [offX0];exact LX),?_⟩⟩
    refine ⟨fun c2=>?_,fun c2=>?_⟩
    ·have c2:day < x.day:=of_decide_eq_true c2
     have hE3:restL day (A.drop i) (B.drop j)=[]:=by
      rw [hdx];exact rest_end sA.drop (by rw [← hdx];exact sX.drop) (merge_x hhead) c2
     exact ⟨_,_,⟨g,vh,vc,vp,hh,hc,hp,by omega,by rw [hP,hR,hE3];rfl,rfl,rfl⟩,⟨rfl,rfl,trivial⟩,⟨rfl,rfl,.inl rfl,.inl rfl,.inl rfl,trivial⟩,rfl⟩
    ·have c2:¬ day < x.day:=of_decide_eq_false c2
     have hE3:restL day (A.drop i) (B.drop j)=.inr x :: restL day (A.drop i) (B.drop (j+1)):=by
      rw [hdx];exact rest_x hhead (by omega)
     have AO:=enter_z (E:=(envC Tryz.prog tt Tryz.f7.ntmps w X (tiedK [] β) [21,23]).toEnv) (day:=day) rfl hg hh hc hp (by omega) (mX x (List.mem_of_getElem? hx0)).q
     have EA:=cat_extract EC.size hx0
     have hszX:(cat EC.A B).size=nx*10:=by rw [Go.SX.cat_size EC.size,lX]
     generalize x.A=AA at AO EA
     refine ⟨by omega,by omega,.inr ⟨3000,gX,_,nx,cX0,_,_,_,rfl,rfl,(by rw [offX0,hszX];show j*10+10≤nx*10;omega),AA,(by rw [offX0];exact EA),?_⟩⟩
     refine .inr (.inr (.inr ⟨[(9500,48)],[],[_,_],[_,_,_,_],_,AO,rfl,⟨.inl rfl,.inl rfl,.inl rfl,rfl,trivial⟩,by kernel_rfl,trivial,?_⟩))
     rintro r U ⟨g2,wh,wc,wp,k1,k2,k3,rfl,hM⟩
     refine ⟨by kernel_rfl,_,runs_lo18 (E:=(envC Tryz.prog tt Tryz.f7.ntmps w X (tiedK [] β) [21,23])) tt_ok Tryz.underlying22 (j:=ti47) rfl 1 rfl (by omega),?_⟩
     have hrun:runL day g (restL day (A.drop i) (B.drop j))=match entL day g x with
      | .error e=>.error e
      | .ok g'=>runL day g' (restL day (A.drop i) (B.drop (j+1))):=by rw [hE3];rfl
     have tn:=tx.next (by decide) cj
     cases hS:entL day g x with
     | error e =>
      rw [hS] at hM hrun
      obtain ⟨rfl,he⟩:=hM
      exact ⟨_,_,⟨i,j+1,_,_,g2,wh,wc,wp,e,by omega,ta,tn,k1,k2,k3,.inl ⟨he,hrun⟩,rfl,rfl⟩,⟨rfl,rfl,rfl,rfl,rfl,rfl,trivial⟩,⟨rfl,.inl rfl,.inl rfl,rfl,.inl rfl,.inl rfl,.inl rfl,trivial⟩,rfl⟩
     | ok g' =>
      rw [hS] at hM hrun
      obtain ⟨rfl,rfl⟩:=hM
      obtain ⟨s1,s2,s3,s4⟩:=ent_okL hg hS
      exact ⟨_,_,⟨i,j+1,_,_,g2,wh,wc,wp,0,by omega,ta,tn,k1,k2,k3,.inr ⟨rfl,s1,⟨by omega,by omega,by omega⟩,hrun⟩,rfl,rfl⟩,⟨rfl,rfl,rfl,rfl,rfl,rfl,trivial⟩,⟨rfl,.inl rfl,.inl rfl,rfl,.inl rfl,.inl rfl,.inl rfl,trivial⟩,rfl⟩
  ·have cj:j=nx:=by have c:((((nx - j:Nat):Int)) == 0)=true:=c;simp only [beq_iff_eq] at c;have:=tx.1;omega
   have LA:(cat AC.A A)[i*76+4]? = some (.int .i64 a.day):=(cat_get AC.size A i a 4 ha0 (by decide)).trans a.g4
   have hhead:∀ z,(B.drop j)[0]? = some z→a.day≤z.day:=fun z hz=>by rw [List.drop_eq_nil_of_le (by omega)] at hz;cases hz
   refine ⟨by kernel_rfl,fun _=>?_,nofun⟩
   refine ⟨by omega,by omega,.inr ⟨3001,gA,_,na,cA0,_,_,_,rfl,rfl,_,(by rw [offA0];exact LA),?_⟩⟩
   refine ⟨fun c2=>?_,fun c2=>?_⟩
   ·have c2:day < a.day:=of_decide_eq_true c2
    have hE3:restL day (A.drop i) (B.drop j)=[]:=by
     rw [hda];exact rest_end (by rw [← hda];exact sA.drop) sX.drop (merge_a hhead) c2
    exact ⟨_,_,⟨g,vh,vc,vp,hh,hc,hp,by omega,by rw [hP,hR,hE3];rfl,rfl,rfl⟩,⟨rfl,rfl,trivial⟩,⟨rfl,rfl,.inl rfl,.inl rfl,.inl rfl,trivial⟩,rfl⟩
   ·have c2:¬ day < a.day:=of_decide_eq_false c2
    have hE3:restL day (A.drop i) (B.drop j)=.inl a :: restL day (A.drop (i+1)) (B.drop j):=by
     rw [hda];exact rest_a hhead (by omega)
    have AO:=act_z (E:=(envC Tryz.prog tt Tryz.f7.ntmps w X (tiedK [] β) [21,23]).toEnv) (day:=day) rfl hg hh hc hp (by omega) (mA a (List.mem_of_getElem? ha0))
    have EA:=cat_extract AC.size ha0
    have hszA:(cat AC.A A).size=na*76:=by rw [Go.SX.cat_size AC.size,lA]
    generalize a.A=AA at AO EA
    refine ⟨by omega,by omega,.inr ⟨3001,gA,_,na,cA0,_,_,_,rfl,rfl,(by rw [offA0,hszA];show i*76+76≤na*76;omega),AA,(by rw [offA0];exact EA),?_⟩⟩
    refine .inr (.inr (.inr ⟨[(9500,48)],[],[_,_],[_,_,_,_],_,AO,rfl,⟨.inl rfl,.inl rfl,.inl rfl,rfl,trivial⟩,by kernel_rfl,trivial,?_⟩))
    rintro r U ⟨g2,wh,wc,wp,k1,k2,k3,rfl,hM⟩
    refine ⟨by kernel_rfl,_,runs_lo18 (E:=(envC Tryz.prog tt Tryz.f7.ntmps w X (tiedK [] β) [21,23])) tt_ok Tryz.underlying23 (j:=ti61) rfl 1 rfl (by omega),?_⟩
    have hrun:runL day g (restL day (A.drop i) (B.drop j))=match actL g a with
     | .error e=>.error e
     | .ok g'=>runL day g' (restL day (A.drop (i+1)) (B.drop j)):=by rw [hE3];rfl
    have tn:=ta.next (by decide) ci
    cases hS:actL g a with
    | error e =>
     rw [hS] at hM hrun
     obtain ⟨rfl,he⟩:=hM
     exact ⟨_,_,⟨i+1,j,_,_,g2,wh,wc,wp,e,by omega,tn,tx,k1,k2,k3,.inl ⟨he,hrun⟩,rfl,rfl⟩,⟨rfl,rfl,rfl,rfl,rfl,rfl,trivial⟩,⟨rfl,.inl rfl,.inl rfl,rfl,.inl rfl,.inl rfl,.inl rfl,trivial⟩,rfl⟩
    | ok g' =>
     rw [hS] at hM hrun
     obtain ⟨rfl,rfl⟩:=hM
     obtain ⟨s1,s2,s3,s4⟩:=act_okL hg hS
     exact ⟨_,_,⟨i+1,j,_,_,g2,wh,wc,wp,0,by omega,tn,tx,k1,k2,k3,.inr ⟨rfl,s1,⟨by omega,by omega,by rw [s4];omega⟩,hrun⟩,rfl,rfl⟩,⟨rfl,rfl,rfl,rfl,rfl,rfl,trivial⟩,⟨rfl,.inl rfl,.inl rfl,rfl,.inl rfl,.inl rfl,.inl rfl,trivial⟩,rfl⟩
def eqA (x y:Bs×Int):Bool:=decide (x.1=y.1) && ((x.2 == y.2) && true)
def eqK (x y:Ky×Int):Bool:=decide (x.1.1=y.1.1) && ((x.1.2 == y.1.2) && ((x.2 == y.2) && true))
theorem eqA_self (x:Bs×Int):eqA x x=true:=by simp [eqA]
theorem eqK_self (x:Ky×Int):eqK x x=true:=by simp [eqK]
theorem EC.beq_self (x:EC):x.beq x=true:=by simp [EC.beq]
theorem eq_hol_raw {d:Nat} (x y:Bs×Int) (w:World):(Op.equalIn (d+1+1) 90 (.agg (sumA x)) (.agg (sumA y))).run Tryz.prog w=.ok (eqA x y) w:=by
 rw [run_equalIn_struct w (d+1) 90 _ _ (by simp only [Program.fieldsOf,Tryz.underlying90]) (by kernel_rfl)]
 rw [show (Tryz.prog.fieldsOf 90).toList=[⟨ "Instrument",9,0,false,"","",0⟩,⟨ "Quantity",3,1,false,"","",16⟩] from by simp only [Program.fieldsOf,Tryz.underlying90]]
 refine eqF_cons (by decide) (part_cell tok9 rfl rfl w) (part_cell tok9 rfl rfl w) (eq_str _ _ w) fun _=>?_
 exact eqF_cons (by decide) (part_cell tok3 rfl rfl w) (part_cell tok3 rfl rfl w) (eq_int64 _ Tryz.underlying3 _ _ w) fun _=>eqF_nil
theorem guard_hol:Tryz.prog.eqGuardType Tryz.prog.depth 90=false:=by kernel_rfl
theorem neq_hol {E:Env} (hE:E.P=Tryz.prog) (x y:Bs×Int) {u v:Operand}:Runs E (do eqGuard .neq 90 u v (.agg (sumA x)) (.agg (sumA y));binOp .neq 90 (.agg (sumA x)) (.agg (sumA y))) (.bool (!(eqA x y))) :=
 runs_neq (by rw [hE];exact guard_hol) fun w=>by rw [hE];exact eq_hol_raw x y w
theorem neqs_hol {E:Env} (hE:E.P=Tryz.prog) (x:Bs×Int) {u v:Operand}:Runs E (do eqGuard .neq 90 u v (.agg (sumA x)) (.agg (sumA x));binOp .neq 90 (.agg (sumA x)) (.agg (sumA x))) (.bool false):=by
 have:=neq_hol hE x x (u:=u) (v:=v)
 rwa [eqA_self] at this
theorem eq_bal_raw {d:Nat} (x y:Ky×Int) (w:World):(Op.equalIn (d+1+1) 85 (.agg (sumK x)) (.agg (sumK y))).run Tryz.prog w=.ok (eqK x y) w:=by
 rw [run_equalIn_struct w (d+1) 85 _ _ (by simp only [Program.fieldsOf,Tryz.underlying85]) (by kernel_rfl)]
 rw [show (Tryz.prog.fieldsOf 85).toList=[⟨ "Currency",9,0,false,"","",0⟩,⟨ "Day",3,1,false,"","",16⟩,⟨ "Amount",3,2,false,"","",24⟩] from by simp only [Program.fieldsOf,Tryz.underlying85]]
 refine eqF_cons (by decide) (part_cell tok9 rfl rfl w) (part_cell tok9 rfl rfl w) (eq_str _ _ w) fun _=>?_
 refine eqF_cons (by decide) (part_cell tok3 rfl rfl w) (part_cell tok3 rfl rfl w) (eq_int64 _ Tryz.underlying3 _ _ w) fun _=>?_
 exact eqF_cons (by decide) (part_cell tok3 rfl rfl w) (part_cell tok3 rfl rfl w) (eq_int64 _ Tryz.underlying3 _ _ w) fun _=>eqF_nil
theorem guard_bal:Tryz.prog.eqGuardType Tryz.prog.depth 85=false:=by kernel_rfl
theorem eql_bal {E:Env} (hE:E.P=Tryz.prog) (x y:Ky×Int) {u v:Operand}:Runs E (do eqGuard .eql 85 u v (.agg (sumK x)) (.agg (sumK y));binOp .eql 85 (.agg (sumK x)) (.agg (sumK y))) (.bool (eqK x y)) :=
 runs_eql (by rw [hE];exact guard_bal) fun w=>by rw [hE];exact eq_bal_raw x y w
theorem neqs_bal {E:Env} (hE:E.P=Tryz.prog) (x:Ky×Int) {u v:Operand}:Runs E (do eqGuard .neq 85 u v (.agg (sumK x)) (.agg (sumK x));binOp .neq 85 (.agg (sumK x)) (.agg (sumK x))) (.bool false):=by
 have:=runs_neq (E:=E) (t:=85) (x:=u) (y:=v) (by rw [hE];exact guard_bal) fun w=>by rw [hE];exact eq_bal_raw x x w
 rwa [eqK_self] at this
theorem neqs_entry {E:Env} (hE:E.P=Tryz.prog) (x:EC) {u v:Operand}:Runs E (do eqGuard .neq 47 u v (.agg x.A) (.agg x.A);binOp .neq 47 (.agg x.A) (.agg x.A)) (.bool false):=by
 have:=neq_entry hE x x (u:=u) (v:=v)
 rwa [EC.beq_self] at this
theorem offB (j:Nat):offAt 0 ((j:Nat):Int) ti85.size=j*3:=by
 show offAt 0 ((j:Nat):Int) 3=j*3
 simp [offAt]
theorem offH (j:Nat):offAt 0 ((j:Nat):Int) ti90.size=j*2:=by
 show offAt 0 ((j:Nat):Int) 2=j*2
 simp [offAt]
theorem offE (j:Nat):offAt 0 ((j:Nat):Int) ti47.size=j*10:=by
 show offAt 0 ((j:Nat):Int) 10=j*10
 simp [offAt]
theorem sameB_o {E:Env} (hE:E.P=Tryz.prog) {x y:Value} {C:List (Ky×Int)} {n:Nat} (hx:IsL x n) (hy:IsL y n) (hn:n=C.length) (hb:n≤1000000000000):OwnC E 46 [SV.c x,SV.c y] [(9520,Blk.own x 85 3 n (cat sumK C)),(9521,Blk.own y 85 3 n (cat sumK C))] (fun r U=>r=.bool true∧U=[(9520,Blk.own x 85 3 n (cat sumK C)),(9521,Blk.own y 85 3 n (cat sumK C))]):=by
 refine sx_ownC [] tt_ok mixed at46 E hE [SV.c x,SV.c y] [(9520,Blk.own x 85 3 n (cat sumK C)),(9521,Blk.own y 85 3 n (cat sumK C))] _ rfl rfl fun w X β hT=>?_
 have hE':(envC Tryz.prog tt Tryz.f46.ntmps w X (tiedK [(9520,Blk.own x 85 3 n (cat sumK C)),(9521,Blk.own y 85 3 n (cat sumK C))] β)).toEnv.P=Tryz.prog:=rfl
 obtain ⟨xa,xc,rfl⟩:=hx.len
 obtain ⟨ya,yc,rfl⟩:=hy.len
 refine ⟨_,fun w' _=>run_len_sl Tryz.underlying28 w',_,fun w' _=>run_len_sl Tryz.underlying28 w',?_⟩
 refine ⟨fun c=>absurd c (by simp),fun _=>?_⟩
 refine ⟨fun q f m=>∃ i:Nat,q=n - i∧i≤n∧f=[(0,SV.c (.slice xa n xc)),(1,SV.c (.slice ya n yc)),(5,SV.c (.int .i64 (i:Nat)))]∧m=[(9520,Blk.own (.slice xa n xc) 85 3 n (cat sumK C)),(9521,Blk.own (.slice ya n yc) 85 3 n (cat sumK C))],n,⟨_,_,⟨0,by omega,by omega,rfl,rfl⟩,⟨rfl,rfl,rfl,trivial⟩,⟨.inl rfl,.inl rfl,trivial⟩,rfl⟩,?_⟩
 rintro q f m ⟨i,rfl,hi,rfl,rfl⟩
 refine ⟨_,fun w' _=>run_len_sl Tryz.underlying28 w',fun h=>?_,fun h=>?_⟩
 ·have h:i < n:=by have:=of_decide_eq_true h;omega
  rcases hx with ⟨hs1,hs2⟩ | ⟨g0,c0,hs1⟩
  ·omega
  cases hs1
  rcases hy with ⟨hs1,hs2⟩ | ⟨g1,c1,hs1⟩
  ·omega
  cases hs1
  obtain ⟨y,hy⟩:∃ y,C[i]? = some y:=⟨_,List.getElem?_eq_getElem (by omega)⟩
  have L1:=cat_extract sumK_size hy
  have hsz:(cat sumK C).size=n*3:=by rw [Go.SX.cat_size sumK_size,hn]
  have N1:=fun (u v:Operand)=>neqs_bal hE' y (u:=u) (v:=v)
  generalize hYA:sumK y=YA at L1 N1
  have F1:Fits YA 3:=by rw [← hYA];exact sumK_fits y
  refine ⟨by omega,by omega,.inr ⟨9520,g0,_,n,_,_,_,_,rfl,rfl,(by rw [offB,hsz];show i*3+3≤n*3;omega),YA,(by rw [offB];exact L1),?_⟩⟩
  refine ⟨by omega,by omega,.inr ⟨9521,g1,_,n,_,_,_,_,rfl,rfl,(by rw [offB,hsz];show i*3+3≤n*3;omega),YA,(by rw [offB];exact L1),?_⟩⟩
  refine ⟨_,N1 _ _,by kernel_rfl,nofun,fun _=>?_⟩
  exact ⟨n - (i+1),_,_,by omega,⟨i+1,rfl,by omega,rfl,rfl⟩,⟨rfl,rfl,c_int (i64_succ (by omega)),trivial⟩,⟨.inl rfl,.inl rfl,trivial⟩,rfl⟩
 ·have h:i=n:=by have:=of_decide_eq_false h;omega
  subst h
  exact ⟨[_,_],[],⟨rfl,rfl⟩,⟨.inl rfl,.inl rfl,trivial⟩,rfl⟩
theorem sameE_o {E:Env} (hE:E.P=Tryz.prog) {x y:Value} {C:List EC} {n:Nat} (hx:IsL x n) (hy:IsL y n) (hn:n=C.length) (hb:n≤1000000000000):OwnC E 12 [SV.c x,SV.c y] [(9522,Blk.own x 47 10 n (cat EC.A C)),(9523,Blk.own y 47 10 n (cat EC.A C))] (fun r U=>r=.bool true∧U=[(9522,Blk.own x 47 10 n (cat EC.A C)),(9523,Blk.own y 47 10 n (cat EC.A C))]):=by
 refine sx_ownC [] tt_ok mixed at12 E hE [SV.c x,SV.c y] [(9522,Blk.own x 47 10 n (cat EC.A C)),(9523,Blk.own y 47 10 n (cat EC.A C))] _ rfl rfl fun w X β hT=>?_
 have hE':(envC Tryz.prog tt Tryz.f12.ntmps w X (tiedK [(9522,Blk.own x 47 10 n (cat EC.A C)),(9523,Blk.own y 47 10 n (cat EC.A C))] β)).toEnv.P=Tryz.prog:=rfl
 obtain ⟨xa,xc,rfl⟩:=hx.len
 obtain ⟨ya,yc,rfl⟩:=hy.len
 refine ⟨_,fun w' _=>run_len_sl Tryz.underlying22 w',_,fun w' _=>run_len_sl Tryz.underlying22 w',?_⟩
 refine ⟨fun c=>absurd c (by simp),fun _=>?_⟩
 refine ⟨fun q f m=>∃ i:Nat,q=n - i∧i≤n∧f=[(0,SV.c (.slice xa n xc)),(1,SV.c (.slice ya n yc)),(5,SV.c (.int .i64 (i:Nat)))]∧m=[(9522,Blk.own (.slice xa n xc) 47 10 n (cat EC.A C)),(9523,Blk.own (.slice ya n yc) 47 10 n (cat EC.A C))],n,⟨_,_,⟨0,by omega,by omega,rfl,rfl⟩,⟨rfl,rfl,rfl,trivial⟩,⟨.inl rfl,.inl rfl,trivial⟩,rfl⟩,?_⟩
 rintro q f m ⟨i,rfl,hi,rfl,rfl⟩
 refine ⟨_,fun w' _=>run_len_sl Tryz.underlying22 w',fun h=>?_,fun h=>?_⟩
 ·have h:i < n:=by have:=of_decide_eq_true h;omega
  rcases hx with ⟨hs1,hs2⟩ | ⟨g0,c0,hs1⟩
  ·omega
  cases hs1
  rcases hy with ⟨hs1,hs2⟩ | ⟨g1,c1,hs1⟩
  ·omega
  cases hs1
  obtain ⟨y,hy⟩:∃ y,C[i]? = some y:=⟨_,List.getElem?_eq_getElem (by omega)⟩
  have L1:=cat_extract EC.size hy
  have hsz:(cat EC.A C).size=n*10:=by rw [Go.SX.cat_size EC.size,hn]
  have N1:=fun (u v:Operand)=>neqs_entry hE' y (u:=u) (v:=v)
  generalize hYA:y.A=YA at L1 N1
  have F1:Fits YA 10:=by rw [← hYA];exact y.fits
  refine ⟨by omega,by omega,.inr ⟨9522,g0,_,n,_,_,_,_,rfl,rfl,(by rw [offE,hsz];show i*10+10≤n*10;omega),YA,(by rw [offE];exact L1),?_⟩⟩
  refine ⟨by omega,by omega,.inr ⟨9523,g1,_,n,_,_,_,_,rfl,rfl,(by rw [offE,hsz];show i*10+10≤n*10;omega),YA,(by rw [offE];exact L1),?_⟩⟩
  refine ⟨_,N1 _ _,by kernel_rfl,nofun,fun _=>?_⟩
  exact ⟨n - (i+1),_,_,by omega,⟨i+1,rfl,by omega,rfl,rfl⟩,⟨rfl,rfl,c_int (i64_succ (by omega)),trivial⟩,⟨.inl rfl,.inl rfl,trivial⟩,rfl⟩
 ·have h:i=n:=by have:=of_decide_eq_false h;omega
  subst h
  exact ⟨[_,_],[],⟨rfl,rfl⟩,⟨.inl rfl,.inl rfl,trivial⟩,rfl⟩
theorem same_o {E:Env} (hE:E.P=Tryz.prog) {xh xc xp yh yc yp:Value} {g:Led} (hh:IsL xh g.h.length) (hc:IsL xc g.c.length) (hp:IsL xp g.p.length) (kh:IsL yh g.h.length) (kc:IsL yc g.c.length) (kp:IsL yp g.p.length) (hl:g.h.length≤10000000000∧g.c.length≤10000000000∧g.p.length≤10000000000):OwnC E 13 [SV.c (.agg #[xh,xc,xp]),SV.c (.agg #[yh,yc,yp])] [(9506,Blk.own xh 90 2 g.h.length (cat sumA g.h)),(9507,Blk.own xc 85 3 g.c.length (cat sumK g.c)),(9508,Blk.own xp 85 3 g.p.length (cat sumK g.p)),(9516,Blk.own yh 90 2 g.h.length (cat sumA g.h)),(9517,Blk.own yc 85 3 g.c.length (cat sumK g.c)),(9518,Blk.own yp 85 3 g.p.length (cat sumK g.p))] (fun r U=>r=.bool true∧U=[(9506,Blk.own xh 90 2 g.h.length (cat sumA g.h)),(9507,Blk.own xc 85 3 g.c.length (cat sumK g.c)),(9508,Blk.own xp 85 3 g.p.length (cat sumK g.p)),(9516,Blk.own yh 90 2 g.h.length (cat sumA g.h)),(9517,Blk.own yc 85 3 g.c.length (cat sumK g.c)),(9518,Blk.own yp 85 3 g.p.length (cat sumK g.p))]):=by
 refine sx_ownC [] tt_ok mixed at13 E hE [SV.c (.agg #[xh,xc,xp]),SV.c (.agg #[yh,yc,yp])] [(9506,Blk.own xh 90 2 g.h.length (cat sumA g.h)),(9507,Blk.own xc 85 3 g.c.length (cat sumK g.c)),(9508,Blk.own xp 85 3 g.p.length (cat sumK g.p)),(9516,Blk.own yh 90 2 g.h.length (cat sumA g.h)),(9517,Blk.own yc 85 3 g.c.length (cat sumK g.c)),(9518,Blk.own yp 85 3 g.p.length (cat sumK g.p))] _ rfl rfl fun w X β hT=>?_
 have hE':(envC Tryz.prog tt Tryz.f13.ntmps w X (tiedK [(9506,Blk.own xh 90 2 g.h.length (cat sumA g.h)),(9507,Blk.own xc 85 3 g.c.length (cat sumK g.c)),(9508,Blk.own xp 85 3 g.p.length (cat sumK g.p)),(9516,Blk.own yh 90 2 g.h.length (cat sumA g.h)),(9517,Blk.own yc 85 3 g.c.length (cat sumK g.c)),(9518,Blk.own yp 85 3 g.p.length (cat sumK g.p))] β)).toEnv.P=Tryz.prog:=rfl
 have BC:=sameB_o hE' hc kc rfl (by omega)
 have BP:=sameB_o hE' hp kp rfl (by omega)
 obtain ⟨xha,xhc,rfl⟩:=hh.len
 obtain ⟨yha,yhc,rfl⟩:=kh.len
 refine ⟨rfl,rfl,_,rfl,_,fun w' _=>run_len_sl Tryz.underlying27 w',_,rfl,_,fun w' _=>run_len_sl Tryz.underlying27 w',?_⟩
 refine ⟨fun c=>absurd c (by simp),fun _=>?_⟩
 refine ⟨fun q f m=>∃ i:Nat,q=g.h.length - i∧i≤g.h.length∧f=[(2,SV.ptr 2 0),(3,SV.ptr 3 0),(5,SV.c (.int .i64 (i:Nat)))]∧m=(2,Blk.row 30 3 #[.slice xha g.h.length xhc,xc,xp]) :: (3,Blk.row 30 3 #[.slice yha g.h.length yhc,yc,yp]) :: [(9506,Blk.own (.slice xha g.h.length xhc) 90 2 g.h.length (cat sumA g.h)),(9507,Blk.own xc 85 3 g.c.length (cat sumK g.c)),(9508,Blk.own xp 85 3 g.p.length (cat sumK g.p)),(9516,Blk.own (.slice yha g.h.length yhc) 90 2 g.h.length (cat sumA g.h)),(9517,Blk.own yc 85 3 g.c.length (cat sumK g.c)),(9518,Blk.own yp 85 3 g.p.length (cat sumK g.p))],g.h.length,⟨_,_,⟨0,by omega,by omega,rfl,rfl⟩,⟨rfl,rfl,rfl,trivial⟩,⟨rfl,rfl,.inl rfl,.inl rfl,.inl rfl,.inl rfl,.inl rfl,.inl rfl,trivial⟩,rfl⟩,?_⟩
 rintro q f m ⟨i,rfl,hi,rfl,rfl⟩
 refine ⟨_,rfl,_,fun w' _=>run_len_sl Tryz.underlying27 w',fun h=>?_,fun h=>?_⟩
 ·have h:i < g.h.length:=by have:=of_decide_eq_true h;omega
  rcases hh with ⟨hs1,hs2⟩ | ⟨g0,c0,hs1⟩
  ·omega
  cases hs1
  rcases kh with ⟨hs1,hs2⟩ | ⟨g1,c1,hs1⟩
  ·omega
  cases hs1
  obtain ⟨y,hy⟩:∃ y,g.h[i]? = some y:=⟨_,List.getElem?_eq_getElem (by omega)⟩
  have L1:=cat_extract sumA_size hy
  have hsz:(cat sumA g.h).size=g.h.length*2:=Go.SX.cat_size sumA_size _
  have N1:=fun (u v:Operand)=>neqs_hol hE' y (u:=u) (v:=v)
  generalize hYA:sumA y=YA at L1 N1
  refine ⟨_,rfl,by omega,by omega,.inr ⟨9506,g0,_,g.h.length,_,_,_,_,rfl,rfl,(by rw [offH,hsz];show i*2+2≤g.h.length*2;omega),YA,(by rw [offH];exact L1),?_⟩⟩
  refine ⟨_,rfl,by omega,by omega,.inr ⟨9516,g1,_,g.h.length,_,_,_,_,rfl,rfl,(by rw [offH,hsz];show i*2+2≤g.h.length*2;omega),YA,(by rw [offH];exact L1),?_⟩⟩
  refine ⟨_,N1 _ _,by kernel_rfl,nofun,fun _=>?_⟩
  exact ⟨g.h.length - (i+1),_,_,by omega,⟨i+1,rfl,by omega,rfl,rfl⟩,⟨rfl,rfl,c_int (i64_succ (by omega)),trivial⟩,⟨rfl,rfl,.inl rfl,.inl rfl,.inl rfl,.inl rfl,.inl rfl,.inl rfl,trivial⟩,rfl⟩
 ·have h:i=g.h.length:=by have:=of_decide_eq_false h;omega
  subst h
  refine ⟨_,rfl,_,rfl,.inr (.inr (.inl ⟨[(9520,9507),(9521,9517)],[_,_],[_,_],_,[_,_],BC,rfl,⟨.inl rfl,.inl rfl,trivial⟩,rfl,rfl,?_⟩))⟩
  refine ⟨fun _=>?_,nofun⟩
  refine ⟨_,rfl,_,rfl,.inr (.inr (.inl ⟨[(9520,9508),(9521,9518)],[_,_],[_,_],_,[_,_],BP,rfl,⟨.inl rfl,.inl rfl,trivial⟩,rfl,rfl,?_⟩))⟩
  exact ⟨[_,_,_,_,_,_],[],⟨rfl,rfl⟩,⟨.inl rfl,.inl rfl,.inl rfl,.inl rfl,.inl rfl,.inl rfl,trivial⟩,rfl⟩
def finN (g:Led):Led×Int:=pfL ⟨nzf g.h,nzf g.c,nzf g.p⟩
def FinQ (g:Led) (vh vc vp:Value) (r:Value) (U:MemL):Prop:=∃ xh xc xp,IsL xh (finN g).1.h.length∧IsL xc (finN g).1.c.length∧IsL xp (finN g).1.p.length∧r=.tuple #[.agg #[xh,xc,xp],.int .i64 (finN g).2]∧U=[(9701,Blk.own vh 90 2 g.h.length (cat sumA g.h)),(9702,Blk.own vc 85 3 g.c.length (cat sumK g.c)),(9703,Blk.own vp 85 3 g.p.length (cat sumK g.p)),(9506,Blk.own xh 90 2 (finN g).1.h.length (cat sumA (finN g).1.h)),(9507,Blk.own xc 85 3 (finN g).1.c.length (cat sumK (finN g).1.c)),(9508,Blk.own xp 85 3 (finN g).1.p.length (cat sumK (finN g).1.p))]
theorem FinQ.bad {g:Led} {vh vc vp:Value} {e:Int} (h:finN g=(.zero,e)):FinQ g vh vc vp (.tuple #[.agg #[.slice none 0 0,.slice none 0 0,.slice none 0 0],.int .i64 e]) [(9701,Blk.own vh 90 2 g.h.length (cat sumA g.h)),(9702,Blk.own vc 85 3 g.c.length (cat sumK g.c)),(9703,Blk.own vp 85 3 g.p.length (cat sumK g.p)),(9506,Blk.own (.slice none 0 0) 90 2 0 #[]),(9507,Blk.own (.slice none 0 0) 85 3 0 #[]),(9508,Blk.own (.slice none 0 0) 85 3 0 #[])]:=by
 refine ⟨.slice none 0 0,.slice none 0 0,.slice none 0 0,by rw [h];exact .nil,by rw [h];exact .nil,by rw [h];exact .nil,by rw [h],by rw [h];rfl⟩
theorem finish_r {E:Env} (hE:E.P=Tryz.prog) {g:Led} {vh vc vp:Value} (hh:IsL vh g.h.length) (_hc:IsL vc g.c.length) (_hp:IsL vp g.p.length) (hl:g.h.length≤10000000000∧g.c.length≤10000000000∧g.p.length≤10000000000):OwnC E 38 [SV.c (.agg #[vh,vc,vp])] [(9701,Blk.own vh 90 2 g.h.length (cat sumA g.h)),(9702,Blk.own vc 85 3 g.c.length (cat sumK g.c)),(9703,Blk.own vp 85 3 g.p.length (cat sumK g.p))] (FinQ g vh vc vp):=by
 refine sx_ownC [7] tt_ok mixed at38 E hE [SV.c (.agg #[vh,vc,vp])] [(9701,Blk.own vh 90 2 g.h.length (cat sumA g.h)),(9702,Blk.own vc 85 3 g.c.length (cat sumK g.c)),(9703,Blk.own vp 85 3 g.p.length (cat sumK g.p))] _ rfl rfl fun w X β hT=>?_
 have hE':(envC Tryz.prog tt Tryz.f38.ntmps w X (tiedK [(9701,Blk.own vh 90 2 g.h.length (cat sumA g.h)),(9702,Blk.own vc 85 3 g.c.length (cat sumK g.c)),(9703,Blk.own vp 85 3 g.p.length (cat sumK g.p))] β) [7]).toEnv.P=Tryz.prog:=rfl
 obtain ⟨ha,hcap,rfl⟩:=hh.len
 refine ⟨rfl,?_⟩
 refine ⟨fun f m=>∃ (s:Value) (k:Nat),k=(nzf g.h).length∧IsL s k∧f=[(1,SV.ptr 1 0),(2,SV.ptr 2 0),(4,SV.ptr 4 0)]∧m=[(1,Blk.row 30 3 #[.slice ha g.h.length hcap,vc,vp]),(2,Blk.row 30 3 #[.slice none 0 0,.slice none 0 0,.slice none 0 0]),(4,Blk.row 30 3 #[s,.slice none 0 0,.slice none 0 0]),(9506,Blk.own s 90 2 k (cat sumA (nzf g.h))),(9701,Blk.own (.slice ha g.h.length hcap) 90 2 g.h.length (cat sumA g.h)),(9702,Blk.own vc 85 3 g.c.length (cat sumK g.c)),(9703,Blk.own vp 85 3 g.p.length (cat sumK g.p))],?_,?_⟩
 ·refine ⟨fun q f m=>∃ (i k:Nat) (s:Value),q=g.h.length - i∧i≤g.h.length∧k=(nzf (g.h.take i)).length∧IsL s k∧f=[(1,SV.ptr 1 0),(2,SV.ptr 2 0),(4,SV.ptr 4 0),(5,SV.c (.int .i64 (i:Nat)))]∧m=[(1,Blk.row 30 3 #[.slice ha g.h.length hcap,vc,vp]),(2,Blk.row 30 3 #[.slice none 0 0,.slice none 0 0,.slice none 0 0]),(4,Blk.row 30 3 #[s,.slice none 0 0,.slice none 0 0]),(9506,Blk.own s 90 2 k (cat sumA (nzf (g.h.take i)))),(9701,Blk.own (.slice ha g.h.length hcap) 90 2 g.h.length (cat sumA g.h)),(9702,Blk.own vc 85 3 g.c.length (cat sumK g.c)),(9703,Blk.own vp 85 3 g.p.length (cat sumK g.p))],g.h.length,⟨_,_,⟨0,0,.slice none 0 0,by omega,by omega,rfl,.nil,rfl,rfl⟩,⟨rfl,rfl,rfl,rfl,trivial⟩,⟨rfl,rfl,rfl,.inr ⟨rfl,rfl,rfl⟩,.inl rfl,.inl rfl,.inl rfl,trivial⟩,rfl⟩,?_⟩
  rintro q f m ⟨i,k,s,rfl,hi,hk,hs,rfl,rfl⟩
  refine ⟨_,rfl,_,fun w' _=>run_len_sl Tryz.underlying27 w',fun c=>?_,fun c=>?_⟩
  ·have c:i < g.h.length:=by have:=of_decide_eq_true c;omega
   rcases hh with ⟨hs1,hs2⟩ | ⟨g0,c0,hs1⟩
   ·omega
   cases hs1
   obtain ⟨y,hy⟩:∃ y,g.h[i]? = some y:=⟨_,List.getElem?_eq_getElem c⟩
   have L1:=cat_extract sumA_size hy
   have hsz:(cat sumA g.h).size=g.h.length*2:=Go.SX.cat_size sumA_size _
   have LQ:(cat sumA g.h)[i*2+1]? = some (.int .i64 y.2):=cat_get sumA_size g.h i y 1 hy (by decide)
   have X1:(sumA y).extract 0 (0+1*2)=sumA y:=by simp [sumA]
   have hNT:=nzf_take hy
   have hkl:=nzf_len g.h i
   obtain ⟨q,hq,hqb⟩:=info_hol
   refine ⟨_,rfl,by omega,by omega,.inr ⟨9701,g0,_,g.h.length,_,_,_,_,rfl,rfl,.int .i64 y.2,(by rw [offH];exact LQ),?_⟩⟩
   refine ⟨fun c1=>?_,fun c1=>?_⟩
   ·have c1:(y.2 != 0)=true:=c1
    have c1:y.2≠0:=by simpa using c1
    rw [if_neg c1] at hNT
    refine ⟨_,rfl,_,rfl,by omega,by omega,.inr ⟨9701,g0,_,g.h.length,_,_,_,_,rfl,rfl,(by rw [offH,hsz];show i*2+2≤g.h.length*2;omega),sumA y,(by rw [offH];exact L1),?_⟩⟩
    refine .inl ⟨by decide,by decide,_,fill_hol1 y,rfl,by decide,9506,k,_,.inl rfl,by decide,(sumA_fits y).one,rfl,_,X1,?_⟩
    refine ⟨by omega,by unfold maxLen;omega,⟨q,hq,by rw [hqb];omega⟩,by change _=true;kernel_rfl,fun g2 cap2=>?_⟩
    refine ⟨by decide,rfl,#[.slice (some ⟨g2,0,none⟩) (k+1) cap2,.slice none 0 0,.slice none 0 0],rfl,by kernel_rfl,?_⟩
    exact ⟨g.h.length - (i+1),_,_,by omega,⟨i+1,k+1,.slice (some ⟨g2,0,none⟩) (k+1) cap2,rfl,by omega,by rw [hNT,List.length_append,← hk];rfl,.some,rfl,rfl⟩,⟨rfl,rfl,rfl,c_int (i64_succ (by omega)),trivial⟩,⟨rfl,rfl,rfl,.inl (own_eq (by rw [hNT,cat_snoc])),.inl rfl,.inl rfl,.inl rfl,trivial⟩,rfl⟩
   ·have c1:(y.2 != 0)=false:=c1
    have c1:y.2=0:=by simpa using c1
    rw [if_pos c1] at hNT
    exact ⟨g.h.length - (i+1),_,_,by omega,⟨i+1,k,s,rfl,by omega,by rw [hNT];exact hk,hs,rfl,rfl⟩,⟨rfl,rfl,rfl,c_int (i64_succ (by omega)),trivial⟩,⟨rfl,rfl,rfl,.inl (by rw [hNT];rfl),.inl rfl,.inl rfl,.inl rfl,trivial⟩,rfl⟩
  ·have c:i=g.h.length:=by have:=of_decide_eq_false c;omega
   have ht:g.h.take i=g.h:=List.take_of_length_le (by omega)
   rw [ht] at hk
   exact ⟨_,_,⟨s,k,hk,hs,rfl,rfl⟩,⟨rfl,rfl,rfl,trivial⟩,⟨rfl,rfl,rfl,.inl (by rw [ht];rfl),.inl rfl,.inl rfl,.inl rfl,trivial⟩,rfl⟩
 ·rintro f1 m1 ⟨s,k,hk,hs,rfl,rfl⟩
  have BC:=bal_ro hE' (x:=vc) (C:=g.c) rfl (by omega)
  have BP:=bal_ro hE' (x:=vp) (C:=g.p) rfl (by omega)
  refine ⟨_,rfl,?_⟩
  refine .inr (.inr (.inr ⟨[(9611,9702),(9602,9507)],[9507],[_],[_],_,BC,rfl,⟨.inl rfl,trivial⟩,rfl,trivial,?_⟩))
  rintro r U ⟨xc,nc,hnc,hxc,rfl,rfl⟩
  refine ⟨by kernel_rfl,?_⟩
  obtain ⟨sa,sc,rfl⟩:=hs.len
  obtain ⟨xca,xcc,rfl⟩:=hxc.len
  refine ⟨by decide,isL_one hxc,#[.slice sa k sc,.slice xca nc xcc,.slice none 0 0],rfl,?_⟩
  refine ⟨_,rfl,?_⟩
  refine .inr (.inr (.inr ⟨[(9611,9703),(9602,9508)],[9508],[_],[_],_,BP,rfl,⟨.inl rfl,trivial⟩,rfl,trivial,?_⟩))
  rintro r U ⟨xp,np,hnp,hxp,rfl,rfl⟩
  refine ⟨by kernel_rfl,?_⟩
  obtain ⟨xpa,xpc,rfl⟩:=hxp.len
  refine ⟨by decide,isL_one hxp,#[.slice sa k sc,.slice xca nc xcc,.slice xpa np xpc],rfl,?_⟩
  have hmE:∀ b:Bool,(amtB (nzf g.c) && amtB (nzf g.p))=b→¬ ((nzf g.h).length > 64∨(nzf g.c).length > 8)→finE ⟨nzf g.h,nzf g.c,nzf g.p⟩=if b then 0 else 33:=fun b hb hm=>by
   rw [← hb];unfold finE;rw [if_neg hm];rfl
  have bad1:(nzf g.h).length > 64∨(nzf g.c).length > 8→finN g=(.zero,123):=fun h=>by
   have:finE ⟨nzf g.h,nzf g.c,nzf g.p⟩=123:=by unfold finE;rw [if_pos h]
   unfold finN pfL;rw [this];rfl
  refine ⟨_,rfl,_,fun w' _=>run_len_sl Tryz.underlying27 w',?_⟩
  refine ⟨fun c=>?_,fun c=>?_⟩
  ·have c:¬ k > 64:=by have:=of_decide_eq_false (show decide (((k:Nat):Int) > 64)=false from c);omega
   refine ⟨_,rfl,_,fun w' _=>run_len_sl Tryz.underlying28 w',fun c2=>?_,fun c2=>?_⟩
   ·have c2:nc > 8:=by have:=of_decide_eq_true (show decide (((nc:Nat):Int) > 8)=true from c2);omega
    refine ⟨_,rfl,nil3_fits,?_⟩
    exact ⟨_,[],FinQ.bad (bad1 (.inr (by omega))),⟨.inl rfl,.inl rfl,.inl rfl,.inr ⟨rfl,rfl,rfl⟩,.inr ⟨rfl,rfl,rfl⟩,.inr ⟨rfl,rfl,rfl⟩,trivial⟩,rfl⟩
   ·have c2:¬ nc > 8:=by have:=of_decide_eq_false (show decide (((nc:Nat):Int) > 8)=false from c2);omega
    have hmE:=fun b hb=>hmE b hb (by omega)
    have bad2:(amtB (nzf g.c) && amtB (nzf g.p))=false→finN g=(.zero,33):=fun h=>by
     unfold finN pfL;rw [hmE false h];rfl
    refine ⟨fun c3=>?_,fun c3=>?_⟩
    ·have c3:(!amtB (nzf g.c))=false:=c3
     have c3:amtB (nzf g.c)=true:=by simpa using c3
     refine ⟨fun c4=>?_,fun c4=>?_⟩
     ·have c4:(!amtB (nzf g.p))=true:=c4
      have c4:amtB (nzf g.p)=false:=by simpa using c4
      refine ⟨_,rfl,nil3_fits,?_⟩
      exact ⟨_,[],FinQ.bad (bad2 (by rw [c4,Bool.and_false])),⟨.inl rfl,.inl rfl,.inl rfl,.inr ⟨rfl,rfl,rfl⟩,.inr ⟨rfl,rfl,rfl⟩,.inr ⟨rfl,rfl,rfl⟩,trivial⟩,rfl⟩
     ·have c4:(!amtB (nzf g.p))=false:=c4
      have c4:amtB (nzf g.p)=true:=by simpa using c4
      have hF:finN g=(⟨nzf g.h,nzf g.c,nzf g.p⟩,0):=by
       unfold finN pfL;rw [hmE true (by rw [c3,c4];rfl)];rfl
      have Q:FinQ g (.slice ha g.h.length hcap) vc vp (.tuple #[.agg #[.slice sa k sc,.slice xca nc xcc,.slice xpa np xpc],.int .i64 0]) [(9701,Blk.own (.slice ha g.h.length hcap) 90 2 g.h.length (cat sumA g.h)),(9702,Blk.own vc 85 3 g.c.length (cat sumK g.c)),(9703,Blk.own vp 85 3 g.p.length (cat sumK g.p)),(9506,Blk.own (.slice sa k sc) 90 2 k (cat sumA (nzf g.h))),(9507,Blk.own (.slice xca nc xcc) 85 3 nc (cat sumK (nzf g.c))),(9508,Blk.own (.slice xpa np xpc) 85 3 np (cat sumK (nzf g.p)))]:=⟨_,_,_,by rw [hF];show IsL _ (nzf g.h).length;rw [← hk];exact hs,by rw [hF];show IsL _ (nzf g.c).length;rw [← hnc];exact hxc,by rw [hF];show IsL _ (nzf g.p).length;rw [← hnp];exact hxp,by rw [hF],by rw [hF,hk,hnc,hnp]⟩
      exact ⟨fits3 rfl rfl rfl,_,[],Q,⟨.inl rfl,.inl rfl,.inl rfl,.inl rfl,.inl rfl,.inl rfl,trivial⟩,rfl⟩
    ·have c3:(!amtB (nzf g.c))=true:=by simpa using c3
     have c3:amtB (nzf g.c)=false:=by simpa using c3
     refine ⟨fun _=>?_,nofun⟩
     refine ⟨_,rfl,nil3_fits,?_⟩
     exact ⟨_,[],FinQ.bad (bad2 (by rw [c3,Bool.false_and])),⟨.inl rfl,.inl rfl,.inl rfl,.inr ⟨rfl,rfl,rfl⟩,.inr ⟨rfl,rfl,rfl⟩,.inr ⟨rfl,rfl,rfl⟩,trivial⟩,rfl⟩
  ·have c:k > 64:=by have:=of_decide_eq_true (show decide (((k:Nat):Int) > 64)=true by simpa using c);omega
   refine ⟨fun _=>?_,nofun⟩
   refine ⟨_,rfl,nil3_fits,?_⟩
   exact ⟨_,[],FinQ.bad (bad1 (.inl (by omega))),⟨.inl rfl,.inl rfl,.inl rfl,.inr ⟨rfl,rfl,rfl⟩,.inr ⟨rfl,rfl,rfl⟩,.inr ⟨rfl,rfl,rfl⟩,trivial⟩,rfl⟩
end Go.Proofs.YtkaakbpeegpnkaaGreatDoor
