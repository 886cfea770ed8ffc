/- chapter 20: Value, the program. chapter 20: prices and rates, the document. chapter 20: a line is put behind, the document. chapter 20: the lines of holdings, the document. chapter 20: the lines of balances, the document. chapter 20: Value, the document. chapter 20: Verify, the program. chapter 20: Verify, the document. lists of the call own, lent to a callee that reads only; no condition. -/
import Derived.Test.YtofllflnmmjijaaGreatDoorP35
set_option maxRecDepth 100000
set_option maxHeartbeats 4000000
namespace Go.Proofs.YtofllflnmmjijaaGreatDoor
open Go Go.RowKit Go.SX
theorem line_i {E:Env} (hE:E.P=Tryz.prog) {v:VQ} {vh vc vp vq vs vn va:Value} {A:Array Value} (hA:VA v vh vc vp vq vs vn va A) (I:VIn E v vh vc vp vq vs vn va) {it:ItQ} (hi:it∈itemsQ v):∃ t u g r,itV it=.iface t u∧Meth Tryz.prog t u "fundadmin/valuation.line" g r∧OwnC E g [SV.c r,SV.c (.agg A)] [] (fun r U=>r=lineR v it∧U=[]):=by
 unfold itemsQ at hi
 simp only [List.mem_append,List.mem_map] at hi
 rcases hi with ⟨x,hx,rfl⟩ | ⟨x,hx,rfl⟩ | ⟨x,hx,rfl⟩ | ⟨x,hx,rfl⟩
 ·exact ⟨_,_,_,_,rfl,meth_h _,line_h hE hA I x⟩
 ·exact ⟨_,_,_,_,rfl,meth_b _,line_b hE hA x 2⟩
 ·exact ⟨_,_,_,_,rfl,meth_b _,line_b hE hA x 3⟩
 ·exact ⟨_,_,_,_,rfl,meth_f _,line_f hE hA (I.ain x hx)⟩
theorem off_it (j:Nat):offAt 0 ((j:Nat):Int) (tV .nilIface).size=j:=by
 show offAt 0 ((j:Nat):Int) 1=j
 simp [offAt]
theorem shA_fits (s:ShQ) {x:Value} (h:x.oneCell'=true):Fits (s.A x) 5:=⟨rfl,by simp [ShQ.A,h];exact ⟨rfl,rfl,rfl,rfl⟩⟩
theorem value_v {E:Env} (hE:E.P=Tryz.prog) {v:VQ} {vh vc vp vq vs vn va:Value} {A:Array Value} (hA:VA v vh vc vp vq vs vn va A) (I:VIn E v vh vc vp vq vs vn va):OwnC E 6 [SV.c (.agg A)] [] (ShQx (valQ v)):=by
 refine sx_ownC [9] tt_ok mixed at6 E hE [SV.c (.agg A)] [] _ rfl rfl fun w X β hT=>?_
 have J:=I.of_old hT
 have hE2:(envC Tryz.prog tt Tryz.f6.ntmps w X (tiedK [] β) [9]).toEnv.P=Tryz.prog:=rfl
 have K1:=check_v hE2 hA J
 have IT:=fun hl=>items_v hE2 hA J hl
 have LI:=fun it hi=>line_i hE2 hA J (it:=it) hi
 have RT:=fun a=>Rate_e hE2 J.q v.known v.day (u:=v.piv) (a:=a) (b:=v.cur)
 obtain ⟨hs,g0,g1,g2,g3,g4,g5,g6,g7,gp,gl,g76,g77⟩:=hA
 have FSh:=fill_sh3 v.cur v.day v.known rfl
 have zsh:shZero.A (.slice none 0 0)=ti42.zero:=rfl
 have zf:Fits ti42.zero 5:=zsh ▸ shA_fits shZero rfl
 have ret:∀ e,valQ v=(shZero,e)→ShQx (valQ v) (mkRes [.agg ti42.zero,.int .i64 e]) [(9800,Blk.own (.slice none 0 0) 60 137 0 #[])]:=fun e h=>by
  rw [h]
  exact ⟨.slice none 0 0,.nil,rfl,rfl⟩
 refine ⟨hs,.inr (.inr (.inl ⟨[],[_],[],_,[],K1,rfl,trivial,rfl,rfl,fun c=>?_,fun c=>?_⟩))⟩
 ·have c:((if chkV v then (0:Int) else 201) != 0)=true:=c
  have hc:chkV v=false:=by cases e:chkV v<;>simp [e] at c ⊢
  rw [hc]
  refine ⟨_,rfl,zf,?_⟩
  exact ⟨[(9800,Blk.own (.slice none 0 0) 60 137 0 #[])],[],ret 201 (valQ_bad hc),⟨.inr ⟨rfl,rfl,rfl⟩,trivial⟩,rfl⟩
 have c:((if chkV v then (0:Int) else 201) != 0)=false:=c
 have hc:chkV v=true:=by cases e:chkV v<;>simp [e] at c ⊢
 obtain ⟨-,-,-,-,-,-,-,-,-,htot⟩:=chkV_parts hc
 have SF:∀ (y:Value) (n:Int),y.oneCell'=true→Fits #[.string (S v.cur),.int .i64 v.day,.int .i64 v.known,y,.int .i64 n] 5:=fun y n h=>shA_fits ⟨v.cur,v.day,v.known,[],n⟩ h
 refine ⟨_,g0,_,g2,_,g3,_,FSh,SF _ _ rfl,?_⟩
 have IT:=IT htot
 have hlen:(itemsQ v).length≤512:=by rw [items_len];exact htot
 refine .inr (.inr (.inr ⟨[],[9900],[_],[],_,IT,rfl,trivial,rfl,trivial,?_⟩))
 rintro r U ⟨xI,hxI,rfl,rfl⟩
 obtain ⟨ia,ic,rfl⟩:=hxI.len
 refine ⟨rfl,_,fun w' _=>run_len_sl Tryz.underlying55 w',?_⟩
 generalize hIL:itemsQ v=IL at LI hxI hlen ⊢
 refine ⟨fun q f m=>∃ (i:Nat) (y:Value) (ls:List LnQ),q=IL.length - i∧i≤IL.length∧runV v (IL.take i)=.ok ls∧IsL y i∧ls.length=i∧f=[(1,SV.ptr 1 0),(2,SV.ptr 2 0),(5,SV.ptr 5 0),(25,SV.c (.slice ia IL.length ic)),(26,SV.c (.int .i64 (IL.length:Nat))),(27,SV.c (.int .i64 (i:Nat)))]∧m=[(1,Blk.row 39 78 A),(2,Blk.row 42 5 ti42.zero),(5,Blk.row 42 5 #[.string (S v.cur),.int .i64 v.day,.int .i64 v.known,y,.int .i64 (totQ ls)]),(9900,Blk.own (.slice ia IL.length ic) 58 1 IL.length (cat itA IL)),(9800,Blk.own y 60 137 i (cat LnQ.A ls))],IL.length,⟨_,_,⟨0,.slice none 0 0,[],rfl,by omega,rfl,.nil,rfl,rfl,rfl⟩,⟨rfl,rfl,rfl,rfl,rfl,rfl,trivial⟩,⟨rfl,rfl,rfl,.inl rfl,.inr ⟨rfl,rfl,rfl⟩,trivial⟩,rfl⟩,?_⟩
 rintro q f m ⟨i,y,ls,rfl,hi,hrun,hy,hls,rfl,rfl⟩
 refine ⟨fun h=>?_,fun h=>?_⟩
 ·have h:i < IL.length:=by have:=of_decide_eq_true h;omega
  obtain ⟨it,hit⟩:∃ z,IL[i]? = some z:=⟨_,List.getElem?_eq_getElem h⟩
  have him:=List.mem_of_getElem? hit
  obtain ⟨t,u,g,r,eit,hm,hL⟩:=LI it him
  have C0:(cat itA IL)[offAt 0 ((i:Nat):Int) (tV .nilIface).size]? = some (.iface t u):=by
   rw [off_it,← eit]
   have:=cat_get itA_size IL i it 0 hit (by omega)
   simpa [itA] using this
  have hsI:∃ gI,ia=some ⟨gI,0,none⟩:=by
   rcases hxI with ⟨e1,e2⟩ | ⟨gI,cI,e1⟩
   ·have e2:IL.length=0:=e2
    omega
   ·cases e1;exact ⟨gI,rfl⟩
  obtain ⟨gI,rfl⟩:=hsI
  refine ⟨by omega,by omega,.inr ⟨9900,gI,_,IL.length,_,_,_,_,rfl,rfl,_,C0,?_⟩⟩
  obtain ⟨l,fr,e,hLQ⟩:∃ l fr e,lineQ v it=(l,fr,e):=⟨_,_,_,rfl⟩
  have hin:=line_in hc J.q.inn J.nin (it:=it) (by rw [hIL];exact him)
  rw [hLQ] at hin
  obtain ⟨hpin,hq1,hq2⟩:=hin
  have hpin:l.price.In:=hpin
  have hq1 : -2000000000000000≤l.qty:=hq1
  have hq2:l.qty≤2000000000000000:=hq2
  have hLR:lineR v it=.tuple #[.agg l.A,.string (S fr),.int .i64 e]:=by unfold lineR;rw [hLQ]
  rw [hLR] at hL
  have LF:=l.fits
  have QR:=l.setrate
  have QA:=fun (x:RQ)=>({ l with rate:=x }:LnQ).setamt
  have LG:=fun (x:RQ) (n:Int)=>({ l with rate:=x,amt:=n }:LnQ).fits
  have G3:=fun (x:RQ)=>({ l with rate:=x }:LnQ).g3
  have GP:=fun (x:RQ)=>({ l with rate:=x }:LnQ).gprice
  have GR:=fun (x:RQ)=>({ l with rate:=x }:LnQ).grate
  generalize hLA:l.A=LA at *
  refine ⟨fun f m=>f=[(1,SV.ptr 1 0),(2,SV.ptr 2 0),(5,SV.ptr 5 0),(25,SV.c (.slice (some ⟨gI,0,none⟩) IL.length ic)),(26,SV.c (.int .i64 (IL.length:Nat))),(27,SV.c (.int .i64 (i:Nat))),(8,SV.ptr 8 0),(9,SV.c (.string (S fr))),(10,SV.c (.int .i64 e))]∧m=[(1,Blk.row 39 78 A),(2,Blk.row 42 5 ti42.zero),(5,Blk.row 42 5 #[.string (S v.cur),.int .i64 v.day,.int .i64 v.known,y,.int .i64 (totQ ls)]),(9900,Blk.own (.slice (some ⟨gI,0,none⟩) IL.length ic) 58 1 IL.length (cat itA IL)),(9800,Blk.own y 60 137 i (cat LnQ.A ls)),(8,Blk.row 60 137 LA)],?_,?_⟩
  ·refine goodX_invoke rfl rfl rfl hm (.inl ⟨[],[_,_],[],_,[],hL,rfl,trivial,rfl,rfl,?_⟩)
   exact ⟨LF,_,_,⟨rfl,rfl⟩,⟨rfl,rfl,rfl,rfl,rfl,rfl,rfl,rfl,rfl,trivial⟩,⟨rfl,rfl,rfl,.inl rfl,.inl rfl,rfl,trivial⟩,rfl⟩
  rintro f1 m1 ⟨rfl,rfl⟩
  refine ⟨fun c=>?_,fun c=>?_⟩
  ·have c:(e != 0)=true:=c
   refine ⟨_,rfl,zf,?_⟩
   exact ⟨[(9800,Blk.own (.slice none 0 0) 60 137 0 #[])],[(9800,9801)],ret e (valQ_err hc (by rw [hIL];exact runV_stop hit hrun (stepQ_1 hLQ (by simpa using c)))),⟨.inr ⟨rfl,rfl,rfl⟩,trivial⟩,rfl⟩
  have c:(e != 0)=false:=c
  have e0:e=0:=by simpa using c
  subst e0
  have RT:=RT fr
  obtain ⟨R,e2,hR⟩:∃ R e2,rateQ v.qs v.known v.pol v.day v.piv fr v.cur=(R,e2):=⟨_,_,rfl⟩
  have hRin:R.In:=by have:=rateQ_in (xs:=v.qs) (k:=v.known) (p:=v.pol) (day:=v.day) (u:=v.piv) (a:=fr) (b:=v.cur);rw [hR] at this;exact this
  rw [hR] at RT
  have QR:=QR R
  have QA:=QA R
  have LG:=LG R
  have G3:=G3 R
  have GP:=GP R
  have GR:=GR R
  have RF:=R.A_fits
  generalize hLB:LnQ.A { l with rate:=R }=LB at *
  obtain ⟨n,e3,hN⟩:∃ n e3,amtQ l.qty l.price R=(n,e3):=⟨_,_,rfl⟩
  have AM:=amount_v (n:=l.qty) (by omega) hpin hRin
  rw [hN] at AM
  clear hL LI K1
  generalize v.pol.A vs=PA at *
  refine ⟨_,g7,by decide,_,gl,_,g3,_,g1,_,g0,_,g2,?_⟩
  refine .inr (.inr (.inl ⟨[],[_,_,_,_,_,_,_],[],_,[],RT,rfl,trivial,rfl,rfl,?_⟩))
  refine ⟨by decide,RF,LB,QR,fun c2=>?_,fun c2=>?_⟩
  ·have c2:(e2 != 0)=true:=c2
   refine ⟨_,rfl,zf,?_⟩
   exact ⟨[(9800,Blk.own (.slice none 0 0) 60 137 0 #[])],[(9800,9801)],ret e2 (valQ_err hc (by rw [hIL];exact runV_stop hit hrun (stepQ_2 hLQ hR (by simpa using c2)))),⟨.inr ⟨rfl,rfl,rfl⟩,trivial⟩,rfl⟩
  have c2:(e2 != 0)=false:=c2
  have e0:e2=0:=by simpa using c2
  subst e0
  have LG:=LG n
  have QA:=QA n
  generalize hLC:LnQ.A { l with rate:=R,amt:=n }=LC at *
  refine ⟨_,G3,by decide,_,GP,by decide,_,GR,.inl ⟨_,AM,?_⟩⟩
  refine ⟨by decide,rfl,LC,QA,fun c3=>?_,fun c3=>?_⟩
  ·have c3:(e3 != 0)=true:=c3
   refine ⟨_,rfl,zf,?_⟩
   exact ⟨[(9800,Blk.own (.slice none 0 0) 60 137 0 #[])],[(9800,9801)],ret e3 (valQ_err hc (by rw [hIL];exact runV_stop hit hrun (stepQ_3 hLQ hR hN (by simpa using c3)))),⟨.inr ⟨rfl,rfl,rfl⟩,trivial⟩,rfl⟩
  have c3:(e3 != 0)=false:=c3
  have e0:e3=0:=by simpa using c3
  subst e0
  have hst:=stepQ_4 hLQ hR hN
  have hrun2:=runV_next hit hrun hst
  have FL:=fill_line1 { l with rate:=R,amt:=n }
  have XL:=LnQ.ext137 { l with rate:=R,amt:=n }
  have OL:=LnQ.one { l with rate:=R,amt:=n }
  have GA:=LnQ.g136 { l with rate:=R,amt:=n }
  have SL:=cat_snoc (g:=LnQ.A) ls { l with rate:=R,amt:=n }
  rw [hLC] at FL XL OL GA SL
  obtain ⟨qi,hqi,hbi⟩:=info_ln
  obtain ⟨ya,yc,rfl⟩:=hy.len
  have hsz:LC.size=1*137:=LG.size
  have hbd:=totQ_bd (ls++[{ l with rate:=R,amt:=n }]) (fun z hz=>(runV_amt hrun2).2 z hz)
  rw [List.length_append,hls] at hbd
  have hts:=totQ_snoc ls { l with rate:=R,amt:=n }
  have hw:IntKind.i64.wrap (totQ ls+n)=totQ (ls++[{ l with rate:=R,amt:=n }]):=by
   rw [hts]
   refine i64_in ?_
   rw [hts] at hbd
   have e1:((i + [({ l with rate:=R,amt:=n }:LnQ)].length:Nat):Int)=(i:Int)+1:=by simp
   rw [e1] at hbd
   show _≤totQ ls+n∧_
   have hbd : -(1000000000000000*((i:Int)+1))≤totQ ls+n∧totQ ls+n≤1000000000000000*((i:Int)+1):=hbd
   omega
  refine ⟨_,rfl,.inl ⟨by decide,by decide,_,FL,hsz,by decide,9800,i,_,.inl rfl,by decide,OL,hsz,_,XL,?_⟩⟩
  refine ⟨by omega,by unfold maxLen;omega,⟨qi,hqi,by rw [hbi];omega⟩,trivial,fun g2 cap2=>?_⟩
  refine ⟨by decide,rfl,#[.string (S v.cur),.int .i64 v.day,.int .i64 v.known,.slice (some ⟨g2,0,none⟩) (i+1) cap2,.int .i64 (totQ ls)],rfl,?_⟩
  refine ⟨_,rfl,_,GA,by decide,rfl,#[.string (S v.cur),.int .i64 v.day,.int .i64 v.known,.slice (some ⟨g2,0,none⟩) (i+1) cap2,.int .i64 (IntKind.i64.wrap (totQ ls+n))],rfl,?_⟩
  exact ⟨IL.length - (i+1),_,[(1,Blk.row 39 78 A),(2,Blk.row 42 5 ti42.zero),(5,Blk.row 42 5 #[.string (S v.cur),.int .i64 v.day,.int .i64 v.known,.slice (some ⟨g2,0,none⟩) (i+1) cap2,.int .i64 (totQ (ls++[{ l with rate:=R,amt:=n }]))]),(9900,Blk.own (.slice (some ⟨gI,0,none⟩) IL.length ic) 58 1 IL.length (cat itA IL)),(9800,Blk.own (.slice (some ⟨g2,0,none⟩) (i+1) cap2) 60 137 (i+1) (cat LnQ.A (ls++[{ l with rate:=R,amt:=n }])))],by omega,⟨i+1,_,_,rfl,by omega,hrun2,.some,by simp [hls],rfl,rfl⟩,⟨rfl,rfl,rfl,rfl,rfl,c_int (i64_succ (by omega)),trivial⟩,⟨rfl,rfl,congrArg (fun z=>some (Blk.row 42 5 #[.string (S v.cur),.int .i64 v.day,.int .i64 v.known,.slice (some ⟨g2,0,none⟩) (i+1) cap2,.int .i64 z])) hw,.inl rfl,.inl (own_eq SL),trivial⟩,rfl⟩
 ·have h:i=IL.length:=by have:=of_decide_eq_false h;omega
  subst h
  rw [List.take_length,← hIL] at hrun
  obtain ⟨ya,yc,rfl⟩:=hy.len
  have W1:=within_v (totQ ls) (-1000000000000000) 1000000000000000
  refine ⟨_,rfl,.inl ⟨_,W1,fun c=>?_,fun c=>?_⟩⟩
  ·have c:=bnot_t c
   refine ⟨_,rfl,zf,?_⟩
   exact ⟨[(9800,Blk.own (.slice none 0 0) 60 137 0 #[])],[(9800,9801)],ret 33 (valQ_out hc hrun c),⟨.inr ⟨rfl,rfl,rfl⟩,trivial⟩,rfl⟩
  ·have c:=bnot_f c
   refine ⟨SF _ _ rfl,?_⟩
   refine ⟨[(9800,Blk.own (.slice ya IL.length yc) 60 137 IL.length (cat LnQ.A ls))],[],?_,⟨.inl rfl,trivial⟩,rfl⟩
   rw [valQ_ok hc hrun c]
   have hy':IsL (.slice ya IL.length yc) ls.length:=by rw [hls];exact hy
   exact ⟨_,hy',rfl,by show _=[(9800,Blk.own _ _ 137 ls.length _)];rw [hls]⟩
abbrev shM (v:VQ) (y:Value) (ls:List LnQ):MemL:=[(9700,Blk.row 42 5 #[.string (S v.cur),.int .i64 v.day,.int .i64 v.known,y,.int .i64 (totQ ls)]),(9800,Blk.own y 60 137 ls.length (cat LnQ.A ls))]
def RefS (v:VQ) (R:Except Int (List LnQ)) (r:Value) (U:MemL):Prop:=∃ (y:Value) (ls:List LnQ),IsL y ls.length∧U=shM v y ls∧match R with
 | .error e=>r=.int .i64 e∧e≠0
 | .ok l2=>r=.int .i64 0∧ls=l2
structure LsOk (ls:List LnQ):Prop where
 n:ls.length≤511
 b:∀ x∈ls,-1000000000000000≤x.amt∧x.amt≤1000000000000000
def runF (v:VQ) (ls:List LnQ) (its:List ItQ):Except Int (List LnQ):=match runV v its with
 | .error e=>.error e
 | .ok z=>.ok (ls++z)
theorem runV_len {v:VQ} {l:List ItQ} {z:List LnQ} (h:runV v l=.ok z):z.length=l.length:=(runV_amt h).1
structure LsR (ls:List LnQ) (k:Nat):Prop where
 n:ls.length+k≤512
 b:∀ x∈ls,-1000000000000000≤x.amt∧x.amt≤1000000000000000
theorem LsR.ok {v:VQ} {ls z:List LnQ} {l:List ItQ} {i:Nat} (h:LsR ls l.length) (hr:runV v (l.take i)=.ok z) (hi:i < l.length):LsOk (ls++z):=by
 have h1:=runV_len hr
 rw [List.length_take] at h1
 have:=h.n
 refine ⟨by rw [List.length_append];omega,fun x hx=>?_⟩
 rcases List.mem_append.1 hx with hx | hx
 ·exact h.b x hx
 ·exact (runV_amt hr).2 x hx
def St (v:VQ) (P:List ItQ) (e:Int) (ls:List LnQ):Prop:=match runV v P with
 | .error e'=>e=e'∧e'≠0
 | .ok z=>e=0∧ls=z
def ROut (R:Except Int (List LnQ)) (e:Int) (l2:List LnQ):Prop:=match R with
 | .error e'=>Value.int .i64 e=.int .i64 e'∧e'≠0
 | .ok z=>Value.int .i64 e=.int .i64 0∧l2=z
theorem St.of {v:VQ} {ls l2:List LnQ} {P Q:List ItQ} {e:Int} (h:runV v P=.ok ls) (hr:ROut (runF v ls Q) e l2):St v (P++Q) e l2:=by
 unfold St
 rw [runV_append,h]
 unfold ROut runF at hr
 cases hq:runV v Q with
 | error e' =>
  rw [hq] at hr
  obtain ⟨h1,h2⟩:=hr
  simp only [Value.int.injEq,true_and] at h1
  exact ⟨h1,h2⟩
 | ok z =>
  rw [hq] at hr
  obtain ⟨h1,h2⟩:=hr
  simp only [Value.int.injEq,true_and] at h1
  exact ⟨h1,h2⟩
theorem St.ok {v:VQ} {ls:List LnQ} {P:List ItQ} (h:St v P 0 ls):runV v P=.ok ls:=by
 unfold St at h
 cases hp:runV v P with
 | error e'=>rw [hp] at h;exact absurd h.1.symm h.2
 | ok z=>rw [hp] at h;rw [h.2]
theorem St.bad {v:VQ} {ls:List LnQ} {P:List ItQ} {e:Int} (h:St v P e ls) (he:e≠0):runV v P=.error e:=by
 unfold St at h
 cases hp:runV v P with
 | error e'=>rw [hp] at h;rw [h.1]
 | ok z=>rw [hp] at h;exact absurd h.1 he
theorem RefS.int {v:VQ} {R:Except Int (List LnQ)} {r:Value} {U:MemL} (h:RefS v R r U):∃ (e:Int) (y:Value) (ls:List LnQ),r=.int .i64 e∧IsL y ls.length∧U=shM v y ls∧ROut R e ls:=by
 obtain ⟨y,ls,h1,h2,h3⟩:=h
 cases R with
 | error e'=>exact ⟨e',y,ls,h3.1,h1,h2,rfl,h3.2⟩
 | ok z=>exact ⟨0,y,ls,h3.1,h1,h2,rfl,h3.2⟩
def hdrB (s:ShQ):Bool:=curOk s.cur && (inB s.day 0 73048 && (inB s.known 0 2147483647 && decide (s.lines.length≤512)))
theorem verQ_1 {s:ShQ} (h:hdrB s=false):verQ s=200:=by unfold hdrB at h;unfold verQ;rw [h];rfl
theorem verQ_2 {s:ShQ} {i:Nat} {y:LnQ} (hy:s.lines[i]? = some y) (h:lnOk y=false):verQ s=200:=by
 have:s.lines.all lnOk=false:=by
  rw [List.all_eq_false]
  exact ⟨y,List.mem_of_getElem? hy,by rw [h];simp⟩
 unfold verQ;rw [this];simp
theorem verQ_3 {s:ShQ} (h:(decide (totQ s.lines=s.total) && inB s.total (-1000000000000000) 1000000000000000)=false):verQ s=200:=by unfold verQ;rw [h];simp
theorem verQ_4 {s:ShQ} (h1:hdrB s=true) (h2:∀ (j:Nat) y,s.lines[j]? = some y→lnOk y=true) (h:(decide (totQ s.lines=s.total) && inB s.total (-1000000000000000) 1000000000000000)=true):verQ s=0:=by
 have:s.lines.all lnOk=true:=by
  rw [List.all_eq_true]
  intro x hx
  obtain ⟨j,hj⟩:=List.getElem?_of_mem hx
  exact h2 j x hj
 unfold hdrB at h1
 unfold verQ;rw [h1,this,h];rfl
theorem lnOk_amt {y:LnQ} (h:lnOk y=true) : -1000000000000000≤y.amt∧y.amt≤1000000000000000:=by
 unfold lnOk at h
 simp only [Bool.and_eq_true,decide_eq_true_eq] at h
 have:=amtQ_bd y.qty y.price y.rate
 rw [h.1] at this
 exact this
theorem take_tot {ls:List LnQ} {i:Nat} {y:LnQ} (hy:ls[i]? = some y):totQ (ls.take (i+1))=totQ (ls.take i)+y.amt:=by
 rw [List.take_add_one,hy]
 exact totQ_snoc _ _
theorem take_bd {ls:List LnQ} {i:Nat} (h:∀ (j:Nat) y,j < i→ls[j]? = some y→lnOk y=true) (hi:i≤512) : -512000000000000000≤totQ (ls.take i)∧totQ (ls.take i)≤512000000000000000:=by
 have:=totQ_bd (ls.take i) fun x hx=>by
  obtain ⟨j,hj⟩:=List.getElem?_of_mem hx
  have hl:=(List.getElem?_eq_some_iff.1 hj).1
  rw [List.length_take] at hl
  rw [List.getElem?_take_of_lt (by omega)] at hj
  exact lnOk_amt (h j x (by omega) hj)
 have hl:(ls.take i).length≤512:=by rw [List.length_take];omega
 omega
theorem verify_v {E:Env} (hE:E.P=Tryz.prog) {s:ShQ} {vl:Value} (hv:Lst E vl 137 s.lines.length (cat LnQ.A s.lines)) (hin:∀ y∈s.lines,y.In) (hcur:s.cur.length≤9223372036854775807):OwnC E 14 [SV.c (.agg (s.A vl))] [] (fun r U=>r=.int .i64 (verQ s)∧U=[]):=by
 refine sx_ownC [] tt_ok mixed at14 E hE [SV.c (.agg (s.A vl))] [] _ rfl rfl fun w X β hT=>?_
 obtain ⟨a,cap,rfl,-,h4⟩:=(hv.of_old hT).shape
 have K1:=currency_v s.cur hcur
 have D1:=within_v s.day 0 73048
 have D2:=within_v s.known 0 2147483647
 have W1:=within_v s.total (-1000000000000000) 1000000000000000
 have t1:=verQ_1 (s:=s)
 have t2:=fun i y=>verQ_2 (s:=s) (i:=i) (y:=y)
 have t3:=verQ_3 (s:=s)
 have t4:=verQ_4 (s:=s)
 have hh:hdrB s=(curOk s.cur && (inB s.day 0 73048 && (inB s.known 0 2147483647 && decide (s.lines.length≤512)))):=rfl
 generalize verQ s=VR at *
 have nf:∀ {p:Prop},true=false→p:=fun h=>by cases h
 refine ⟨rfl,_,rfl,.inl ⟨_,K1,fun c1=>?_,fun c1=>?_⟩⟩
 case refine_2 =>
  have c1:curOk s.cur=false:=bnot_t c1
  exact ⟨nf,fun _=>⟨nf,fun _=>⟨fun _=>⟨[],[],⟨by rw [t1 (by rw [hh,c1];rfl)];rfl,rfl⟩,trivial,rfl⟩,nf⟩⟩⟩
 have c1:curOk s.cur=true:=bnot_f c1
 refine ⟨_,rfl,.inl ⟨_,D1,fun c2=>?_,fun c2=>?_⟩⟩
 case refine_2 =>
  have c2:inB s.day 0 73048=false:=bnot_t c2
  exact ⟨nf,fun _=>⟨fun _=>⟨[],[],⟨by rw [t1 (by rw [hh,c2];simp)];rfl,rfl⟩,trivial,rfl⟩,nf⟩⟩
 have c2:inB s.day 0 73048=true:=bnot_f c2
 refine ⟨_,rfl,.inl ⟨_,D2,fun c3=>?_,fun c3=>?_⟩⟩
 case refine_2 =>
  have c3:inB s.known 0 2147483647=false:=bnot_t c3
  exact ⟨fun _=>⟨[],[],⟨by rw [t1 (by rw [hh,c3];simp)];rfl,rfl⟩,trivial,rfl⟩,nf⟩
 have c3:inB s.known 0 2147483647=true:=bnot_f c3
 refine ⟨_,rfl,_,fun w' _=>run_len_sl Tryz.underlying40 w',fun c4=>?_,fun c4=>?_⟩
 ·have c4:s.lines.length > 512:=by have:=of_decide_eq_true (show decide (((s.lines.length:Nat):Int) > 512)=true from c4);omega
  exact ⟨[],[],⟨by rw [t1 (by rw [hh,decide_eq_false (show ¬ s.lines.length≤512 by omega)];simp)];rfl,rfl⟩,trivial,rfl⟩
 have c4:¬ s.lines.length > 512:=by have:=of_decide_eq_false (show decide (((s.lines.length:Nat):Int) > 512)=false from c4);omega
 have hh1:hdrB s=true:=by rw [hh,c1,c2,c3,decide_eq_true (show s.lines.length≤512 by omega)];rfl
 clear hh
 refine ⟨_,rfl,_,fun w' _=>run_len_sl Tryz.underlying40 w',?_⟩
 refine ⟨fun q f m=>∃ (i:Nat),q=s.lines.length - i∧i≤s.lines.length∧(∀ (j:Nat) y,j < i→s.lines[j]? = some y→lnOk y=true)∧f=[(1,SV.ptr 1 0),(3,SV.c (.int .i64 (totQ (s.lines.take i)))),(31,SV.c (.slice a s.lines.length cap)),(32,SV.c (.int .i64 (s.lines.length:Nat))),(33,SV.c (.int .i64 (i:Nat)))]∧m=[(1,Blk.row 42 5 (s.A (.slice a s.lines.length cap)))],s.lines.length,⟨_,_,⟨0,rfl,by omega,fun j y h=>by omega,rfl,rfl⟩,⟨rfl,rfl,rfl,rfl,rfl,trivial⟩,⟨rfl,trivial⟩,rfl⟩,?_⟩
 rintro q f m ⟨i,rfl,hi,hok,rfl,rfl⟩
 refine ⟨fun h=>?_,fun h=>?_⟩
 ·have h:i < s.lines.length:=by have:=of_decide_eq_true h;omega
  obtain ⟨b,o,rfl,h5⟩:=h4 (by omega)
  obtain ⟨y,hy⟩:∃ y,s.lines[i]? = some y:=⟨_,List.getElem?_eq_getElem h⟩
  have hyi:=hin y (List.mem_of_getElem? hy)
  have hE':VOk (envC Tryz.prog tt Tryz.f14.ntmps w X (tiedK [] β)):=tt_ok
  have L1:=lst_elem hE' h5 LnQ.size hy (ty:=60) (ti:=ti60) rfl rfl rfl (p:=o+(i:Int).toNat*137) rfl
  have AM:=amount_v hyi.qty hyi.price hyi.rate
  have hs:lnOk y=(decide (amtQ y.qty y.price y.rate=(y.amt,0)) && (inB y.kind 1 4 && inB y.day 0 73048)):=rfl
  have t2:=t2 i y hy
  have Y0:=y.g0
  have Y2:=y.g2
  have Y3:=y.g3
  have YA:=y.g136
  have YP:=y.gprice
  have YR:=y.grate
  have YF:=y.fits
  have X1:=within_v y.kind 1 4
  have X2:=within_v y.day 0 73048
  have tt1:=take_tot hy
  have tb:=take_bd hok (by omega)
  obtain ⟨n,e,hN⟩:∃ n e,amtQ y.qty y.price y.rate=(n,e):=⟨_,_,rfl⟩
  have hnb:=amtQ_bd y.qty y.price y.rate
  rw [hN] at AM hs hnb
  have hnb : -1000000000000000≤n∧n≤1000000000000000:=hnb
  have ret:lnOk y=false→mkRes [.int .i64 200]=Value.int .i64 VR:=fun h=>by rw [t2 h];rfl
  generalize hYY:y.A=YY at *
  refine ⟨by omega,by omega,.inl ⟨_,L1,YF,_,Y3,by decide,_,YP,by decide,_,YR,.inl ⟨_,AM,fun c5=>?_,fun c5=>?_⟩⟩⟩
  case refine_2 =>
   have c5:(e != 0)=true:=c5
   have c5:e≠0:=by simpa using c5
   exact ⟨nf,fun _=>⟨nf,fun _=>⟨fun _=>⟨[],[],⟨ret (by rw [hs,decide_eq_false (fun g=>c5 (congrArg Prod.snd g))];rfl),rfl⟩,trivial,rfl⟩,nf⟩⟩⟩
  have c5:(e != 0)=false:=c5
  have c5:e=0:=by simpa using c5
  subst c5
  refine ⟨_,YA,fun c6=>?_,fun c6=>?_⟩
  case refine_2 =>
   have c6:(n != y.amt)=true:=c6
   have c6:n≠y.amt:=by simpa using c6
   exact ⟨nf,fun _=>⟨fun _=>⟨[],[],⟨ret (by rw [hs,decide_eq_false (fun g=>c6 (congrArg Prod.fst g))];rfl),rfl⟩,trivial,rfl⟩,nf⟩⟩
  have c6:(n != y.amt)=false:=c6
  have c6:n=y.amt:=by simpa using c6
  refine ⟨_,Y0,.inl ⟨_,X1,fun c7=>?_,fun c7=>?_⟩⟩
  case refine_2 =>
   have c7:inB y.kind 1 4=false:=bnot_t c7
   exact ⟨fun _=>⟨[],[],⟨ret (by rw [hs,c7];simp),rfl⟩,trivial,rfl⟩,nf⟩
  have c7:inB y.kind 1 4=true:=bnot_f c7
  refine ⟨_,Y2,.inl ⟨_,X2,fun c8=>?_,fun c8=>?_⟩⟩
  ·have c8:inB y.day 0 73048=false:=bnot_t c8
   exact ⟨[],[],⟨ret (by rw [hs,c8];simp),rfl⟩,trivial,rfl⟩
  have c8:inB y.day 0 73048=true:=bnot_f c8
  have hg:lnOk y=true:=by rw [hs,c6,c7,c8];simp
  have hw:IntKind.i64.wrap (totQ (s.lines.take i)+n)=totQ (s.lines.take (i+1)):=by rw [tt1,← c6];exact i64_in (by omega)
  refine ⟨s.lines.length - (i+1),_,_,by omega,⟨i+1,rfl,by omega,fun j z hj hz=>?_,rfl,rfl⟩,⟨rfl,c_int hw,rfl,rfl,c_int (i64_succ (by omega)),trivial⟩,⟨rfl,trivial⟩,rfl⟩
  rcases Nat.lt_or_ge j i with h9 | h9
  ·exact hok j z h9 hz
  ·have:j=i:=by omega
   subst this
   rw [hy] at hz;cases hz
   exact hg
 ·have h:i=s.lines.length:=by have:=of_decide_eq_false h;omega
  subst h
  rw [List.take_length]
  refine ⟨_,rfl,fun c5=>?_,fun c5=>?_⟩
  case refine_2 =>
   have c5:(totQ s.lines != s.total)=true:=c5
   have c5:totQ s.lines≠s.total:=by simpa using c5
   exact ⟨fun _=>⟨[],[],⟨by rw [t3 (by rw [decide_eq_false c5];rfl)];rfl,rfl⟩,trivial,rfl⟩,nf⟩
  have c5:(totQ s.lines != s.total)=false:=c5
  have c5:totQ s.lines=s.total:=by simpa using c5
  rw [← c5] at W1
  refine .inl ⟨_,W1,fun c6=>?_,fun c6=>?_⟩
  ·have c6:=bnot_t c6
   exact ⟨[],[],⟨by rw [t3 (by rw [← c5,c6];simp)];rfl,rfl⟩,trivial,rfl⟩
  ·have c6:=bnot_f c6
   exact ⟨[],[],⟨by rw [t4 hh1 (fun j y hy=>hok j y (List.getElem?_eq_some_iff.1 hy).1 hy) (by rw [← c5,c6];simp)];rfl,rfl⟩,trivial,rfl⟩
theorem verify_r {E:Env} (hE:E.P=Tryz.prog) {s:ShQ} {vl:Value} (hv:Lst E vl 137 s.lines.length (cat LnQ.A s.lines)) (hin:∀ y∈s.lines,y.In):OwnC E 15 [SV.c (.agg (s.A vl))] [] (fun r U=>r=.int .i64 (verQ s)∧U=[]):=by
 refine sx_ownC [] tt_ok mixed at15 E hE [SV.c (.agg (s.A vl))] [] _ rfl rfl fun w X β hT=>?_
 obtain ⟨a,cap,rfl,-,h4⟩:=(hv.of_old hT).shape
 have K1:=code_r0 s.cur
 have D1:=out_r s.day
 rw [out_inB] at D1
 have t1:=verQ_1 (s:=s)
 have t2:=fun i y=>verQ_2 (s:=s) (i:=i) (y:=y)
 have t3:=verQ_3 (s:=s)
 have t4:=verQ_4 (s:=s)
 have hh:hdrB s=(curOk s.cur && (inB s.day 0 73048 && (inB s.known 0 2147483647 && decide (s.lines.length≤512)))):=rfl
 generalize verQ s=VR at *
 have nf:∀ {p:Prop},true=false→p:=fun h=>by cases h
 refine ⟨rfl,_,rfl,.inl ⟨_,K1,fun c1=>?_,fun c1=>?_⟩⟩
 case refine_2 =>
  have c1:curOk s.cur=false:=bnot_t c1
  exact ⟨nf,fun _=>⟨nf,fun _=>⟨nf,fun _=>⟨fun _=>⟨[],[],⟨by rw [t1 (by rw [hh,c1];rfl)];rfl,rfl⟩,trivial,rfl⟩,nf⟩⟩⟩⟩
 have c1:curOk s.cur=true:=bnot_f c1
 refine ⟨_,rfl,.inl ⟨_,D1,fun c2=>?_,fun c2=>?_⟩⟩
 case refine_2 =>
  have c2:inB s.day 0 73048=false:=bnot_t c2
  exact ⟨nf,fun _=>⟨nf,fun _=>⟨fun _=>⟨[],[],⟨by rw [t1 (by rw [hh,c2];simp)];rfl,rfl⟩,trivial,rfl⟩,nf⟩⟩⟩
 have c2:inB s.day 0 73048=true:=bnot_f c2
 refine ⟨_,rfl,fun c3=>?_,fun c3=>?_⟩
 case refine_2 =>
  have c3:=of_decide_eq_true (show decide (s.known < 0)=true from c3)
  exact ⟨nf,fun _=>⟨fun _=>⟨[],[],⟨by rw [t1 (by rw [hh];unfold inB;rw [decide_eq_false (show ¬ 0≤s.known by omega)];simp)];rfl,rfl⟩,trivial,rfl⟩,nf⟩⟩
 have c3:=of_decide_eq_false (show decide (s.known < 0)=false from c3)
 refine ⟨_,rfl,fun c3'=>?_,fun c3'=>?_⟩
 case refine_2 =>
  have c3':=of_decide_eq_true (show decide (s.known > 2147483647)=true from c3')
  exact ⟨fun _=>⟨[],[],⟨by rw [t1 (by rw [hh];unfold inB;rw [decide_eq_false (show ¬ s.known≤2147483647 by omega)];simp)];rfl,rfl⟩,trivial,rfl⟩,nf⟩
 have c3':=of_decide_eq_false (show decide (s.known > 2147483647)=false from c3')
 have ck:inB s.known 0 2147483647=true:=by unfold inB;rw [← Bool.decide_and,decide_eq_true (by omega)]
 refine ⟨_,rfl,_,fun w' _=>run_len_sl Tryz.underlying40 w',fun c4=>?_,fun c4=>?_⟩
 ·have c4:s.lines.length > 512:=by have:=of_decide_eq_true (show decide (((s.lines.length:Nat):Int) > 512)=true from c4);omega
  exact ⟨[],[],⟨by rw [t1 (by rw [hh,decide_eq_false (show ¬ s.lines.length≤512 by omega)];simp)];rfl,rfl⟩,trivial,rfl⟩
 have c4:¬ s.lines.length > 512:=by have:=of_decide_eq_false (show decide (((s.lines.length:Nat):Int) > 512)=false from c4);omega
 have hh1:hdrB s=true:=by rw [hh,c1,c2,ck,decide_eq_true (show s.lines.length≤512 by omega)];rfl
 clear hh
 refine ⟨fun q f m=>∃ (i:Nat),q=s.lines.length - i∧i≤s.lines.length∧(∀ (j:Nat) y,j < i→s.lines[j]? = some y→lnOk y=true)∧f=[(1,SV.ptr 1 0),(3,SV.c (.int .i64 (totQ (s.lines.take i)))),(4,SV.c (.int .i64 (i:Nat)))]∧m=[(1,Blk.row 42 5 (s.A (.slice a s.lines.length cap)))],s.lines.length,⟨_,_,⟨0,rfl,by omega,fun j y h=>by omega,rfl,rfl⟩,⟨rfl,rfl,rfl,trivial⟩,⟨rfl,trivial⟩,rfl⟩,?_⟩
 rintro q f m ⟨i,rfl,hi,hok,rfl,rfl⟩
 refine ⟨_,rfl,_,fun w' _=>run_len_sl Tryz.underlying40 w',fun h=>?_,fun h=>?_⟩
 ·have h:i < s.lines.length:=by have:=of_decide_eq_true h;omega
  obtain ⟨b,o,rfl,h5⟩:=h4 (by omega)
  obtain ⟨y,hy⟩:∃ y,s.lines[i]? = some y:=⟨_,List.getElem?_eq_getElem h⟩
  have hyi:=hin y (List.mem_of_getElem? hy)
  have hE':VOk (envC Tryz.prog tt Tryz.f15.ntmps w X (tiedK [] β)):=tt_ok
  have L1:=lst_elem hE' h5 LnQ.size hy (ty:=60) (ti:=ti60) rfl rfl rfl (p:=offAt o ((i:Nat):Int) ti60.size) (off_at o i 137 (by decide))
  have AM:=amount_r hyi.qty hyi.price hyi.rate
  have hs:lnOk y=(decide (amtQ y.qty y.price y.rate=(y.amt,0)) && (inB y.kind 1 4 && inB y.day 0 73048)):=rfl
  have t2:=t2 i y hy
  have Y0:=y.g0
  have Y2:=y.g2
  have Y3:=y.g3
  have YA:=y.g136
  have YP:=y.gprice
  have YR:=y.grate
  have YF:=y.fits
  have X2:=out_r y.day
  rw [out_inB] at X2
  have tt1:=take_tot hy
  have tb:=take_bd hok (by omega)
  obtain ⟨n,e,hN⟩:∃ n e,amtQ y.qty y.price y.rate=(n,e):=⟨_,_,rfl⟩
  have hnb:=amtQ_bd y.qty y.price y.rate
  rw [hN] at AM hs hnb
  have hnb : -1000000000000000≤n∧n≤1000000000000000:=hnb
  have ret:lnOk y=false→mkRes [.int .i64 200]=Value.int .i64 VR:=fun h=>by rw [t2 h];rfl
  generalize hYY:y.A=YY at *
  refine ⟨_,rfl,by omega,by omega,.inl ⟨_,L1,YF,_,Y3,by decide,_,YP,by decide,_,YR,.inl ⟨_,AM,fun c5=>?_,fun c5=>?_⟩⟩⟩
  case refine_2 =>
   have c5:(e != 0)=true:=c5
   have c5:e≠0:=by simpa using c5
   exact ⟨nf,fun _=>⟨nf,fun _=>⟨nf,fun _=>⟨fun _=>⟨[],[],⟨ret (by rw [hs,decide_eq_false (fun g=>c5 (congrArg Prod.snd g))];rfl),rfl⟩,trivial,rfl⟩,nf⟩⟩⟩⟩
  have c5:(e != 0)=false:=c5
  have c5:e=0:=by simpa using c5
  subst c5
  refine ⟨_,YA,fun c6=>?_,fun c6=>?_⟩
  case refine_2 =>
   have c6:(n != y.amt)=true:=c6
   have c6:n≠y.amt:=by simpa using c6
   exact ⟨nf,fun _=>⟨nf,fun _=>⟨fun _=>⟨[],[],⟨ret (by rw [hs,decide_eq_false (fun g=>c6 (congrArg Prod.fst g))];rfl),rfl⟩,trivial,rfl⟩,nf⟩⟩⟩
  have c6:(n != y.amt)=false:=c6
  have c6:n=y.amt:=by simpa using c6
  refine ⟨_,Y0,fun c7=>?_,fun c7=>?_⟩
  case refine_2 =>
   have c7:=of_decide_eq_true (show decide (y.kind < 1)=true from c7)
   exact ⟨nf,fun _=>⟨fun _=>⟨[],[],⟨ret (by rw [hs];unfold inB;rw [decide_eq_false (show ¬ 1≤y.kind by omega)];simp),rfl⟩,trivial,rfl⟩,nf⟩⟩
  have c7:=of_decide_eq_false (show decide (y.kind < 1)=false from c7)
  refine ⟨_,Y0,fun c7'=>?_,fun c7'=>?_⟩
  case refine_2 =>
   have c7':=of_decide_eq_true (show decide (y.kind > 4)=true from c7')
   exact ⟨fun _=>⟨[],[],⟨ret (by rw [hs];unfold inB;rw [decide_eq_false (show ¬ y.kind≤4 by omega)];simp),rfl⟩,trivial,rfl⟩,nf⟩
  have c7':=of_decide_eq_false (show decide (y.kind > 4)=false from c7')
  have c7:inB y.kind 1 4=true:=by unfold inB;rw [← Bool.decide_and,decide_eq_true (by omega)]
  refine ⟨_,Y2,.inl ⟨_,X2,fun c8=>?_,fun c8=>?_⟩⟩
  ·have c8:inB y.day 0 73048=false:=bnot_t c8
   exact ⟨[],[],⟨ret (by rw [hs,c8];simp),rfl⟩,trivial,rfl⟩
  have c8:inB y.day 0 73048=true:=bnot_f c8
  have hg:lnOk y=true:=by rw [hs,c6,c7,c8];simp
  have hw:IntKind.i64.wrap (totQ (s.lines.take i)+n)=totQ (s.lines.take (i+1)):=by rw [tt1,← c6];exact i64_in (by omega)
  refine ⟨s.lines.length - (i+1),_,_,by omega,⟨i+1,rfl,by omega,fun j z hj hz=>?_,rfl,rfl⟩,⟨rfl,c_int hw,c_int (i64_succ (by omega)),trivial⟩,⟨rfl,trivial⟩,rfl⟩
  rcases Nat.lt_or_ge j i with h9 | h9
  ·exact hok j z h9 hz
  ·have:j=i:=by omega
   subst this
   rw [hy] at hz;cases hz
   exact hg
 ·have h:i=s.lines.length:=by have:=of_decide_eq_false h;omega
  subst h
  rw [List.take_length]
  refine ⟨_,rfl,fun c5=>?_,fun c5=>?_⟩
  case refine_2 =>
   have c5:(totQ s.lines != s.total)=true:=c5
   have c5:totQ s.lines≠s.total:=by simpa using c5
   exact ⟨nf,fun _=>⟨fun _=>⟨[],[],⟨by rw [t3 (by rw [decide_eq_false c5];rfl)];rfl,rfl⟩,trivial,rfl⟩,nf⟩⟩
  have c5:(totQ s.lines != s.total)=false:=c5
  have c5:totQ s.lines=s.total:=by simpa using c5
  refine ⟨fun c6=>?_,fun c6=>?_⟩
  case refine_2 =>
   have c6:=of_decide_eq_true (show decide (totQ s.lines > 1000000000000000)=true from c6)
   exact ⟨fun _=>⟨[],[],⟨by rw [t3 (by unfold inB;rw [decide_eq_false (show ¬ s.total≤1000000000000000 by omega)];simp)];rfl,rfl⟩,trivial,rfl⟩,nf⟩
  have c6:=of_decide_eq_false (show decide (totQ s.lines > 1000000000000000)=false from c6)
  refine ⟨fun c7=>?_,fun c7=>?_⟩
  ·have c7:=of_decide_eq_true (show decide (totQ s.lines < -1000000000000000)=true from c7)
   exact ⟨[],[],⟨by rw [t3 (by unfold inB;rw [decide_eq_false (show ¬ -1000000000000000≤s.total by omega)];simp)];rfl,rfl⟩,trivial,rfl⟩
  ·have c7:=of_decide_eq_false (show decide (totQ s.lines < -1000000000000000)=false from c7)
   exact ⟨[],[],⟨by rw [t4 hh1 (fun j y hy=>hok j y (List.getElem?_eq_some_iff.1 hy).1 hy) (by unfold inB;rw [← Bool.decide_and,decide_eq_true c5,decide_eq_true (by omega)];rfl)];rfl,rfl⟩,trivial,rfl⟩
structure OB where
 k:Key
 v:Value
 e:TypeId
 sz:Nat
 n:Nat
 A:Array Value
abbrev OB.m (b:OB):Key×Blk:=(b.k,Blk.own b.v b.e b.sz b.n b.A)
theorem getM_app:∀ {a b:MemL} {k:Key},getM a k=none→getM b k=none→getM (a++b) k=none
 | [],b,k,_,h=>h
 | (d,B) :: a,b,k,h1,h2=>by
  simp only [getM] at h1 ⊢
  rw [List.cons_append]
  simp only [getM]
  by_cases e:d=k
  ·rw [if_pos e] at h1;cases h1
  ·rw [if_neg e] at h1 ⊢
   exact getM_app h1 h2
theorem getM_obs:∀ {l:List OB} {k:Key},(l.map OB.k).contains k=false→getM (l.map OB.m) k=none
 | [],k,_=>rfl
 | b :: l,k,h=>by
  rw [List.map_cons,List.contains_cons,Bool.or_eq_false_iff] at h
  rw [List.map_cons]
  simp only [getM]
  rw [if_neg (fun e=>by rw [e] at h;simp at h)]
  exact getM_obs h.2
theorem keys_obs (l:List OB):Go.SX.keysM (l.map OB.m)=l.map OB.k:=by
 unfold Go.SX.keysM
 rw [List.map_map]
 rfl
theorem peel {f:FuncId} {sv:List SV} {Q:Value→MemL→Prop}:∀ (l:List OB),Go.SX.distinct (l.map OB.k)=true→(∀ b∈l,b.A.all (·.oneCell')=true)→(∀ x U,Q x U→∀ b∈l,getM U b.k=none)→∀ {E:Env},Go.SX.Enters E.P f →
    (∀ E0:Env,E0.P=E.P→(∀ w,OldW E0 w→OldW E w)→(∀ b∈l,Lst E0 b.v b.sz b.n b.A)→OwnC E0 f sv [] Q)→OwnC E f sv (l.map OB.m) (fun x U=>∃ U0,Q x U0∧U=l.map OB.m++U0)
 | [],_,_,_,E,_,h=>(h E rfl (fun _ h=>h) (fun b hb=>by cases hb)).mono fun x U hq=>⟨U,hq,rfl⟩
 | b :: l,hd,hA,hQ,E,hent,h=>by
  rw [List.map_cons] at hd
  simp only [Go.SX.distinct,Bool.and_eq_true,Bool.not_eq_true'] at hd
  refine (OwnC.with_own2 (k:=b.k) (v:=b.v) (e:=b.e) (sz:=b.sz) (n:=b.n) (A:=b.A) (pre:=l.map OB.m) (Q:=fun x U=>∃ U0,Q x U0∧U=l.map OB.m++U0) (getM_obs hd.1) (by rw [keys_obs];exact hd.2) (hA b (by simp)) hent ?_ ?_).mono ?_
  ·intro E0 h0 ho hl
   refine peel l hd.2 (fun c hc=>hA c (by simp [hc])) (fun x U hq c hc=>hQ x U hq c (by simp [hc])) (by rw [h0];exact hent) fun E1 h1 ho1 hl1=>?_
   refine h E1 (h1.trans h0) (fun w hw=>ho w (ho1 w hw)) fun c hc=>?_
   rcases List.mem_cons.1 hc with rfl | hc
   ·exact hl.of_old ho1
   ·exact hl1 c hc
  ·rintro x U ⟨U0,hq,rfl⟩
   exact getM_app (getM_obs hd.1) (hQ x U0 hq b (by simp))
  ·rintro x U ⟨U0,⟨U1,hq,rfl⟩,rfl⟩
   exact ⟨U1,hq,rfl⟩
end Go.Proofs.YtofllflnmmjijaaGreatDoor
