/- the chapter's examples of rates. the law ExchangeExact. books of rates that are drawn. the laws ExchangePlays and ExchangeConverts. a made policy that begins with the first source. the law ExchangeCross; no condition. -/
import Derived.Test.YtjkgmglmgndaoaaGreatDoorP32
set_option maxRecDepth 100000
set_option maxHeartbeats 4000000
namespace Go.Proofs.YtjkgmglmgndaoaaGreatDoor
open Go Go.RowKit Go.SX
theorem read2F {E:Env} (hE:E.P=Tryz.prog) {f:FuncId} {sv:List SV} {x y:Value} {xs:List QC} {p:PL} {nx ny:Nat} (hx:nx=xs.length) (hy:ny=p.srcs.length) (hn:nx≤1000000000000) (hm:ny≤1000000000000) (hin:∀ y∈xs,y.In) (hpin:p.In) (hent:Go.SX.Enters Tryz.prog f) {R:Value}
    (h:∀ E0:Env,E0.P=Tryz.prog→MkR E0 x y xs p→OwnC E0 f sv [] (fun r U=>r=R∧U=[])):OwnC E f sv [(9200,Blk.own x 51 72 nx (cat QC.A xs)),(9101,Blk.own y 9 1 ny (cat strA p.srcs))] (fun r U=>r=R∧U=[(9200,Blk.own x 51 72 nx (cat QC.A xs)),(9101,Blk.own y 9 1 ny (cat strA p.srcs))]):=by
 refine (read2 (Q:=fun r U=>r=R∧U=[]) hx hy (by rw [hE];exact hent) (fun r U hU=>by rw [hU.2];exact ⟨rfl,rfl⟩) fun E0 h0 _ hl1 hl2=>h E0 (h0.trans hE) ⟨hl1,by omega,hin,hl2,by omega,hpin⟩).mono ?_
 rintro r U ⟨U0,⟨h1,rfl⟩,rfl⟩
 exact ⟨h1,rfl⟩
theorem Leg_o {E:Env} (hE:E.P=Tryz.prog) {x y:Value} {xs:List QC} {p:PL} {nx ny:Nat} (hx:nx=xs.length) (hy:ny=p.srcs.length) (hn:nx≤1000000000000) (hm:ny≤1000000000000) (hin:∀ y∈xs,y.In) (hpin:p.In) (k day:Int) (a b:List UInt8):OwnC E 11 [SV.c x,SV.c (.agg (p.A y)),SV.c (.int .i64 k),SV.c (.string (S a)),SV.c (.string (S b)),SV.c (.int .i64 day)] [(9200,Blk.own x 51 72 nx (cat QC.A xs)),(9101,Blk.own y 9 1 ny (cat strA p.srcs))] (fun r U=>r=legR xs k p day a b∧U=[(9200,Blk.own x 51 72 nx (cat QC.A xs)),(9101,Blk.own y 9 1 ny (cat strA p.srcs))]) :=
 read2F hE hx hy hn hm hin hpin at11.enters fun _E0 h0 hr=>Leg_e h0 hr k day
theorem Rate_o {E:Env} (hE:E.P=Tryz.prog) {x y:Value} {xs:List QC} {p:PL} {nx ny:Nat} (hx:nx=xs.length) (hy:ny=p.srcs.length) (hn:nx≤1000000000000) (hm:ny≤1000000000000) (hin:∀ y∈xs,y.In) (hpin:p.In) (k day:Int) (u a b:List UInt8):OwnC E 13 [SV.c x,SV.c (.agg (p.A y)),SV.c (.int .i64 k),SV.c (.string (S u)),SV.c (.string (S a)),SV.c (.string (S b)),SV.c (.int .i64 day)] [(9200,Blk.own x 51 72 nx (cat QC.A xs)),(9101,Blk.own y 9 1 ny (cat strA p.srcs))] (fun r U=>r=resQ (rateQ xs k p day u a b)∧U=[(9200,Blk.own x 51 72 nx (cat QC.A xs)),(9101,Blk.own y 9 1 ny (cat strA p.srcs))]) :=
 read2F hE hx hy hn hm hin hpin at13.enters fun _E0 h0 hr=>Rate_e h0 hr k day
def kL:List QC:=[⟨[97],eurusd,cUSD,9,(mkQ 5 4).1,1,false⟩,⟨[97],[71,66,80,85,83,68],cUSD,9,(mkQ 3 2).1,2,false⟩]
def kP:PL:=⟨[[97]],(mkQ 0 1).1,0⟩
theorem kv1:legR kL 9 kP 9 cUSD cEUR=.tuple #[.agg (mkQ 4 5).1.A,.bool true,.int .i64 0]:=by kernel_rfl
theorem kv2:rateQ kL 9 kP 9 cUSD cEUR cGBP=((mkQ 5 6).1,0):=by kernel_rfl
theorem kv3:convQ 103 (mkQ 1 2).1 6=(52,0):=by kernel_rfl
theorem kL_in:∀ y∈kL,y.In:=by
 intro y hy
 simp only [kL,List.mem_cons,List.not_mem_nil,or_false] at hy
 rcases hy with rfl | rfl
 ·exact ⟨mkQ_in _ _,by show (1:Nat)≤_;decide,by show (6:Nat)≤_;decide,by show (3:Nat)≤_;decide,by show (-9223372036854775808:Int)≤9∧(9:Int)≤9223372036854775807;decide⟩
 ·exact ⟨mkQ_in _ _,by show (1:Nat)≤_;decide,by show (6:Nat)≤_;decide,by show (3:Nat)≤_;decide,by show (-9223372036854775808:Int)≤9∧(9:Int)≤9223372036854775807;decide⟩
theorem kP_in:kP.In:=⟨mkQ_in _ _,by decide,by decide⟩
theorem fill_quo2 (a b:QC):Instr.fill (fun k=>some (k*ti51.size,ti51.size)) (madeCells ti51.zero (2*ti51.size)) [(0,.agg a.A),(1,.agg b.A)]=some (cat QC.A [a,b]):=by kernel_rfl
theorem fill_srcA:Instr.fill (fun k=>some (k*ti9.size,ti9.size)) (madeCells ti9.zero (1*ti9.size)) [(0,.string (S [97]))]=some (cat strA kP.srcs):=by kernel_rfl
theorem fill_pol2 (a:Option Addr) (m c:Nat) (r:RQ) (l:List (List UInt8)) {pl:List (Nat×Nat)} (hpl:pl=[(0,1),(1,66),(67,1)]):Instr.fill (fun k=>pl[k]?) ti31.zero [(0,.slice a m c),(1,.agg r.A)]=some (PL.A ⟨l,r,0⟩ (.slice a m c)):=by
 subst hpl
 kernel_rfl
theorem eqs_rq {E:Env} (hE:E.P=Tryz.prog) {r:RQ} (hr:r.In) {u v:Operand}:Runs E (do eqGuard .eql 29 u v (.agg r.A) (.agg r.A);binOp .eql 29 (.agg r.A) (.agg r.A)) (.bool true):=eqs_ratio hE hr
theorem known_x0 {E:Env} (hE:E.P=Tryz.prog):OwnC E 15 [] [] (fun x U=>x=.bool true∧U=[]):=by
 refine sx_ownC [] tt_ok mixed at15 E hE [] [] _ rfl rfl fun w X β hT=>?_
 have O1:=made_of (n:=5) (d:=4) (by decide) (by decide) (by decide) (by decide)
 have O2:=made_of (n:=3) (d:=2) (by decide) (by decide) (by decide) (by decide)
 have O3:=made_of (n:=0) (d:=1) (by decide) (by decide) (by decide) (by decide)
 have O4:=made_of (n:=1) (d:=2) (by decide) (by decide) (by decide) (by decide)
 have O5:=made_of (n:=4) (d:=5) (by decide) (by decide) (by decide) (by decide)
 have O6:=made_of (n:=5) (d:=6) (by decide) (by decide) (by decide) (by decide)
 have Q1:=fill_q [97] eurusd 9 1 (mkQ 5 4).1 (pl:=[(0,1),(1,1),(2,1),(3,1),(4,66),(70,1),(71,1)]) rfl
 have Q2:=fill_q [97] [71,66,80,85,83,68] 9 2 (mkQ 3 2).1 (pl:=[(0,1),(1,1),(2,1),(3,1),(4,66),(70,1),(71,1)]) rfl
 have QL:=fill_quo2 ⟨[97],eurusd,cUSD,9,(mkQ 5 4).1,1,false⟩ ⟨[97],[71,66,80,85,83,68],cUSD,9,(mkQ 3 2).1,2,false⟩
 have QS:(cat QC.A kL).size=2*72:=by rw [Go.SX.cat_size QC.size];rfl
 have L1:=fun (g g2:Nat) (E0:Env) (h0:E0.P=Tryz.prog)=>Leg_o (E:=E0) h0 (x:=.slice (some ⟨g,0,none⟩) 2 2) (y:=.slice (some ⟨g2,0,none⟩) 1 1) (xs:=kL) (p:=kP) (nx:=2) (ny:=1) rfl rfl (by decide) (by decide) kL_in kP_in 9 9 cUSD cEUR
 have L2:=fun (g g2:Nat) (E0:Env) (h0:E0.P=Tryz.prog)=>Rate_o (E:=E0) h0 (x:=.slice (some ⟨g,0,none⟩) 2 2) (y:=.slice (some ⟨g2,0,none⟩) 1 1) (xs:=kL) (p:=kP) (nx:=2) (ny:=1) rfl rfl (by decide) (by decide) kL_in kP_in 9 9 cUSD cEUR cGBP
 rw [kv1] at L1
 rw [kv2] at L2
 have C1:=Convert_e (r:=(mkQ 1 2).1) (mkQ_in _ _) (a:=103) (by decide) 6
 rw [kv3] at C1
 have P1:=fun (g:Nat)=>fill_pol2 (some ⟨g,0,none⟩) 1 1 (mkQ 0 1).1 kP.srcs (pl:=[(0,1),(1,66),(67,1)]) rfl
 rw [show (⟨kP.srcs,(mkQ 0 1).1,0⟩:PL)=kP from rfl] at P1
 have PF:=fun (g:Nat)=>kP.fits (v:=.slice (some ⟨g,0,none⟩) 1 1) rfl
 have e45:=fun (u v:Operand)=>eqs_rq (E:=(envC Tryz.prog tt Tryz.f15.ntmps w X (tiedK [] β)).toEnv) rfl (mkQ_in 4 5) (u:=u) (v:=v)
 have e56:=fun (u v:Operand)=>eqs_rq (E:=(envC Tryz.prog tt Tryz.f15.ntmps w X (tiedK [] β)).toEnv) rfl (mkQ_in 5 6) (u:=u) (v:=v)
 have F45:=(mkQ 4 5).1.A_fits
 have F56:=(mkQ 5 6).1.A_fits
 refine .inl ⟨_,O1,_,Q1,.inl ⟨_,O2,_,Q2,.inr ⟨by decide,by decide,by decide,cat QC.A kL,QL,QS,trivial,fun g=>?_⟩⟩⟩
 refine .inr ⟨by decide,by decide,by decide,_,fill_srcA,rfl,trivial,fun g2=>.inl ⟨_,O3,_,P1 g2,PF g2,?_⟩⟩
 have L1:=L1 g g2
 have L2:=L2 g g2
 generalize kP.A (.slice (some ⟨g2,0,none⟩) 1 1)=PA at *
 generalize cat QC.A kL=QA at *
 generalize cat strA kP.srcs=SA at *
 generalize (mkQ 4 5).1.A=A45 at *
 refine .inr (.inr (.inl ⟨[(9200,14),(9101,15)],[_,_,_,_,_,_],[_,_],_,[_,_],L1 _ rfl,rfl,⟨.inl rfl,.inl rfl,trivial⟩,rfl,rfl,F45,?_⟩))
 refine .inr (.inr (.inl ⟨[(9200,14),(9101,15)],[_,_,_,_,_,_,_],[_,_],_,[_,_],L2 _ rfl,rfl,⟨.inl rfl,.inl rfl,trivial⟩,rfl,rfl,F56,?_⟩))
 refine .inl ⟨_,O4,.inl ⟨_,C1,?_⟩⟩
 refine ⟨fun _=>⟨fun _=>.inl ⟨_,O5,_,e45 _ _,?_⟩,fun h=>absurd h (by decide)⟩,fun h=>absurd h (by decide)⟩
 refine ⟨fun _=>⟨fun _=>.inl ⟨_,O6,_,e56 _ _,?_⟩,fun h=>absurd h (by decide)⟩,fun h=>absurd h (by decide)⟩
 refine ⟨fun _=>⟨fun _=>?_,fun h=>absurd h (by decide)⟩,fun h=>absurd h (by decide)⟩
 exact ⟨by kernel_rfl,[],[],⟨rfl,rfl⟩,trivial,rfl⟩
theorem known_x:Pure Tryz.prog 15 [] (.bool true):=pure_of (vs:=[]) at15.enters fun _w=>known_x0 rfl
theorem beq_self' (n:Int):(n == n)=true:=by simp
theorem bb_self (b:Bool):(b == b)=true:=by cases b<;>rfl
theorem exact_x {E:Env} (hE:E.P=Tryz.prog) {v vp:Value} {xs:List QC} {p:PL} (h:MkR E v vp xs p) (k day:Int) {u a b:List UInt8}:OwnC E 3 [SV.c v,SV.c (.agg (p.A vp)),SV.c (.int .i64 k),SV.c (.string (S u)),SV.c (.string (S a)),SV.c (.string (S b)),SV.c (.int .i64 day)] [] (fun x U=>x=.bool true∧U=[]):=by
 refine sx_ownC [] tt_ok mixed at3 E hE [SV.c v,SV.c (.agg (p.A vp)),SV.c (.int .i64 k),SV.c (.string (S u)),SV.c (.string (S a)),SV.c (.string (S b)),SV.c (.int .i64 day)] [] _ rfl rfl fun w X β hT=>?_
 have hr:=h.of_old hT
 obtain ⟨ap,capp,rfl,hcp,-⟩:=id hr.s.shape
 have F1:=p.size (.slice ap p.srcs.length capp)
 have L1:=Leg_e rfl hr k day (a:=a) (b:=b)
 have L2:=Leg_r rfl hr k day (a:=a) (b:=b)
 have R1:=Rate_e rfl hr k day (u:=u) (a:=a) (b:=b)
 have R2:=Rate_r rfl hr k day (u:=u) (a:=a) (b:=b)
 generalize p.A (.slice ap p.srcs.length capp)=PA at *
 have hl:∃ (r:RQ) (t:Bool) (e:Int),legR xs k p day a b=.tuple #[.agg r.A,.bool t,.int .i64 e]∧r.In:=by
  refine ⟨_,_,_,rfl,?_⟩
  split
  ·rename_i hm
   obtain ⟨-,-,-,-,hall⟩:=mktC_ok hm
   cases e:legQ xs k p day a b with
   | none=>exact zeroQ_in
   | some r=>exact (legQ_ok (hall a (by simp)) (hall b (by simp)) e).in_
  ·exact zeroQ_in
 obtain ⟨r,t,e,hl,hrin⟩:=hl
 rw [hl] at L1 L2
 have hq:(rateQ xs k p day u a b).1.In:=by
  unfold rateQ
  split
  ·exact zeroQ_in
  ·rename_i hm
   obtain ⟨-,-,-,-,hall⟩:=mktC_ok (Decidable.not_not.1 hm)
   split
   ·exact one_in
   ·cases e:legO xs k p day a b with
    | some r=>exact (legO_leg (cur_ne (hall a (by simp))) (cur_ne (hall b (by simp))) e).in_
    | none =>
     simp only []
     split
     ·exact zeroQ_in
     ·cases legO xs k p day a u<;>cases legO xs k p day u b<;>first | exact zeroQ_in | exact mulQ_in _ _
 generalize rateQ xs k p day u a b=RQ2 at *
 obtain ⟨q,f⟩:=RQ2
 have N1:=fun (u v:Operand)=>eqs_rq (E:=(envC Tryz.prog tt Tryz.f3.ntmps w X (tiedK [] β)).toEnv) rfl hrin (u:=u) (v:=v)
 have N2:=fun (u v:Operand)=>eqs_rq (E:=(envC Tryz.prog tt Tryz.f3.ntmps w X (tiedK [] β)).toEnv) rfl hq (u:=u) (v:=v)
 have RF:=r.A_fits
 have QF:=q.A_fits
 generalize r.A=RA1 at *
 refine ⟨F1,.inr (.inr (.inl ⟨[],[_,_,_,_,_,_],[],_,[],L1,rfl,trivial,rfl,rfl,RF,?_⟩))⟩
 refine .inr (.inr (.inl ⟨[],[_,_,_,_,_,_],[],_,[],L2,rfl,trivial,rfl,rfl,RF,?_⟩))
 refine .inr (.inr (.inl ⟨[],[_,_,_,_,_,_,_],[],_,[],R1,rfl,trivial,rfl,rfl,QF,?_⟩))
 refine .inr (.inr (.inl ⟨[],[_,_,_,_,_,_,_],[],_,[],R2,rfl,trivial,rfl,rfl,QF,?_⟩))
 refine .inl ⟨_,known_x,?_⟩
 refine ⟨fun _=>⟨_,N1 _ _,?_⟩,fun h=>absurd h (by decide)⟩
 refine ⟨fun _=>⟨fun _=>?_,fun h=>absurd ((bb_self t).symm.trans h) (by decide)⟩,fun h=>absurd h (by decide)⟩
 refine ⟨fun _=>⟨_,N2 _ _,?_⟩,fun h=>absurd ((beq_self' e).symm.trans h) (by decide)⟩
 refine ⟨fun _=>?_,fun h=>absurd h (by decide)⟩
 refine ⟨[],[],⟨?_,rfl⟩,trivial,rfl⟩
 show mkRes [.bool (f == f)]=_
 rw [beq_self'];rfl
theorem exact_xo {E:Env} (hE:E.P=Tryz.prog) {x y:Value} {xs:List QC} {p:PL} {nx ny:Nat} (hx:nx=xs.length) (hy:ny=p.srcs.length) (hn:nx≤1000000000000) (hm:ny≤1000000000000) (hin:∀ y∈xs,y.In) (hpin:p.In) (k day:Int) {u a b:List UInt8}:OwnC E 3 [SV.c x,SV.c (.agg (p.A y)),SV.c (.int .i64 k),SV.c (.string (S u)),SV.c (.string (S a)),SV.c (.string (S b)),SV.c (.int .i64 day)] [(9200,Blk.own x 51 72 nx (cat QC.A xs)),(9101,Blk.own y 9 1 ny (cat strA p.srcs))] (fun r U=>r=.bool true∧U=[(9200,Blk.own x 51 72 nx (cat QC.A xs)),(9101,Blk.own y 9 1 ny (cat strA p.srcs))]) :=
 read2F hE hx hy hn hm hin hpin at3.enters fun _E0 h0 hr=>exact_x h0 hr k day
theorem QC.pset1 (a:QC) (l:List UInt8):a.A.setIfInBounds 1 (.string (S l))=({ a with ins:=l }:QC).A:=by kernel_rfl
theorem QC.pset2 (a:QC) (l:List UInt8):a.A.setIfInBounds 2 (.string (S l))=({ a with cur:=l }:QC).A:=by kernel_rfl
theorem pair_cut {i:List UInt8} (h:i∈pairIns):i.drop 3∈pairCur:=by
 simp [pairIns] at h;rcases h with h | h | h | h | h | h<;>rw [h]<;>decide
theorem pair_len {i:List UInt8} (h:i∈pairIns):i.length=6:=by
 simp [pairIns] at h;rcases h with h | h | h | h | h | h<;>rw [h]<;>decide
theorem code_pair {c:List UInt8} (h:c∈([[85,83,68],[69,85,82],[71,66,80]]:List (List UInt8))):c∈pairCur:=by
 simp at h;rcases h with h | h | h<;>rw [h]<;>decide
def PairQ (n:Nat) (k:Nat) (v:Value) (x:Value) (U:MemL):Prop:=∃ (xs:List QC) (k':Nat) (last:Int),k≤k'∧k'≤k+30*n∧IsL x n∧xs.length=n∧IsPB last xs∧0≤last∧last≤2*(n:Int)∧(n=0→x=.slice none 0 0)∧U=[(1000,Blk.row 42 2 (tb v k')),(3000,Blk.own x 51 72 n (cat QC.A xs))]
theorem pairs_z {E:Env} (hE:E.P=Tryz.prog) {v:Value} {zs:List Int} (hv:Tp E v zs) {n k:Nat} (hn:n≤1000) (hk:k+30*n≤4000000000000000000):OwnC E 16 [SV.ptr 1000 0,SV.c (.int .i64 (n:Nat))] [(1000,Blk.row 42 2 (tb v k))] (PairQ n k v):=by
 refine sx_ownC [12] tt_ok mixed at16 E hE [SV.ptr 1000 0,SV.c (.int .i64 (n:Nat))] [(1000,Blk.row 42 2 (tb v k))] _ rfl rfl fun w X β hT=>?_
 have hv':Tp (envC Tryz.prog tt Tryz.f16.ntmps w X (tiedK [(1000,Blk.row 42 2 (tb v k))] β) [12]).toEnv v zs:=hv.of_old hE.symm hT
 refine ⟨fun q f m=>∃ (i k2:Nat) (xs:List QC) (x:Value) (known:Int),q=n - i∧i≤n∧k≤k2∧k2≤k+30*i∧IsL x i∧xs.length=i∧IsPB known xs∧0≤known∧known≤2*(i:Int)∧(i=0→x=.slice none 0 0)∧f=[(0,SV.ptr 1000 0),(1,SV.c (.int .i64 (n:Nat))),(5,SV.c x),(6,SV.c (.int .i64 known)),(7,SV.c (.int .i64 (i:Nat)))]∧m=[(1000,Blk.row 42 2 (tb v k2)),(3000,Blk.own x 51 72 i (cat QC.A xs))],n,⟨_,_,⟨0,k,[],.slice none 0 0,0,by omega,by omega,by omega,by omega,.nil,rfl,⟨fun a h=>by simp at h,by simp,fun a h=>by simp at h⟩,by omega,by omega,fun _=>rfl,rfl,rfl⟩,⟨rfl,rfl,rfl,rfl,rfl,trivial⟩,⟨rfl,.inr ⟨rfl,rfl,rfl⟩,trivial⟩,rfl⟩,?_⟩
 rintro q f m ⟨i,k2,xs,x,known,rfl,hi,hk1,hk2,hx,hxs,hpb,hkn0,hkn,hx0,rfl,rfl⟩
 refine ⟨fun h=>?_,fun h=>?_⟩
 ·have h:i < n:=by have:=of_decide_eq_true h;omega
  obtain ⟨r3,k3,a3,b3,⟨i3,rfl,c3⟩,O3⟩:=next_g (n:=2) (by decide) zs k2 (by omega)
  have e3:IntKind.i64.wrap (known+IntKind.i64.wrap (1+i3))=known+(1+i3):=by rw [i64_in (show -9223372036854775808≤1+i3∧1+i3≤9223372036854775807 by omega),i64_in (by omega)]
  obtain ⟨r4,k4,a4,b4,⟨y,rfl,c4⟩,O4⟩:=quote_g (day:=9497) (known:=known+(1+i3)) (by decide) zs k3 (by omega)
  obtain ⟨r5,k5,a5,b5,⟨ins,rfl,c5⟩,O5⟩:=one_g (xs:=pairIns) (by decide) (by decide) zs k4 (by omega)
  obtain ⟨r6,k6,a6,b6,⟨ch,rfl⟩,O6⟩:=chance_g (a:=1) (b:=9) (by decide) zs k5 (by omega)
  obtain ⟨r7,k7,a7,b7,⟨cd,rfl,c7⟩,O7⟩:=code_c zs k6 (by omega)
  rw [← e3] at O4
  have YF:=y.fits
  have Y1:=y.pset1 ins
  have Y2:=QC.pset2 { y with ins:=ins } (ins.drop 3)
  have Y3:=QC.pset2 { y with ins:=ins,cur:=ins.drop 3 } cd
  have G1:=QC.g1 { y with ins:=ins }
  have D1:=pair_of c4 c5 (pair_cut c5)
  have D2:=pair_of c4 c5 (code_pair c7)
  have pl:=pair_len c5
  generalize hYA:y.A=YA at *
  generalize hYB:QC.A { y with ins:=ins }=YB at *
  refine .inr (.inl ⟨_,_,_,O3 _ v 1000 rfl hv',⟨rfl,trivial⟩,rfl,?_⟩)
  refine .inr (.inl ⟨_,_,_,O4 _ v 1000 rfl hv',⟨rfl,trivial⟩,rfl,YF,?_⟩)
  refine .inl ⟨by decide,by decide,strs pairIns,by kernel_rfl,rfl,.inr (.inl ⟨_,_,_,O5 _ v 1000 23 (by decide) rfl hv',⟨rfl,rfl,trivial⟩,rfl,by decide,rfl,_,Y1,?_⟩)⟩
  refine ⟨_,G1,_,runs_lo Tryz.underlying9 (l:=ins) 3 rfl (by omega),by decide,rfl,_,Y2,?_⟩
  refine ⟨fun f mm=>∃ (q':QC) (k8:Nat),isPair (known+(1+i3)) q'∧k2≤k8∧k8≤k2+29∧f=[(0,SV.ptr 1000 0),(1,SV.c (.int .i64 (n:Nat))),(5,SV.c x),(6,SV.c (.int .i64 (known+(1+i3)))),(7,SV.c (.int .i64 (i:Nat))),(8,SV.ptr 8 0)]∧mm=[(1000,Blk.row 42 2 (tb v k8)),(8,Blk.row 51 72 q'.A),(3000,Blk.own x 51 72 i (cat QC.A xs))],?_,?_⟩
  ·refine .inr (.inl ⟨_,_,_,O6 _ v 1000 rfl hv',⟨rfl,trivial⟩,rfl,fun c=>?_,fun c=>?_⟩)
   ·refine .inr (.inl ⟨_,_,_,O7 _ v 1000 rfl hv',⟨rfl,trivial⟩,rfl,by decide,rfl,_,Y3,?_⟩)
    exact ⟨_,_,⟨_,k7,D2,by omega,by omega,rfl,rfl⟩,⟨rfl,rfl,rfl,c_int e3,rfl,rfl,trivial⟩,⟨rfl,rfl,.inl rfl,trivial⟩,rfl⟩
   ·exact ⟨_,_,⟨_,k6,D1,by omega,by omega,rfl,rfl⟩,⟨rfl,rfl,rfl,c_int e3,rfl,rfl,trivial⟩,⟨rfl,rfl,.inl rfl,trivial⟩,rfl⟩
  ·rintro f1 m1 ⟨y',k8,hy',b8,b9,rfl,rfl⟩
   have F1:=fill_quo1 y'
   have F2:=y'.fits.one
   have F3:=y'.ext72
   have F4:y'.A.size=1*72:=y'.size
   have F5:cat QC.A xs++y'.A=cat QC.A (xs++[y']):=cat_snoc xs y'
   generalize hY:y'.A=YA' at *
   refine .inl ⟨by decide,by decide,_,F1,F4,by decide,3000,i,_,.inl rfl,by decide,F2,F4,_,F3,?_⟩
   obtain ⟨q,hq,hb⟩:=info_quo
   refine ⟨by omega,by unfold maxLen;omega,⟨q,hq,by rw [hb];omega⟩,trivial,fun g2 cap2=>?_⟩
   exact ⟨n - (i+1),_,_,by omega,⟨i+1,k8,xs++[y'],_,known+(1+i3),rfl,by omega,by omega,by omega,.some,by simp [hxs],hpb.snoc hkn0 (by omega) hy',by omega,by omega,fun h=>absurd h (by omega),rfl,rfl⟩,⟨rfl,rfl,rfl,rfl,c_int (i64_succ (by omega)),trivial⟩,⟨rfl,.inl (own_eq F5),trivial⟩,rfl⟩
 ·have h:i=n:=by have:=of_decide_eq_false h;omega
  subst h
  exact ⟨[(1000,Blk.row 42 2 (tb v k2)),(3000,Blk.own x 51 72 i (cat QC.A xs))],[],⟨xs,k2,known,by omega,by omega,hx,hxs,hpb,hkn0,hkn,hx0,rfl⟩,⟨rfl,.inl rfl,trivial⟩,rfl⟩
theorem exchangePlays_f {v:Value} {zs:List Int} (w:World) (hv:Tp (envC Tryz.prog tt Tryz.f4.ntmps w [] []).toEnv v zs):Calls Tryz.prog 4 #[v] w fun e w'=>e=.returned (.bool true)∧Below w.heap.size w w':=by
 refine sx_atX [] tt_ok mixed at4 [v] _ w rfl ?_
 have hv0:=hv
 obtain ⟨a,cap,rfl,-⟩:=hv0
 refine ⟨_,fill_tape a zs.length cap rfl,rfl,?_⟩
 generalize hvv:Value.slice a zs.length cap=v at *
 obtain ⟨r2,k2,a2,b2,⟨i2,rfl,c2⟩,O2⟩:=next_g (n:=10) (by decide) zs 0 (by omega)
 obtain ⟨n,rfl⟩:∃ n:Nat,i2=n:=⟨i2.toNat,by omega⟩
 refine .inr (.inl ⟨_,_,_,O2 _ v 8 rfl hv,⟨rfl,trivial⟩,rfl,?_⟩)
 refine .inr (.inr (.inr ⟨[(1000,8)],[3000],[_,_],[_],_,pairs_z rfl hv (n:=n) (by omega) (by omega),rfl,⟨rfl,trivial⟩,rfl,trivial,?_⟩))
 rintro x U ⟨xs,k3,last,h1,h2,hx,hxs,hpb,hl0,hlast,-,rfl⟩
 refine ⟨rfl,?_⟩
 have hin:∀ y∈xs,y.In:=fun y hy=>(hpb.each y hy).inn
 obtain ⟨xa,xc,rfl⟩:=hx.len
 refine ⟨fun q f m=>∃ (i k4:Nat),q=3 - i∧i≤3∧k4≤1000+100*i∧f=[(0,SV.c v),(3,SV.ptr 8 0),(4,SV.c (.slice xa n xc)),(5,SV.c (.int .i64 (i:Nat)))]∧m=[(8,Blk.row 42 2 (tb v k4)),(3000,Blk.own (.slice xa n xc) 51 72 n (cat QC.A xs))],3,⟨_,_,⟨0,k3,rfl,by omega,by omega,rfl,rfl⟩,⟨rfl,rfl,rfl,rfl,trivial⟩,⟨rfl,.inl rfl,trivial⟩,rfl⟩,?_⟩
 rintro q f m ⟨i,k4,rfl,hi,hk4,rfl,rfl⟩
 refine ⟨fun h=>?_,fun h=>?_⟩
 ·have h:i < 3:=by have:=of_decide_eq_true h;omega
  refine .inr (.inr (.inr ⟨[(1000,8)],[9101],[_],[_],_,policy_z rfl hv (k:=k4) (by omega),rfl,⟨rfl,trivial⟩,rfl,trivial,?_⟩))
  rintro r U ⟨p,y,m,k5,p1,p2,hpin,-,-,hy,hm,hm1,hm4,rfl,rfl⟩
  refine ⟨rfl,?_⟩
  obtain ⟨ya,yc,rfl⟩:=hy.len
  obtain ⟨r6,k6,a6,b6,⟨i6,rfl,c6⟩,O6⟩:=next_g (n:=20) (by decide) zs k5 (by omega)
  obtain ⟨r7,k7,a7,b7,⟨i7,rfl,c7⟩,O7⟩:=pick_g (xs:=[99,i6]) (by simp) (by simp) zs k6 (by omega)
  obtain ⟨r8,k8,a8,b8,⟨uu,rfl,c8⟩,O8⟩:=one_g (xs:=[cUSD,cUSD,cEUR,[117,115,100]]) (by decide) (by decide) zs k7 (by omega)
  obtain ⟨r9,k9,a9,b9,⟨ff,rfl,c9⟩,O9⟩:=one_g (xs:=[cEUR,cUSD,cGBP,cJPY,[88]]) (by decide) (by decide) zs k8 (by omega)
  obtain ⟨ra,ka,aa,ba,⟨gg,rfl,ca⟩,OA⟩:=one_g (xs:=[cEUR,cUSD,cGBP,[67,72,70]]) (by decide) (by decide) zs k9 (by omega)
  obtain ⟨rb,kb,ab,bb,⟨i8,rfl,cb⟩,OB⟩:=next_g (n:=2) (by decide) zs ka (by omega)
  have X1:=exact_xo (E:=(envC Tryz.prog tt Tryz.f4.ntmps w [] []).toEnv) rfl (x:=.slice xa n xc) (y:=.slice ya m yc) (xs:=xs) (p:=p) (nx:=n) (ny:=m) hxs.symm hm (by omega) (by omega) hin hpin i7 (IntKind.i64.wrap (9497+i8)) (u:=uu) (a:=ff) (b:=gg)
  generalize hPA:p.A (.slice ya m yc)=PA at *
  generalize hX:cat QC.A xs=XA at *
  refine .inr (.inl ⟨_,_,_,O6 _ v 8 rfl hv,⟨rfl,trivial⟩,rfl,?_⟩)
  refine .inl ⟨by decide,by decide,ints [99,i6],by kernel_rfl,rfl,.inr (.inl ⟨_,_,_,O7 _ v 8 23 (by decide) rfl hv,⟨rfl,rfl,trivial⟩,rfl,?_⟩)⟩
  refine .inl ⟨by decide,by decide,strs [cUSD,cUSD,cEUR,[117,115,100]],by kernel_rfl,rfl,.inr (.inl ⟨_,_,_,O8 _ v 8 26 (by decide) rfl hv,⟨rfl,rfl,trivial⟩,rfl,?_⟩)⟩
  refine .inl ⟨by decide,by decide,strs [cEUR,cUSD,cGBP,cJPY,[88]],by kernel_rfl,rfl,.inr (.inl ⟨_,_,_,O9 _ v 8 29 (by decide) rfl hv,⟨rfl,rfl,trivial⟩,rfl,?_⟩)⟩
  refine .inl ⟨by decide,by decide,strs [cEUR,cUSD,cGBP,[67,72,70]],by kernel_rfl,rfl,.inr (.inl ⟨_,_,_,OA _ v 8 32 (by decide) rfl hv,⟨rfl,rfl,trivial⟩,rfl,?_⟩)⟩
  refine .inr (.inl ⟨_,_,_,OB _ v 8 rfl hv,⟨rfl,trivial⟩,rfl,?_⟩)
  refine .inr (.inr (.inl ⟨[(9200,3000)],[_,_,_,_,_,_,_],[_,_],_,[_,_],X1,rfl,⟨.inl rfl,.inl rfl,trivial⟩,rfl,rfl,fun h=>absurd h (by decide),fun _=>?_⟩))
  exact ⟨3 - (i+1),_,_,by omega,⟨i+1,kb,rfl,by omega,by omega,rfl,rfl⟩,⟨rfl,rfl,rfl,c_int (i64_succ (by omega)),trivial⟩,⟨rfl,.inl rfl,trivial⟩,rfl⟩
 ·exact .inl ⟨_,known_x,rfl,trivial⟩
theorem exchangeConverts_f {r:RQ} (hr:r.In) {a:Int} (ha : -9223372036854775808≤a∧a≤9223372036854775807) (mode:Int):Pure Tryz.prog 9 [SV.c (.int .i64 a),SV.c (.agg r.A),SV.c (.int .i64 mode)] (.bool true):=by
 refine sx_pure tt_ok mixed at9 _ _ rfl rfl fun w=>?_
 have C1:=Convert_e hr ha mode
 have C2:=Convert_r hr ha mode
 have RF:=r.A_size
 generalize convQ a r mode=CQ at *
 obtain ⟨c,e⟩:=CQ
 generalize r.A=RA1 at *
 refine ⟨RF,.inl ⟨_,C1,.inl ⟨_,C2,.inl ⟨_,known_x,fun _=>⟨fun _=>⟨?_,trivial⟩,fun h=>absurd ((beq_self' c).symm.trans h) (by decide)⟩,fun h=>absurd h (by decide)⟩⟩⟩⟩
 show mkRes [.bool (e == e)]=_
 rw [beq_self'];rfl
theorem fill_src4':Instr.fill (fun k=>some (k*ti9.size,ti9.size)) (madeCells ti9.zero (4*ti9.size)) [(0,.string (S [97])),(1,.string (S [98])),(2,.string (S [99])),(3,.string (S [100,52]))]=some (cat strA src4):=by kernel_rfl
theorem sources_x {E:Env} (hE:E.P=Tryz.prog):OwnC E 46 [] [] (fun x U=>∃ g,x=.slice (some ⟨g,0,none⟩) 4 4∧U=[(9102,Blk.own x 9 1 4 (cat strA src4))]):=by
 refine sx_ownC [] tt_ok mixed at46 E hE [] [] _ rfl rfl fun w X β hT=>?_
 refine .inr ⟨by decide,by decide,by decide,_,fill_src4',rfl,trivial,fun g=>?_⟩
 exact ⟨[(9102,Blk.own (.slice (some ⟨g,0,none⟩) 4 4) 9 1 4 (cat strA src4))],[(9102,1)],⟨g,rfl,rfl⟩,⟨.inl rfl,trivial⟩,rfl⟩
theorem PL.pset0 (p:PL) (v u:Value) (l:List (List UInt8)):(p.A v).setIfInBounds (0+0) u=PL.A { p with srcs:=l } u:=by kernel_rfl
def FirQ (k:Nat) (v:Value) (x:Value) (U:MemL):Prop:=∃ (p:PL) (g m k':Nat),k≤k'∧k'≤k+21∧p.In∧polOk p=true∧p.srcs=src4.take m∧1≤m∧m≤4∧x=.agg (p.A (.slice (some ⟨g,0,none⟩) m 4))∧U=[(1000,Blk.row 42 2 (tb v k')),(9102,Blk.own (.slice (some ⟨g,0,none⟩) 4 4) 9 1 4 (cat strA src4))]
theorem take_ok {m:Nat} (h1:1≤m) (h4:m≤4):namesB (src4.take m)=true:=by
 have hi:m=1∨m=2∨m=3∨m=4:=by omega
 clear h1 h4
 rcases hi with h' | h' | h' | h'<;>rw [h']<;>decide
theorem first_z {E:Env} (hE:E.P=Tryz.prog) {v:Value} {zs:List Int} (hv:Tp E v zs) {k:Nat} (hk:k+21≤4000000000000000000):OwnC E 22 [SV.ptr 1000 0] [(1000,Blk.row 42 2 (tb v k))] (FirQ k v):=by
 refine sx_ownC [] tt_ok mixed at22 E hE [SV.ptr 1000 0] [(1000,Blk.row 42 2 (tb v k))] _ rfl rfl fun w X β hT=>?_
 have hv':Tp (envC Tryz.prog tt Tryz.f22.ntmps w X (tiedK [(1000,Blk.row 42 2 (tb v k))] β)).toEnv v zs:=hv.of_old hE.symm hT
 refine .inr (.inr (.inr ⟨[],[9101],[_],[_],_,policy_z rfl hv' (k:=k) (by omega),rfl,⟨rfl,trivial⟩,rfl,trivial,?_⟩))
 rintro r U ⟨p,y,m,k5,p1,p2,hpin,hpo,-,hy,hm,hm1,hm4,rfl,rfl⟩
 refine ⟨rfl,?_⟩
 have PF:Fits (p.A y) 68:=by obtain ⟨ya,yc,rfl⟩:=hy.len;exact p.fits (v:=.slice ya m yc) rfl
 have SP:=fun u l=>p.pset0 y u l
 generalize hPA:p.A y=PA at *
 refine ⟨PF,?_⟩
 refine .inr (.inr (.inr ⟨[],[9102],[],[],_,sources_x rfl,rfl,trivial,rfl,trivial,?_⟩))
 rintro s U ⟨g,rfl,rfl⟩
 refine ⟨rfl,?_⟩
 obtain ⟨r6,k6,a6,b6,⟨i6,rfl,c6⟩,O6⟩:=next_g (n:=4) (by decide) zs k5 (by omega)
 obtain ⟨j,rfl⟩:∃ j:Nat,i6=j:=⟨i6.toNat,by omega⟩
 have e6:IntKind.i64.wrap (1+((j:Nat):Int))=((j+1:Nat):Int):=by rw [i64_in (by omega)];omega
 have hE':VOk (envC Tryz.prog tt Tryz.f22.ntmps w X (tiedK [(1000,Blk.row 42 2 (tb v k))] β)):=tt_ok
 have SS:=runs_shi hE' Tryz.underlying23 (j:=ti9) rfl (a:=some ⟨g,0,none⟩) (n:=4) (cap:=4) (k:=.i64) (x:=IntKind.i64.wrap (1+((j:Nat):Int))) (j+1) e6 (by omega)
 refine .inr (.inl ⟨_,_,_,O6 _ v 1000 rfl hv',⟨rfl,trivial⟩,rfl,_,SS,by decide,rfl,_,SP _ (src4.take (j+1)),?_⟩)
 have hq:({ p with srcs:=src4.take (j+1) }:PL).In:=⟨hpin.tol,fun z hz=>by have:=List.mem_of_mem_take (show z∈src4.take (j+1) from hz);simp [src4] at this;rcases this with h | h | h | h<;>rw [h]<;>decide,hpin.stale⟩
 have hlen:(src4.take (j+1)).length=j+1:=by rw [List.length_take];show min (j+1) 4=_;omega
 have hpo2:polOk { p with srcs:=src4.take (j+1) }=true:=by
  unfold polOk at hpo ⊢
  simp only [Bool.and_eq_true,decide_eq_true_eq] at hpo ⊢
  refine ⟨⟨by show 0 < (src4.take (j+1)).length;omega,by show (src4.take (j+1)).length≤8;omega⟩,take_ok (by omega) (by omega),hpo.2.2⟩
 have PF2:=PL.fits { p with srcs:=src4.take (j+1) } (v:=.slice (some ⟨g,0,none⟩) (j+1) 4) rfl
 refine ⟨PF2,?_⟩
 exact ⟨[(1000,Blk.row 42 2 (tb v k6)),(9102,Blk.own (.slice (some ⟨g,0,none⟩) 4 4) 9 1 4 (cat strA src4))],[],⟨_,g,j+1,k6,by omega,by omega,hq,hpo2,rfl,by omega,by omega,rfl,rfl⟩,⟨rfl,.inl rfl,trivial⟩,rfl⟩
theorem take_cat {m:Nat} (h4:m≤4):cat strA (src4.take m)=(cat strA src4).extract 0 (m*1):=by
 have hi:m=0∨m=1∨m=2∨m=3∨m=4:=by omega
 rcases hi with rfl | rfl | rfl | rfl | rfl<;>rfl
theorem read2P {E:Env} (hE:E.P=Tryz.prog) {f:FuncId} {sv:List SV} {x:Value} {xs:List QC} {p:PL} {nx m g:Nat} (hx:nx=xs.length) (hs:p.srcs=src4.take m) (hm:m≤4) (hn:nx≤1000000000000) (hin:∀ y∈xs,y.In) (hpin:p.In) (hent:Go.SX.Enters Tryz.prog f) {R:Value}
    (h:∀ E0:Env,E0.P=Tryz.prog→MkR E0 x (.slice (some ⟨g,0,none⟩) m 4) xs p→OwnC E0 f sv [] (fun r U=>r=R∧U=[])):OwnC E f sv [(9200,Blk.own x 51 72 nx (cat QC.A xs)),(9102,Blk.own (.slice (some ⟨g,0,none⟩) 4 4) 9 1 4 (cat strA src4))] (fun r U=>r=R∧U=[(9200,Blk.own x 51 72 nx (cat QC.A xs)),(9102,Blk.own (.slice (some ⟨g,0,none⟩) 4 4) 9 1 4 (cat strA src4))]):=by
 subst hx
 have hl:p.srcs.length=m:=by rw [hs,List.length_take];show min m 4=m;omega
 have h2:∀ E0:Env,E0.P=Tryz.prog→(∀ w,OldW E0 w→OldW E w)→Lst E0 x 72 xs.length (cat QC.A xs)→OwnC E0 f sv [(9102,Blk.own (.slice (some ⟨g,0,none⟩) 4 4) 9 1 4 (cat strA src4))] (fun r U=>r=R∧U=[(9102,Blk.own (.slice (some ⟨g,0,none⟩) 4 4) 9 1 4 (cat strA src4))]):=fun E0 h0 ho hl1=>by
  refine (OwnC.with_own2 (k:=9102) (v:=.slice (some ⟨g,0,none⟩) 4 4) (e:=9) (sz:=1) (n:=4) (A:=cat strA src4) (pre:=[]) (Q:=fun r U=>r=R∧U=[]) rfl rfl (Go.SX.cat_all strA_one src4) (by rw [h0];exact hent) (fun E1 h1 ho1 hl2=>h E1 (h1.trans h0) ⟨hl1.of_old ho1,hn,hin,?_,by omega,hpin⟩) (fun r U hU=>by rw [hU.2];rfl)).mono ?_
  ·rw [hl,hs]
   exact Lst.take hl2 hm (take_cat hm)
  ·rintro r U ⟨U0,⟨h1,rfl⟩,rfl⟩
   exact ⟨h1,rfl⟩
 refine (OwnC.with_own2 (k:=9200) (v:=x) (e:=51) (sz:=72) (n:=xs.length) (A:=cat QC.A xs) rfl rfl (Go.SX.cat_all QC.all1 xs) (by rw [hE];exact hent) (fun E0 h0 ho hl1=>h2 E0 (h0.trans hE) ho hl1) (fun r U hU=>by rw [hU.2];rfl)).mono ?_
 rintro r U ⟨U0,⟨h1,rfl⟩,rfl⟩
 exact ⟨h1,rfl⟩
theorem read1P {E:Env} (hE:E.P=Tryz.prog) {f:FuncId} {sv:List SV} {p:PL} {m g:Nat} (hs:p.srcs=src4.take m) (hm:m≤4) (hpin:p.In) (hent:Go.SX.Enters Tryz.prog f) {R:Value}
    (h:∀ E0:Env,E0.P=Tryz.prog→MkR E0 (.slice none 0 0) (.slice (some ⟨g,0,none⟩) m 4) [] p→OwnC E0 f sv [] (fun r U=>r=R∧U=[])):OwnC E f sv [(9102,Blk.own (.slice (some ⟨g,0,none⟩) 4 4) 9 1 4 (cat strA src4))] (fun r U=>r=R∧U=[(9102,Blk.own (.slice (some ⟨g,0,none⟩) 4 4) 9 1 4 (cat strA src4))]):=by
 have hl:p.srcs.length=m:=by rw [hs,List.length_take];show min m 4=m;omega
 refine (OwnC.with_own2 (k:=9102) (v:=.slice (some ⟨g,0,none⟩) 4 4) (e:=9) (sz:=1) (n:=4) (A:=cat strA src4) (pre:=[]) (Q:=fun r U=>r=R∧U=[]) rfl rfl (Go.SX.cat_all strA_one src4) (by rw [hE];exact hent) (fun E1 h1 ho1 hl2=>h E1 (h1.trans hE) ⟨Lst.nil E1 72,by simp,by simp,?_,by omega,hpin⟩) (fun r U hU=>by rw [hU.2];rfl)).mono ?_
 ·rw [hl,hs]
  exact Lst.take hl2 hm (take_cat hm)
 ·rintro r U ⟨U0,⟨h1,rfl⟩,rfl⟩
  exact ⟨h1,rfl⟩
theorem Rate_p {E:Env} (hE:E.P=Tryz.prog) {x:Value} {xs:List QC} {p:PL} {nx m g:Nat} (hx:nx=xs.length) (hs:p.srcs=src4.take m) (hm:m≤4) (hn:nx≤1000000000000) (hin:∀ y∈xs,y.In) (hpin:p.In) (k day:Int) (u a b:List UInt8):OwnC E 13 [SV.c x,SV.c (.agg (p.A (.slice (some ⟨g,0,none⟩) m 4))),SV.c (.int .i64 k),SV.c (.string (S u)),SV.c (.string (S a)),SV.c (.string (S b)),SV.c (.int .i64 day)] [(9200,Blk.own x 51 72 nx (cat QC.A xs)),(9102,Blk.own (.slice (some ⟨g,0,none⟩) 4 4) 9 1 4 (cat strA src4))] (fun r U=>r=resQ (rateQ xs k p day u a b)∧U=[(9200,Blk.own x 51 72 nx (cat QC.A xs)),(9102,Blk.own (.slice (some ⟨g,0,none⟩) 4 4) 9 1 4 (cat strA src4))]) :=
 read2P hE hx hs hm hn hin hpin at13.enters fun _E0 h0 hr=>Rate_e h0 hr k day
theorem Leg_p {E:Env} (hE:E.P=Tryz.prog) {x:Value} {xs:List QC} {p:PL} {nx m g:Nat} (hx:nx=xs.length) (hs:p.srcs=src4.take m) (hm:m≤4) (hn:nx≤1000000000000) (hin:∀ y∈xs,y.In) (hpin:p.In) (k day:Int) (a b:List UInt8):OwnC E 11 [SV.c x,SV.c (.agg (p.A (.slice (some ⟨g,0,none⟩) m 4))),SV.c (.int .i64 k),SV.c (.string (S a)),SV.c (.string (S b)),SV.c (.int .i64 day)] [(9200,Blk.own x 51 72 nx (cat QC.A xs)),(9102,Blk.own (.slice (some ⟨g,0,none⟩) 4 4) 9 1 4 (cat strA src4))] (fun r U=>r=legR xs k p day a b∧U=[(9200,Blk.own x 51 72 nx (cat QC.A xs)),(9102,Blk.own (.slice (some ⟨g,0,none⟩) 4 4) 9 1 4 (cat strA src4))]) :=
 read2P hE hx hs hm hn hin hpin at11.enters fun _E0 h0 hr=>Leg_e h0 hr k day
theorem Rate_n {E:Env} (hE:E.P=Tryz.prog) {p:PL} {m g:Nat} (hs:p.srcs=src4.take m) (hm:m≤4) (hpin:p.In) (k day:Int) (u a b:List UInt8):OwnC E 13 [SV.c (.slice none 0 0),SV.c (.agg (p.A (.slice (some ⟨g,0,none⟩) m 4))),SV.c (.int .i64 k),SV.c (.string (S u)),SV.c (.string (S a)),SV.c (.string (S b)),SV.c (.int .i64 day)] [(9102,Blk.own (.slice (some ⟨g,0,none⟩) 4 4) 9 1 4 (cat strA src4))] (fun r U=>r=resQ (rateQ [] k p day u a b)∧U=[(9102,Blk.own (.slice (some ⟨g,0,none⟩) 4 4) 9 1 4 (cat strA src4))]) :=
 read1P hE hs hm hpin at13.enters fun _E0 h0 hr=>Rate_e h0 hr k day
theorem legR_ok {xs:List QC} {k:Int} {p:PL} {day:Int} {a b:List UInt8} (h:mktC xs p day [a,b]=0) (hab:a≠b):legR xs k p day a b=.tuple #[.agg ((legO xs k p day a b).getD zeroQ).A,.bool (legO xs k p day a b).isSome,.int .i64 0]:=by
 unfold legR
 rw [h,if_pos rfl,if_pos rfl,legQ_ne hab]
theorem exchangeCross_f {v:Value} {zs:List Int} (w:World) (hv:Tp (envC Tryz.prog tt Tryz.f6.ntmps w [] []).toEnv v zs):Calls Tryz.prog 6 #[v] w fun e w'=>e=.returned (.bool true)∧Below w.heap.size w w':=by
 refine sx_atX [] tt_ok mixed at6 [v] _ w rfl ?_
 have hv0:=hv
 obtain ⟨a,cap,rfl,-⟩:=hv0
 refine ⟨_,fill_tape a zs.length cap rfl,rfl,?_⟩
 generalize hvv:Value.slice a zs.length cap=v at *
 obtain ⟨r2,k2,a2,b2,⟨i2,rfl,c2⟩,O2⟩:=next_g (n:=9) (by decide) zs 0 (by omega)
 obtain ⟨n,rfl⟩:∃ n:Nat,i2=n:=⟨i2.toNat,by omega⟩
 refine .inr (.inl ⟨_,_,_,O2 _ v 21 rfl hv,⟨rfl,trivial⟩,rfl,?_⟩)
 refine .inr (.inr (.inr ⟨[(1000,21)],[3000],[_,_],[_],_,pairs_z rfl hv (n:=n) (by omega) (by omega),rfl,⟨rfl,trivial⟩,rfl,trivial,?_⟩))
 rintro x U ⟨xs,k3,last,h1,h2,hx,hxs,hpb,hl0,hlast,-,rfl⟩
 refine ⟨rfl,?_⟩
 have hin:∀ y∈xs,y.In:=fun y hy=>(hpb.each y hy).inn
 obtain ⟨xa,xc,rfl⟩:=hx.len
 refine .inr (.inr (.inr ⟨[(1000,21)],[9102],[_],[_],_,first_z rfl hv (k:=k3) (by omega),rfl,⟨rfl,trivial⟩,rfl,trivial,?_⟩))
 rintro rp U ⟨p,g,m,k5,p1,p2,hpin,hpo,hps,hm1,hm4,rfl,rfl⟩
 have PF:=PL.fits p (v:=.slice (some ⟨g,0,none⟩) m 4) rfl
 have hck:=hpb.chk (by omega) (by omega)
 have M:=fun (cs:List (List UInt8)) (h:cs.all curOk=true)=>mktC_zero (xs:=xs) (p:=p) (day:=9497) (cs:=cs) hck hpo (by decide) (by decide) h
 have R1:=fun (E0:Env) (h0:E0.P=Tryz.prog)=>Rate_p (E:=E0) h0 (x:=.slice xa n xc) (xs:=xs) (p:=p) (nx:=n) (m:=m) (g:=g) hxs.symm hps hm4 (by omega) hin hpin 99 9497 cUSD cEUR cGBP
 have L1:=fun (E0:Env) (h0:E0.P=Tryz.prog)=>Leg_p (E:=E0) h0 (x:=.slice xa n xc) (xs:=xs) (p:=p) (nx:=n) (m:=m) (g:=g) hxs.symm hps hm4 (by omega) hin hpin 99 9497 cEUR cGBP
 have L2:=fun (E0:Env) (h0:E0.P=Tryz.prog)=>Leg_p (E:=E0) h0 (x:=.slice xa n xc) (xs:=xs) (p:=p) (nx:=n) (m:=m) (g:=g) hxs.symm hps hm4 (by omega) hin hpin 99 9497 cEUR cUSD
 have L3:=fun (E0:Env) (h0:E0.P=Tryz.prog)=>Leg_p (E:=E0) h0 (x:=.slice xa n xc) (xs:=xs) (p:=p) (nx:=n) (m:=m) (g:=g) hxs.symm hps hm4 (by omega) hin hpin 99 9497 cUSD cGBP
 rw [legR_ok (M _ (by decide)) (by decide)] at L1 L2 L3
 have m3:=M [cUSD,cEUR,cGBP] (by decide)
 have q3:=fun r=>rateQ_3 (k:=99) (r:=r) m3 (by decide:cEUR≠cGBP)
 have q5:=fun h=>rateQ_5 (k:=99) m3 (by decide:cEUR≠cGBP) h (by decide)
 have g1:∀ r,legO xs 99 p 9497 cEUR cGBP=some r→Leg r:=fun r h=>legO_leg (by decide) (by decide) h
 have g2:∀ r,legO xs 99 p 9497 cEUR cUSD=some r→Leg r:=fun r h=>legO_leg (by decide) (by decide) h
 have g3:∀ r,legO xs 99 p 9497 cUSD cGBP=some r→Leg r:=fun r h=>legO_leg (by decide) (by decide) h
 generalize p.A (.slice (some ⟨g,0,none⟩) m 4)=PA at *
 generalize cat QC.A xs=XA at *
 generalize cat strA src4=SA at *
 generalize rateQ xs 99 p 9497 cUSD cEUR cGBP=RQ3 at *
 generalize legO xs 99 p 9497 cEUR cGBP=D at *
 generalize legO xs 99 p 9497 cEUR cUSD=A1 at *
 generalize legO xs 99 p 9497 cUSD cGBP=B1 at *
 refine ⟨rfl,PF,?_⟩
 refine .inr (.inr (.inl ⟨[(9200,3000)],[_,_,_,_,_,_,_],[_,_],_,[_,_],R1 _ rfl,rfl,⟨.inl rfl,.inl rfl,trivial⟩,rfl,rfl,RQ.A_fits _,?_⟩))
 refine .inr (.inr (.inl ⟨[(9200,3000)],[_,_,_,_,_,_],[_,_],_,[_,_],L1 _ rfl,rfl,⟨.inl rfl,.inl rfl,trivial⟩,rfl,rfl,RQ.A_fits _,?_⟩))
 refine .inr (.inr (.inl ⟨[(9200,3000)],[_,_,_,_,_,_],[_,_],_,[_,_],L2 _ rfl,rfl,⟨.inl rfl,.inl rfl,trivial⟩,rfl,rfl,RQ.A_fits _,?_⟩))
 refine .inr (.inr (.inl ⟨[(9200,3000)],[_,_,_,_,_,_],[_,_],_,[_,_],L3 _ rfl,rfl,⟨.inl rfl,.inl rfl,trivial⟩,rfl,rfl,RQ.A_fits _,?_⟩))
 refine ⟨fun _=>⟨fun _=>⟨fun h=>absurd h (by decide),fun _=>?_⟩,fun h=>absurd h (by decide)⟩,fun h=>absurd h (by decide)⟩
 cases D with
 | some d =>
  have hq:=q3 d rfl
  subst hq
  refine ⟨fun _=>?_,fun h=>absurd (show true=false from h) (by decide)⟩
  have N1:=fun (u v:Operand)=>eqs_rq (E:=(envC Tryz.prog tt Tryz.f6.ntmps w [] []).toEnv) rfl (g1 d rfl).in_ (u:=u) (v:=v)
  refine .inl ⟨_,known_x,⟨fun _=>⟨fun _=>⟨_,N1 _ _,rfl,trivial⟩,fun h=>absurd (show true=false from h) (by decide)⟩,fun h=>absurd h (by decide)⟩⟩
 | none =>
  have hq:=q5 rfl
  refine ⟨fun h=>absurd (show false=true from h) (by decide),fun _=>?_⟩
  cases A1 with
  | none =>
   have hq:RQ3=(zeroQ,161):=hq
   subst hq
   refine ⟨fun h=>absurd (show true=false from h) (by decide),fun _=>⟨fun _=>?_,fun h=>absurd h (by decide)⟩⟩
   refine .inl ⟨_,known_x,fun _=>⟨rfl,trivial⟩,fun h=>absurd h (by decide)⟩
  | some a1 =>
   cases B1 with
   | none =>
    have hq:RQ3=(zeroQ,161):=hq
    subst hq
    refine ⟨fun _=>⟨fun _=>?_,fun h=>absurd (show true=false from h) (by decide)⟩,fun h=>absurd (show false=true from h) (by decide)⟩
    refine .inl ⟨_,known_x,fun _=>⟨rfl,trivial⟩,fun h=>absurd h (by decide)⟩
   | some b1 =>
    have hq:RQ3=mulQ a1 b1:=hq
    subst hq
    obtain ⟨t,m1,t1,t2,t3,-⟩:=mul_leg (g2 a1 rfl) (g3 b1 rfl)
    have P1:=mulR_r (g2 a1 rfl).in_ (g3 b1 rfl).in_
    rw [m1] at P1
    have N1:=fun (u v:Operand)=>eqs_rq (E:=(envC Tryz.prog tt Tryz.f6.ntmps w [] []).toEnv) rfl t2 (u:=u) (v:=v)
    rw [m1]
    refine ⟨fun _=>⟨fun h=>absurd (show false=true from h) (by decide),fun _=>?_⟩,fun h=>absurd (show false=true from h) (by decide)⟩
    refine .inl ⟨_,P1,t.A_fits,?_⟩
    refine .inl ⟨_,known_x,⟨fun _=>⟨fun _=>⟨_,N1 _ _,rfl,trivial⟩,fun h=>absurd (show true=false from h) (by decide)⟩,fun h=>absurd h (by decide)⟩⟩
end Go.Proofs.YtjkgmglmgndaoaaGreatDoor
