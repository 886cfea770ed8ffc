/- the law ExchangeInverse; no condition. -/
import Derived.Test.YtjkgmglmgndaoaaGreatDoorP33
set_option maxRecDepth 100000
set_option maxHeartbeats 4000000
namespace Go.Proofs.YtjkgmglmgndaoaaGreatDoor
open Go Go.RowKit Go.SX
theorem fill_lone (ins:List UInt8) (r:RQ) {pl:List (Nat×Nat)} (hpl:pl=[(0,1),(1,1),(2,1),(3,1),(4,66),(70,1),(71,1)]):Instr.fill (fun k=>pl[k]?) ti51.zero [(0,.string (S [97])),(1,.string (S ins)),(3,.int .i64 9497),(4,.agg r.A),(5,.int .i64 1)]=some (QC.A ⟨[97],ins,[],9497,r,1,false⟩):=by
 subst hpl
 kernel_rfl
def loneQ (ins:List UInt8) (r:RQ):QC:=⟨[97],ins,ins.drop 3,9497,r,1,false⟩
theorem price_leg {r:RQ} (h:isPrice r):Leg r:=by
 obtain ⟨n,d,-,-,-,-,-,-,h1,-,h2⟩:=price_of h
 exact leg_price h1 h2
theorem lone_pair {ins:List UInt8} {r:RQ} (h:ins∈([eurusd,[85,83,68,69,85,82]]:List (List UInt8))) (hr:isPrice r):isPair 1 (loneQ ins r):=by
 have hp:ins∈pairIns:=by simp at h;rcases h with h | h<;>rw [h]<;>decide
 exact ⟨show [97]∈src4 by decide,hp,pair_cut hp,show (0:Int)≤9497∧(9497:Int)≤9497 by decide,rfl,.inl ⟨rfl,hr⟩⟩
theorem take_head {m:Nat} (h1:1≤m) (h4:m≤4):∃ r,src4.take m=[97] :: r∧[97]∉r:=by
 have hi:m=1∨m=2∨m=3∨m=4:=by omega
 rcases hi with rfl | rfl | rfl | rfl
 ·exact ⟨_,rfl,by decide⟩
 ·exact ⟨_,rfl,by decide⟩
 ·exact ⟨_,rfl,by decide⟩
 ·exact ⟨_,rfl,by decide⟩
theorem lone_dir {ins:List UInt8} {r:RQ} (h:ins∈([eurusd,[85,83,68,69,85,82]]:List (List UInt8))) (hr:isPrice r) {p:PL} {m:Nat} (hp:polOk p=true) (hs:p.srcs=src4.take m) (h1:1≤m) (h4:m≤4):chkQ [loneQ ins r]=0∧∀ a b:List UInt8,(a++b=ins→b=ins.drop 3→dirQ [loneQ ins r] 5 p 9497 a b=(r,true))∧(a++b≠ins→(dirQ [loneQ ins r] 5 p 9497 a b).2=false):=by
 have hv:=(lone_pair h hr).valid (by decide) (by decide)
 obtain ⟨t,ht,hn⟩:=take_head h1 h4
 have hsr:∃ q,p.srcs=(loneQ ins r).src :: q∧(loneQ ins r).src∉q:=⟨t,by rw [hs,ht];rfl,hn⟩
 have L:=fun (i:List UInt8)=>lone_cands (q:=loneQ ins r) (k:=5) (day:=9497) (p:=p) (ins:=i) hv rfl (by show (1:Int)≤5;decide) hp (by decide) (by decide) rfl hsr
 have hpt:=polOk_tol hp
 refine ⟨(L []).1,fun a b=>⟨fun hab hb=>?_,fun hab=>?_⟩⟩
 ·obtain ⟨-,e1,e2⟩:=L (a++b)
  have hi:(loneQ ins r).ins=a++b:=hab.symm
  rw [if_pos hi] at e1 e2
  unfold dirQ
  obtain ⟨n,d,-,-,-,-,-,-,g1,-,-⟩:=price_of hr
  have hc:selCh [loneQ ins r] p.tol=chOf (some (loneQ ins r)):=one_ch2 (q:=loneQ ins r) g1 hpt.1 hpt.2
  rw [e1,e2,hc]
  show (r,decide ((0:Int)=0) && decide (ins.drop 3=b))=_
  rw [hb];simp
 ·obtain ⟨-,e1,e2⟩:=L (a++b)
  have hi:¬ (loneQ ins r).ins=a++b:=fun g=>hab g.symm
  rw [if_neg hi] at e1 e2
  unfold dirQ
  rw [e2]
  rfl
theorem lone_rates {ins:List UInt8} {r:RQ} (h:ins∈([eurusd,[85,83,68,69,85,82]]:List (List UInt8))) (hr:isPrice r) {p:PL} {m:Nat} (hp:polOk p=true) (hs:p.srcs=src4.take m) (h1:1≤m) (h4:m≤4):∃ x y:RQ,rateQ [loneQ ins r] 5 p 9497 cGBP cEUR cUSD=(x,0)∧rateQ [loneQ ins r] 5 p 9497 cGBP cUSD cEUR=(y,0)∧Leg x∧Leg y∧mulQ x y=(oneQ,0):=by
 obtain ⟨hc,hd⟩:=lone_dir h hr hp hs h1 h4
 have m1:=mktC_zero (cs:=[cGBP,cEUR,cUSD]) hc hp (show (0:Int)≤9497 by decide) (by decide) (by decide)
 have m2:=mktC_zero (cs:=[cGBP,cUSD,cEUR]) hc hp (show (0:Int)≤9497 by decide) (by decide) (by decide)
 have lg:=price_leg hr
 have li:=leg_inv lg
 have hM:=mul_inv lg
 have d1:=hd cEUR cUSD
 have d2:=hd cUSD cEUR
 simp only [List.mem_cons,List.not_mem_nil,or_false] at h
 rcases h with rfl | rfl
 ·have e1:=d1.1 (by decide) (by decide)
  have e2:=d2.2 (by decide)
  have l1:legO [loneQ eurusd r] 5 p 9497 cEUR cUSD=some r:=by unfold legO;rw [e1];rfl
  have l2:legO [loneQ eurusd r] 5 p 9497 cUSD cEUR=some (quoQ oneQ r).1:=by unfold legO;rw [e2,e1];rfl
  exact ⟨_,_,rateQ_3 m1 (by decide) l1,rateQ_3 m2 (by decide) l2,lg,li,hM⟩
 ·have e1:=d1.2 (by decide)
  have e2:=d2.1 (by decide) (by decide)
  have l1:legO [loneQ [85,83,68,69,85,82] r] 5 p 9497 cEUR cUSD=some (quoQ oneQ r).1:=by unfold legO;rw [e1,e2];rfl
  have l2:legO [loneQ [85,83,68,69,85,82] r] 5 p 9497 cUSD cEUR=some r:=by unfold legO;rw [e2];rfl
  exact ⟨_,_,rateQ_3 m1 (by decide) l1,rateQ_3 m2 (by decide) l2,li,lg,by rw [mulQ_comm];exact hM⟩
theorem nil_rate {p:PL} (hp:polOk p=true):rateQ [] 5 p 9497 cUSD cEUR cEUR=(oneQ,0) :=
 rateQ_2 (mktC_zero rfl hp (by decide) (by decide) (by decide)) rfl
theorem zero_rin:(RQ.of 0 1).In:=RQ.of_in (by have:=two64;show (0:Int).natAbs < _;omega) (by have:=two64;show (1:Int).natAbs < _;omega)
theorem cmp_zero {x:RQ} (h:Leg x):Pure Tryz.prog 25 [SV.c (.agg x.A),SV.c (.agg (RQ.of 0 1).A)] (.int .i64 1):=by
 have h0:=h.p0
 have hb:=h.p1
 have:=two64
 have c:=compareR_r h.in_ zero_rin (by rw [RQ.of_q,Int.mul_one];omega) (by rw [RQ.of_p,Int.zero_mul];show (0:Int).natAbs < _;omega)
 rw [RQ.of_q,RQ.of_p,Int.mul_one,Int.zero_mul] at c
 have e:cmpI x.p 0=1:=by unfold cmpI;rw [if_neg (by omega),if_pos h0]
 rw [e] at c
 exact c
theorem exchangeInverse_f {v:Value} {zs:List Int} (w:World) (hv:Tp (envC Tryz.prog tt Tryz.f5.ntmps w [] []).toEnv v zs):Calls Tryz.prog 5 #[v] w fun e w'=>e=.returned (.bool true)∧Below w.heap.size w w':=by
 refine sx_atX [] tt_ok mixed at5 [v] _ w rfl ?_
 have hv0:=hv
 obtain ⟨a,cap,rfl,-⟩:=hv0
 refine ⟨_,fill_tape a zs.length cap rfl,rfl,?_⟩
 generalize hvv:Value.slice a zs.length cap=v at *
 obtain ⟨r1,k1,a1,b1,⟨ins,rfl,c1⟩,O1⟩:=one_g (xs:=[eurusd,[85,83,68,69,85,82]]) (by decide) (by decide) zs 0 (by omega)
 obtain ⟨r2,k2,a2,b2,⟨pr,rfl,c2⟩,O2⟩:=price_g zs k1 (by omega)
 have Q1:=fill_lone ins pr (pl:=[(0,1),(1,1),(2,1),(3,1),(4,66),(70,1),(71,1)]) rfl
 have Q2:=fill_quo1 ⟨[97],ins,[],9497,pr,1,false⟩
 have Q3:=QC.pset2 ⟨[97],ins,[],9497,pr,1,false⟩ (ins.drop 3)
 rw [show ({ (⟨[97],ins,[],9497,pr,1,false⟩:QC) with cur:=ins.drop 3 }:QC)=loneQ ins pr from rfl] at Q3
 have QG:=QC.g1 ⟨[97],ins,[],9497,pr,1,false⟩
 have QS:(QC.A ⟨[97],ins,[],9497,pr,1,false⟩).size=1*72:=QC.size _
 have hpp:ins∈pairIns:=by simp at c1;rcases c1 with h | h<;>rw [h]<;>decide
 have hpl:=pair_len hpp
 have LI:=(lone_pair c1 c2).inn
 have LC:cat QC.A [loneQ ins pr]=(loneQ ins pr).A:=by simp [cat]
 generalize QC.A ⟨[97],ins,[],9497,pr,1,false⟩=QA at *
 refine .inl ⟨by decide,by decide,strs [eurusd,[85,83,68,69,85,82]],by kernel_rfl,rfl,.inr (.inl ⟨_,_,_,O1 _ v 16 18 (by decide) rfl hv,⟨rfl,rfl,trivial⟩,rfl,?_⟩)⟩
 refine .inr (.inl ⟨_,_,_,O2 _ v 16 rfl hv,⟨rfl,trivial⟩,rfl,_,Q1,?_⟩)
 refine .inr ⟨by decide,by decide,by decide,QA,Q2,QS,trivial,fun g=>?_⟩
 refine ⟨by decide,by decide,.inr ⟨23,g,_,1,_,_,_,_,rfl,rfl,_,QG,?_⟩⟩
 refine ⟨_,runs_lo Tryz.underlying9 (l:=ins) 3 rfl (by omega),by decide,by decide,⟨23,g,_,1,_,_,_,_,rfl,rfl,by rw [QS];decide,rfl,_,Q3,?_⟩⟩
 refine .inr (.inr (.inr ⟨[(1000,16)],[9102],[_],[_],_,first_z rfl hv (k:=k2) (by omega),rfl,⟨rfl,trivial⟩,rfl,trivial,?_⟩))
 rintro rp U ⟨p,g2,m,k5,p1,p2,hpin,hpo,hps,hm1,hm4,rfl,rfl⟩
 have PF:=PL.fits p (v:=.slice (some ⟨g2,0,none⟩) m 4) rfl
 obtain ⟨x,y,e1,e2,lx,ly,hM⟩:=lone_rates c1 c2 hpo hps hm1 hm4
 have e3:=nil_rate hpo
 have R1:=fun (E0:Env) (h0:E0.P=Tryz.prog)=>Rate_p (E:=E0) h0 (x:=.slice (some ⟨g,0,none⟩) 1 1) (xs:=[loneQ ins pr]) (p:=p) (nx:=1) (m:=m) (g:=g2) rfl hps hm4 (by decide) (fun y hy=>by rw [List.mem_singleton.1 hy];exact LI) hpin 5 9497 cGBP cEUR cUSD
 have R2:=fun (E0:Env) (h0:E0.P=Tryz.prog)=>Rate_p (E:=E0) h0 (x:=.slice (some ⟨g,0,none⟩) 1 1) (xs:=[loneQ ins pr]) (p:=p) (nx:=1) (m:=m) (g:=g2) rfl hps hm4 (by decide) (fun y hy=>by rw [List.mem_singleton.1 hy];exact LI) hpin 5 9497 cGBP cUSD cEUR
 have R3:=fun (E0:Env) (h0:E0.P=Tryz.prog)=>Rate_n (E:=E0) h0 (p:=p) (m:=m) (g:=g2) hps hm4 hpin 5 9497 cUSD cEUR cEUR
 rw [e1] at R1
 rw [e2] at R2
 rw [e3] at R3
 rw [LC] at R1 R2
 have N1:=fun (u v:Operand)=>eqs_rq (E:=(envC Tryz.prog tt Tryz.f5.ntmps w [] []).toEnv) rfl one_in (u:=u) (v:=v)
 have P1:=mulR_r lx.in_ ly.in_
 rw [hM] at P1
 have CZ:=cmp_zero lx
 have XF:=x.A_fits
 have YF:=y.A_fits
 have OF:=oneQ.A_fits
 generalize p.A (.slice (some ⟨g2,0,none⟩) m 4)=PA at *
 generalize (loneQ ins pr).A=LA at *
 generalize cat strA src4=SA at *
 refine ⟨rfl,PF,?_⟩
 refine .inr (.inr (.inl ⟨[(9200,23)],[_,_,_,_,_,_,_],[_,_],_,[_,_],R1 _ rfl,rfl,⟨.inl rfl,.inl rfl,trivial⟩,rfl,rfl,XF,?_⟩))
 refine .inr (.inr (.inl ⟨[(9200,23)],[_,_,_,_,_,_,_],[_,_],_,[_,_],R2 _ rfl,rfl,⟨.inl rfl,.inl rfl,trivial⟩,rfl,rfl,YF,?_⟩))
 refine ⟨fun _=>⟨fun h=>absurd (show false=true from h) (by decide),fun _=>?_⟩,fun h=>absurd (show false=true from h) (by decide)⟩
 refine .inl ⟨_,P1,OF,?_⟩
 refine .inr (.inr (.inl ⟨[],[_,_,_,_,_,_,_],[_],_,[_],R3 _ rfl,rfl,⟨.inl rfl,trivial⟩,rfl,rfl,OF,?_⟩))
 refine .inl ⟨_,known_x,?_⟩
 refine ⟨fun _=>.inl ⟨_,one_r,_,N1 _ _,?_⟩,fun h=>absurd h (by decide)⟩
 refine ⟨fun _=>.inl ⟨_,zeroR_r,.inl ⟨_,CZ,?_⟩⟩,fun h=>absurd h (by decide)⟩
 refine ⟨fun _=>?_,fun h=>absurd h (by decide)⟩
 refine ⟨fun _=>.inl ⟨_,one_r,_,N1 _ _,?_⟩,fun h=>absurd (show true=false from h) (by decide)⟩
 exact ⟨by kernel_rfl,rfl,trivial⟩
end Go.Proofs.YtjkgmglmgndaoaaGreatDoor
