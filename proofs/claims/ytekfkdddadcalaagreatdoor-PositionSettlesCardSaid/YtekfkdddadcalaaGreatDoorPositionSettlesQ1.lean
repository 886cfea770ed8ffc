/- as days pass without records: plain law. the law PositionSettles; no condition. -/
import Derived.Test.YtekfkdddadcalaaGreatDoorP33
set_option maxRecDepth 100000
set_option maxHeartbeats 4000000
namespace Go.Proofs.YtekfkdddadcalaaGreatDoor
open Go Go.RowKit Go.SX
theorem ops_full {al:List AC} {xs:List EC} {d:Int} (ha:∀ a∈al,a.day≤d) (hx:∀ x∈xs,x.day≤d):opsL al xs d=stabK dayO (al.map (Sum.inl:AC→Ev)++xs.map (Sum.inr:EC→Ev)):=by
 unfold opsL
 rw [filter_keep fun o ho=>?_]
 rcases List.mem_append.1 ho with h | h
 ·obtain ⟨a,h',rfl⟩:=List.mem_map.1 h
  exact decide_eq_true (ha a h')
 ·obtain ⟨x,h',rfl⟩:=List.mem_map.1 h
  exact decide_eq_true (hx x h')
theorem visA_nv {al:List AC} {k:Int}:∀ a∈visA al k,a.void=false:=fun a h=>by
 unfold visA at h
 split at h
 ·obtain ⟨i,hi,e⟩:=List.mem_filterMap.1 h
  have h2:=(List.mem_filter.1 hi).2
  unfold visB at h2
  have hm:(al.map mkOf)[i]? = some (mkOf a):=by rw [List.getElem?_map,e];rfl
  rw [hm] at h2
  simp only [Bool.and_eq_true,Bool.not_eq_true'] at h2
  exact h2.1
 ·cases h
theorem fm_inl (al:List AC) (xs:List EC):((al.map (Sum.inl:AC→Ev)++xs.map (Sum.inr:EC→Ev)).filterMap evA)=al:=by
 rw [List.filterMap_append]
 have h1:∀ l:List AC,(l.map (Sum.inl:AC→Ev)).filterMap evA=l:=fun l=>by
  induction l with
  | nil=>rfl
  | cons a r ih=>rw [List.map_cons,List.filterMap_cons,ih];rfl
 have h2:∀ l:List EC,(l.map (Sum.inr:EC→Ev)).filterMap evA=([]:List AC):=fun l=>by
  induction l with
  | nil=>rfl
  | cons a r ih=>rw [List.map_cons,List.filterMap_cons,ih];rfl
 rw [h1,h2,List.append_nil]
theorem fm_inr (al:List AC) (xs:List EC):((al.map (Sum.inl:AC→Ev)++xs.map (Sum.inr:EC→Ev)).filterMap evX)=xs:=by
 rw [List.filterMap_append]
 have h1:∀ l:List AC,(l.map (Sum.inl:AC→Ev)).filterMap evX=([]:List EC):=fun l=>by
  induction l with
  | nil=>rfl
  | cons a r ih=>rw [List.map_cons,List.filterMap_cons,ih];rfl
 have h2:∀ l:List EC,(l.map (Sum.inr:EC→Ev)).filterMap evX=l:=fun l=>by
  induction l with
  | nil=>rfl
  | cons a r ih=>rw [List.map_cons,List.filterMap_cons,ih];rfl
 rw [h1,h2,List.nil_append]
theorem at_settles {xs:List EC} {al:List AC} {k d1 d2:Int} (h1:chkX xs=0) (h2:chkA al=0) (mx:∀ x∈xs,MdE x∧x.day≤d1∧x.settle≤d2) (ma:∀ a∈al,a.void=true∨(MdA a∧a.day≤d1)) (lx:xs.length≤9) (la:al.length≤2) (hd:d1≤d2) (i1:inB d1 0 73048=true) (i2:inB d2 0 73048=true) :
    (∃ e,atP xs al k d1=(.zero,e)∧atP xs al k d2=(.zero,e))∨∃ g1 g2,atP xs al k d1=(g1,0)∧atP xs al k d2=(g2,0)∧g2.h=g1.h∧g2.p=[]∧∀ c,totK c g1.c+totK c g1.p=totK c g2.c:=by
 have X1:∀ x∈visX xs k,MdE x∧x.day≤d1∧x.settle≤d2:=fun x hx=>mx x (visX_ok x hx).1
 have A1:∀ a∈visA al k,MdA a∧a.day≤d1:=fun a ha=>by
  rcases ma a (visA_mem a ha).1 with h | h
  ·rw [visA_nv a ha] at h;cases h
  ·exact h
 have LX:(visX xs k).length≤9:=by
  unfold visX
  rw [if_pos h1,fm_lenE fun i hi=>visNE_mem hi]
  exact Nat.le_trans (visNE_len xs k) lx
 have LA:(visA al k).length≤2:=by
  unfold visA
  rw [if_pos h2,fm_len fun i hi=>visN_mem hi]
  exact Nat.le_trans (visN_len al k) la
 have e1:atP xs al k d1=finL (runL d1 .zero (opsL (visA al k) (visX xs k) d1)):=by
  unfold atP;rw [h1,h2,i1];simp
 have e2:atP xs al k d2=finL (runL d2 .zero (opsL (visA al k) (visX xs k) d2)):=by
  unfold atP;rw [h1,h2,i2];simp
 rw [ops_full (fun a ha=>(A1 a ha).2) (fun x hx=>(X1 x hx).2.1)] at e1
 rw [ops_full (fun a ha=>by have:=(A1 a ha).2;omega) (fun x hx=>by have:=(X1 x hx).2.1;omega)] at e2
 have hp:=(stabK_stab dayO ((visA al k).map (Sum.inl:AC→Ev)++(visX xs k).map (Sum.inr:EC→Ev))).perm
 have c1:=(hp.filterMap evA).length_eq
 have c2:=(hp.filterMap evX).length_eq
 rw [fm_inl] at c1
 rw [fm_inr] at c2
 have ml:=hp.length_eq
 rw [List.length_append,List.length_map,List.length_map] at ml
 have mA:∀ a,Sum.inl a∈stabK dayO ((visA al k).map (Sum.inl:AC→Ev)++(visX xs k).map (Sum.inr:EC→Ev))→MdA a:=fun a ha=>by
  rcases List.mem_append.1 (hp.mem_iff.1 ha) with h | h
  ·obtain ⟨b,hb,he⟩:=List.mem_map.1 h
   cases he;exact (A1 _ hb).1
  ·obtain ⟨b,hb,he⟩:=List.mem_map.1 h
   cases he
 have mX:∀ x,Sum.inr x∈stabK dayO ((visA al k).map (Sum.inl:AC→Ev)++(visX xs k).map (Sum.inr:EC→Ev))→MdE x∧x.settle≤d2:=fun x hx=>by
  rcases List.mem_append.1 (hp.mem_iff.1 hx) with h | h
  ·obtain ⟨b,hb,he⟩:=List.mem_map.1 h
   cases he
  ·obtain ⟨b,hb,he⟩:=List.mem_map.1 h
   cases he;exact ⟨(X1 _ hb).1,(X1 _ hb).2.2⟩
 generalize stabK dayO ((visA al k).map (Sum.inl:AC→Ev)++(visX xs k).map (Sum.inr:EC→Ev))=O at e1 e2 c1 c2 ml mA mX
 rcases run_settle (d1:=d1) (d2:=d2) O (n:=0) RelS.zero (by omega) (fun x hx=>⟨.of (mX x hx).1.v,(mX x hx).2⟩) with ⟨e,r1,r2⟩ | ⟨g1,g2,r1,r2,R⟩
 ·rw [r1] at e1
  rw [r2] at e2
  exact .inl ⟨e,e1,e2⟩
 ·obtain ⟨i',j',hi',hj',B1⟩:=run_bd O BdS.zero (by omega) (by omega) mA (fun x hx=>(mX x hx).1) r1
  obtain ⟨i'',j'',hi'',hj'',B2⟩:=run_bd O BdS.zero (by omega) (by omega) mA (fun x hx=>(mX x hx).1) r2
  have z1:Led.zero.h.length=0:=rfl
  have l1:=(run_len O .zero r1).1
  have l2:=(run_len O .zero r2).1
  rw [z1] at l1 l2
  have p1:=pf_bd B1 hi' hj' (by omega)
  have p2:=pf_bd B2 hi'' hj'' (by omega)
  rw [r1] at e1
  rw [r2] at e2
  exact .inr ⟨g1,g2,e1.trans p1,e2.trans p2,R.h,R.p,R.t⟩
theorem settles_law {b b':Int} {n n2:Nat} {xs:List EC} {al:List AC} (hn:n≤9) (hn2:n2≤2) (hM:MkL 9497 n b xs) (hM2:MkLA 9497 n2 b' al):(∃ e,e≠0∧atP xs al 100 9505=(.zero,e)∧atP xs al 100 9537=(.zero,e))∨∃ h c1 p1 c2,atP xs al 100 9505=(⟨h,c1,p1⟩,0)∧atP xs al 100 9537=(⟨h,c2,[]⟩,0)∧∀ c,totK c c1+totK c p1=totK c c2:=by
 have hx:∀ x∈xs,MdE x∧x.day≤9505∧x.settle≤9537:=fun x hx=>by
  obtain ⟨h1,h2,-,-⟩:=hM.x x hx
  refine ⟨h2,?_⟩
  rcases h1 with h | h
  ·rw [h];exact ⟨show (0:Int)≤9505 by decide,show (0:Int)≤9537 by decide⟩
  ·have:=h.d;have:=h.s;omega
 have ha:∀ a∈al,a.void=true∨(MdA a∧a.day≤9505):=fun a ha=>by
  obtain ⟨h1,-,-⟩:=hM2.x a ha
  rcases h1 with h | ⟨-,h2,-,-,h5⟩
  ·left;rw [h];rfl
  ·exact .inr ⟨h2,by omega⟩
 rcases at_settles (k:=100) hM.c hM2.c hx ha (by have:=hM.l;omega) (by have:=hM2.l;omega) (by decide:(9505:Int)≤9537) (by decide) (by decide) with ⟨e,h1,h2⟩ | ⟨g1,g2,h1,h2,h3,h4,h5⟩
 ·by_cases he:e=0
  ·subst he
   exact .inr ⟨[],[],[],[],h1,h2,fun _=>rfl⟩
  ·exact .inl ⟨e,he,h1,h2⟩
 ·obtain ⟨a1,a2,a3⟩:=g1
  obtain ⟨b1,b2,b3⟩:=g2
  simp only at h3 h4 h5
  subst h3 h4
  exact .inr ⟨_,_,_,_,h1,h2,h5⟩
theorem positionSettles_f {v:Value} {zs:List Int} (w:World) (hv:Tp (envC Tryz.prog tt Tryz.f7.ntmps w [] []).toEnv v zs):Calls Tryz.prog 7 #[v] w fun e w'=>e=.returned (.bool true)∧Below w.heap.size w w':=by
 refine sx_atX [] tt_ok mixed at7 [v] _ w rfl ?_
 have hv0:=hv
 obtain ⟨a,cap,rfl,-⟩:=hv0
 refine ⟨_,fill_tape a zs.length cap rfl,rfl,?_⟩
 generalize hvv:Value.slice a zs.length cap=v at *
 have hE:(envC Tryz.prog tt Tryz.f7.ntmps w [] []).toEnv.P=Tryz.prog:=rfl
 obtain ⟨r2,k2,a2,b2,⟨i2,rfl,c2⟩,O2⟩:=next_g (n:=10) (by decide) zs 0 (by omega)
 obtain ⟨n,rfl⟩:∃ n:Nat,i2=(n:Nat):=⟨i2.toNat,by omega⟩
 have A1:=entries_m hE hv (n:=n) (k:=k2) (by omega) (by omega) (day:=9497) (by decide)
 refine .inr (.inl ⟨_,_,_,O2 _ v 20 rfl hv,⟨rfl,trivial⟩,rfl,?_⟩)
 refine .inr (.inr (.inr ⟨[(1000,20)],[3001],[_,_,_],[_],_,A1,rfl,⟨rfl,trivial⟩,rfl,trivial,?_⟩))
 rintro x U ⟨xs,k3,b,a3,b3,hx,hM,hb,rfl⟩
 refine ⟨rfl,?_⟩
 obtain ⟨r4,k4,a4,b4,⟨i4,rfl,c4⟩,O4⟩:=next_g (n:=3) (by decide) zs k3 (by omega)
 obtain ⟨n2,rfl⟩:∃ n:Nat,i4=(n:Nat):=⟨i4.toNat,by omega⟩
 have A2:=actions_m hE hv (n:=n2) (k:=k4) (by omega) (by omega) (day:=9497) (by decide)
 refine .inr (.inl ⟨_,_,_,O4 _ v 20 rfl hv,⟨rfl,trivial⟩,rfl,?_⟩)
 refine .inr (.inr (.inr ⟨[(1000,20)],[3000],[_,_,_],[_],_,A2,rfl,⟨rfl,trivial⟩,rfl,trivial,?_⟩))
 rintro y U ⟨al,k5,b',a5,b5,hy,hM2,hb',rfl⟩
 refine ⟨rfl,?_⟩
 have hin:=hM.in_
 have hina:∀ y∈al,y.In:=fun y h=>(hM2.x y h).2.2
 have hxn:=hM.l
 have hyn:=hM2.l
 have L1:=at_zo hE (x:=x) (y:=y) (k:=100) (day:=9505) hxn.symm hyn.symm (by omega) (by omega) hin hina
 have L2:=at_zo hE (x:=x) (y:=y) (k:=100) (day:=9537) hxn.symm hyn.symm (by omega) (by omega) hin hina
 have hlen1:=atP_len xs al 100 9505
 have hlen2:=atP_len xs al 100 9537
 have hlaw:=settles_law (by omega) (by omega) hM hM2
 generalize atP xs al 100 9505=R1 at L1 hlen1 hlaw
 generalize atP xs al 100 9537=R2 at L2 hlen2 hlaw
 refine .inr (.inr (.inr ⟨[(9640,3001),(9641,3000)],[9506,9507,9508],[_,_,_,_],[_,_],_,L1,rfl,⟨.inl rfl,.inl rfl,trivial⟩,rfl,trivial,?_⟩))
 rintro r U ⟨U0,⟨xh,xc,xp,q1,q2,q3,rfl,rfl⟩,rfl⟩
 refine ⟨rfl,fits3 (isL_one q1) (isL_one q2) (isL_one q3),?_⟩
 refine .inr (.inr (.inr ⟨[(9640,3001),(9641,3000),(9506,9516),(9507,9517),(9508,9518)],[9516,9517,9518],[_,_,_,_],[_,_],_,L2,rfl,⟨.inl rfl,.inl rfl,trivial⟩,rfl,trivial,?_⟩))
 rintro r U ⟨U0,⟨yh,yc,yp,w1,w2,w3,rfl,rfl⟩,rfl⟩
 refine ⟨rfl,fits3 (isL_one w1) (isL_one w2) (isL_one w3),?_⟩
 rcases hlaw with ⟨e,he,rfl,rfl⟩ | ⟨h,c1,p1,c2,rfl,rfl,hT⟩
 ·have e1:(e != 0)=true:=by simpa using he
  refine ⟨fun c=>absurd (e1.symm.trans c) (by decide),fun _=>⟨fun _=>?_,nf rfl⟩⟩
  refine .inl ⟨_,known_p,fun _=>⟨?_,trivial⟩,nf rfl⟩
  show mkRes [.bool (e == e)]=_
  rw [beq_self_eq_true];rfl
 refine ⟨fun _=>⟨nf rfl,fun _=>?_⟩,nf rfl⟩
 obtain ⟨ha,hc,rfl⟩:=(show IsL xh h.length from q1).len
 obtain ⟨ca,cc,rfl⟩:=(show IsL xc c1.length from q2).len
 obtain ⟨pa,pc,rfl⟩:=(show IsL xp p1.length from q3).len
 obtain ⟨ha2,hc2,rfl⟩:=(show IsL yh h.length from w1).len
 obtain ⟨ca2,cc2,rfl⟩:=(show IsL yc c2.length from w2).len
 obtain ⟨pa2,pc2,rfl⟩:=(show IsL yp 0 from w3).len
 have q1:IsL (.slice ha h.length hc) h.length:=q1
 have q2:IsL (.slice ca c1.length cc) c1.length:=q2
 have q3:IsL (.slice pa p1.length pc) p1.length:=q3
 have w1:IsL (.slice ha2 h.length hc2) h.length:=w1
 have w2:IsL (.slice ca2 c2.length cc2) c2.length:=w2
 have hl1:h.length≤20000∧c1.length≤20000∧p1.length≤20000:=hlen1
 have hl2:c2.length≤20000:=hlen2.2.1
 refine ⟨_,rfl,_,fun w' _=>run_len_sl Tryz.underlying38 w',fun _=>?_,nf rfl⟩
 refine ⟨_,rfl,_,fun w' _=>run_len_sl Tryz.underlying37 w',_,rfl,_,fun w' _=>run_len_sl Tryz.underlying37 w',fun c=>absurd c (by simp),fun _=>?_⟩
 refine ⟨fun q f m=>∃ i:Nat,q=h.length - i∧i≤h.length∧f=[(7,SV.ptr 7 0),(9,SV.ptr 9 0),(11,SV.c (.int .i64 (i:Nat)))]∧m=[(7,Blk.row 40 3 #[.slice ha h.length hc,.slice ca c1.length cc,.slice pa p1.length pc]),(9,Blk.row 40 3 #[.slice ha2 h.length hc2,.slice ca2 c2.length cc2,.slice pa2 0 pc2]),(9506,Blk.own (.slice ha h.length hc) 66 2 h.length (cat sumA h)),(9507,Blk.own (.slice ca c1.length cc) 49 3 c1.length (cat sumK c1)),(9508,Blk.own (.slice pa p1.length pc) 49 3 p1.length (cat sumK p1)),(9516,Blk.own (.slice ha2 h.length hc2) 66 2 h.length (cat sumA h)),(9517,Blk.own (.slice ca2 c2.length cc2) 49 3 c2.length (cat sumK c2))],h.length,⟨_,_,⟨0,rfl,by omega,rfl,rfl⟩,⟨rfl,rfl,rfl,trivial⟩,⟨rfl,rfl,.inl rfl,.inl rfl,.inl rfl,.inl rfl,.inl rfl,trivial⟩,rfl⟩,?_⟩
 rintro q f m ⟨i,rfl,hi,rfl,rfl⟩
 refine ⟨_,rfl,_,fun w' _=>run_len_sl Tryz.underlying37 w',fun h'=>?_,fun h'=>?_⟩
 ·have h':i < h.length:=by have:=of_decide_eq_true h';omega
  obtain ⟨g0,rfl⟩:∃ sg,ha=some ⟨sg,0,none⟩:=by
   rcases q1 with ⟨-,h0⟩ | ⟨sg,sp,hq⟩
   ·omega
   ·cases hq;exact ⟨_,rfl⟩
  obtain ⟨g1,rfl⟩:∃ sg,ha2=some ⟨sg,0,none⟩:=by
   rcases w1 with ⟨-,h0⟩ | ⟨sg,sp,hq⟩
   ·omega
   ·cases hq;exact ⟨_,rfl⟩
  obtain ⟨y,hy⟩:∃ y,h[i]? = some y:=⟨_,List.getElem?_eq_getElem h'⟩
  have E1:=cat_extract sumA_size hy
  have hsz:(cat sumA h).size=h.length*2:=Go.SX.cat_size sumA_size _
  have N1:=fun (u v:Operand)=>neqs_hol hE y (u:=u) (v:=v)
  generalize hYA:sumA y=YA at E1 N1
  refine ⟨_,rfl,by omega,by omega,.inr ⟨9506,g0,_,h.length,_,_,_,_,rfl,rfl,(by rw [offH,hsz];show i*2+2≤h.length*2;omega),YA,(by rw [offH];exact E1),?_⟩⟩
  refine ⟨_,rfl,by omega,by omega,.inr ⟨9516,g1,_,h.length,_,_,_,_,rfl,rfl,(by rw [offH,hsz];show i*2+2≤h.length*2;omega),YA,(by rw [offH];exact E1),?_⟩⟩
  refine ⟨_,N1 _ _,by kernel_rfl,nf rfl,fun _=>?_⟩
  exact ⟨h.length - (i+1),_,_,by omega,⟨i+1,rfl,by omega,rfl,rfl⟩,⟨rfl,rfl,c_int (i64_succ (by omega)),trivial⟩,⟨rfl,rfl,.inl rfl,.inl rfl,.inl rfl,.inl rfl,.inl rfl,trivial⟩,rfl⟩
 refine .inl ⟨by decide,by decide,strs codes3,by kernel_rfl,rfl,?_⟩
 refine ⟨fun q f m=>∃ i:Nat,q=3 - i∧i≤3∧f=[(7,SV.ptr 7 0),(9,SV.ptr 9 0),(90,SV.sl 90 0 3 3),(91,SV.c (.int .i64 3)),(92,SV.c (.int .i64 (i:Nat)))]∧m=[(7,Blk.row 40 3 #[.slice ha h.length hc,.slice ca c1.length cc,.slice pa p1.length pc]),(9,Blk.row 40 3 #[.slice ha2 h.length hc2,.slice ca2 c2.length cc2,.slice pa2 0 pc2]),(9506,Blk.own (.slice ha h.length hc) 66 2 h.length (cat sumA h)),(9507,Blk.own (.slice ca c1.length cc) 49 3 c1.length (cat sumK c1)),(9508,Blk.own (.slice pa p1.length pc) 49 3 p1.length (cat sumK p1)),(9516,Blk.own (.slice ha2 h.length hc2) 66 2 h.length (cat sumA h)),(9517,Blk.own (.slice ca2 c2.length cc2) 49 3 c2.length (cat sumK c2)),(90,Blk.row 9 3 (strs codes3))],3,⟨_,_,⟨0,rfl,by omega,rfl,rfl⟩,⟨rfl,rfl,rfl,rfl,rfl,trivial⟩,⟨rfl,rfl,.inl rfl,.inl rfl,.inl rfl,.inl rfl,.inl rfl,rfl,trivial⟩,rfl⟩,?_⟩
 rintro q f m ⟨i,rfl,hi,rfl,rfl⟩
 refine ⟨fun h2=>?_,fun h2=>?_⟩
 rotate_left
 ·exact .inl ⟨_,known_p,rfl,trivial⟩
 have h2:i < 3:=by have:=of_decide_eq_true h2;omega
 obtain ⟨sk,hsk⟩:∃ sk:Bs,(strs codes3)[i]? = some (.string (S sk)):=⟨_,strs_get h2⟩
 refine ⟨by omega,by omega,_,hsk,?_⟩
 refine ⟨fun q f m=>∃ j:Nat,q=c1.length - j∧j≤c1.length∧f=[(7,SV.ptr 7 0),(9,SV.ptr 9 0),(90,SV.sl 90 0 3 3),(91,SV.c (.int .i64 3)),(92,SV.c (.int .i64 (i:Nat))),(13,SV.c (.string (S sk))),(14,SV.c (.int .i64 (IntKind.i64.wrap (totK sk (c1.take j))))),(15,SV.c (.int .i64 (j:Nat)))]∧m=[(7,Blk.row 40 3 #[.slice ha h.length hc,.slice ca c1.length cc,.slice pa p1.length pc]),(9,Blk.row 40 3 #[.slice ha2 h.length hc2,.slice ca2 c2.length cc2,.slice pa2 0 pc2]),(9506,Blk.own (.slice ha h.length hc) 66 2 h.length (cat sumA h)),(9507,Blk.own (.slice ca c1.length cc) 49 3 c1.length (cat sumK c1)),(9508,Blk.own (.slice pa p1.length pc) 49 3 p1.length (cat sumK p1)),(9516,Blk.own (.slice ha2 h.length hc2) 66 2 h.length (cat sumA h)),(9517,Blk.own (.slice ca2 c2.length cc2) 49 3 c2.length (cat sumK c2)),(90,Blk.row 9 3 (strs codes3))],c1.length,⟨_,_,⟨0,rfl,by omega,rfl,rfl⟩,⟨rfl,rfl,rfl,rfl,rfl,rfl,rfl,rfl,trivial⟩,⟨rfl,rfl,.inl rfl,.inl rfl,.inl rfl,.inl rfl,.inl rfl,rfl,trivial⟩,rfl⟩,?_⟩
 rintro q f m ⟨j,rfl,hj,rfl,rfl⟩
 refine ⟨_,rfl,_,fun w' _=>run_len_sl Tryz.underlying38 w',fun h'=>?_,fun h'=>?_⟩
 ·have h':j < c1.length:=by have:=of_decide_eq_true h';omega
  obtain ⟨sg,rfl⟩:∃ sg,ca=some ⟨sg,0,none⟩:=by
   rcases q2 with ⟨-,h0⟩ | ⟨sg,sp,hq⟩
   ·omega
   ·cases hq;exact ⟨_,rfl⟩
  obtain ⟨y,hy⟩:∃ y,c1[j]? = some y:=⟨_,List.getElem?_eq_getElem h'⟩
  have G0:(cat sumK c1)[offAt 0 ((j:Nat):Int) ti49.size+0]? = some (.string (S y.1.1)):=by rw [off3,cat_get sumK_size c1 j y 0 hy (by decide)];rfl
  have G2:(cat sumK c1)[offAt 0 ((j:Nat):Int) ti49.size+2]? = some (.int .i64 y.2):=by rw [off3,cat_get sumK_size c1 j y 2 hy (by decide)];rfl
  have st:=totK_take sk hy
  refine ⟨_,rfl,by omega,by omega,.inr ⟨9507,sg,_,_,cc,_,_,_,rfl,rfl,_,G0,fun d1=>?_,fun d1=>?_⟩⟩
  ·have d1:y.1.1=sk:=by have c:=(S_beq y.1.1 sk).symm.trans d1;simpa using c
   refine ⟨_,rfl,by omega,by omega,.inr ⟨9507,sg,_,_,cc,_,_,_,rfl,rfl,_,G2,⟨c1.length - (j+1),_,_,by omega,⟨j+1,rfl,by omega,rfl,rfl⟩,⟨rfl,rfl,rfl,rfl,rfl,rfl,c_int (by rw [w_add,st,if_pos d1]<;>(congr 1;omega)),c_int (i64_succ (by omega)),trivial⟩,⟨rfl,rfl,.inl rfl,.inl rfl,.inl rfl,.inl rfl,.inl rfl,rfl,trivial⟩,rfl⟩⟩⟩
  ·have d1:¬ y.1.1=sk:=by have c:=(S_beq y.1.1 sk).symm.trans d1;simpa using c
   exact ⟨c1.length - (j+1),_,_,by omega,⟨j+1,rfl,by omega,rfl,rfl⟩,⟨rfl,rfl,rfl,rfl,rfl,rfl,c_int (by rw [st,if_neg d1];congr 1;omega),c_int (i64_succ (by omega)),trivial⟩,⟨rfl,rfl,.inl rfl,.inl rfl,.inl rfl,.inl rfl,.inl rfl,rfl,trivial⟩,rfl⟩
 have h':j=c1.length:=by have:=of_decide_eq_false h';omega
 have ec1:c1.take j=c1:=by rw [h',List.take_length]
 clear h'
 refine ⟨fun q f m=>∃ j:Nat,q=p1.length - j∧j≤p1.length∧f=[(7,SV.ptr 7 0),(9,SV.ptr 9 0),(90,SV.sl 90 0 3 3),(91,SV.c (.int .i64 3)),(92,SV.c (.int .i64 (i:Nat))),(13,SV.c (.string (S sk))),(14,SV.c (.int .i64 (IntKind.i64.wrap (totK sk c1+totK sk (p1.take j))))),(16,SV.c (.int .i64 (j:Nat)))]∧m=[(7,Blk.row 40 3 #[.slice ha h.length hc,.slice ca c1.length cc,.slice pa p1.length pc]),(9,Blk.row 40 3 #[.slice ha2 h.length hc2,.slice ca2 c2.length cc2,.slice pa2 0 pc2]),(9506,Blk.own (.slice ha h.length hc) 66 2 h.length (cat sumA h)),(9507,Blk.own (.slice ca c1.length cc) 49 3 c1.length (cat sumK c1)),(9508,Blk.own (.slice pa p1.length pc) 49 3 p1.length (cat sumK p1)),(9516,Blk.own (.slice ha2 h.length hc2) 66 2 h.length (cat sumA h)),(9517,Blk.own (.slice ca2 c2.length cc2) 49 3 c2.length (cat sumK c2)),(90,Blk.row 9 3 (strs codes3))],p1.length,⟨_,_,⟨0,rfl,by omega,rfl,rfl⟩,⟨rfl,rfl,rfl,rfl,rfl,rfl,c_int (by rw [ec1];exact congrArg IntKind.i64.wrap (Int.add_zero _).symm),rfl,trivial⟩,⟨rfl,rfl,.inl rfl,.inl rfl,.inl rfl,.inl rfl,.inl rfl,rfl,trivial⟩,rfl⟩,?_⟩
 rintro q f m ⟨j,rfl,hj,rfl,rfl⟩
 refine ⟨_,rfl,_,fun w' _=>run_len_sl Tryz.underlying38 w',fun h'=>?_,fun h'=>?_⟩
 ·have h':j < p1.length:=by have:=of_decide_eq_true h';omega
  obtain ⟨sg,rfl⟩:∃ sg,pa=some ⟨sg,0,none⟩:=by
   rcases q3 with ⟨-,h0⟩ | ⟨sg,sp,hq⟩
   ·omega
   ·cases hq;exact ⟨_,rfl⟩
  obtain ⟨y,hy⟩:∃ y,p1[j]? = some y:=⟨_,List.getElem?_eq_getElem h'⟩
  have G0:(cat sumK p1)[offAt 0 ((j:Nat):Int) ti49.size+0]? = some (.string (S y.1.1)):=by rw [off3,cat_get sumK_size p1 j y 0 hy (by decide)];rfl
  have G2:(cat sumK p1)[offAt 0 ((j:Nat):Int) ti49.size+2]? = some (.int .i64 y.2):=by rw [off3,cat_get sumK_size p1 j y 2 hy (by decide)];rfl
  have st:=totK_take sk hy
  refine ⟨_,rfl,by omega,by omega,.inr ⟨9508,sg,_,_,pc,_,_,_,rfl,rfl,_,G0,fun d1=>?_,fun d1=>?_⟩⟩
  ·have d1:y.1.1=sk:=by have c:=(S_beq y.1.1 sk).symm.trans d1;simpa using c
   refine ⟨_,rfl,by omega,by omega,.inr ⟨9508,sg,_,_,pc,_,_,_,rfl,rfl,_,G2,⟨p1.length - (j+1),_,_,by omega,⟨j+1,rfl,by omega,rfl,rfl⟩,⟨rfl,rfl,rfl,rfl,rfl,rfl,c_int (by rw [w_add,st,if_pos d1]<;>(congr 1;omega)),c_int (i64_succ (by omega)),trivial⟩,⟨rfl,rfl,.inl rfl,.inl rfl,.inl rfl,.inl rfl,.inl rfl,rfl,trivial⟩,rfl⟩⟩⟩
  ·have d1:¬ y.1.1=sk:=by have c:=(S_beq y.1.1 sk).symm.trans d1;simpa using c
   exact ⟨p1.length - (j+1),_,_,by omega,⟨j+1,rfl,by omega,rfl,rfl⟩,⟨rfl,rfl,rfl,rfl,rfl,rfl,c_int (by rw [st,if_neg d1];congr 1;omega),c_int (i64_succ (by omega)),trivial⟩,⟨rfl,rfl,.inl rfl,.inl rfl,.inl rfl,.inl rfl,.inl rfl,rfl,trivial⟩,rfl⟩
 have h':j=p1.length:=by have:=of_decide_eq_false h';omega
 have ep1:p1.take j=p1:=by rw [h',List.take_length]
 clear h'
 refine ⟨fun q f m=>∃ j:Nat,q=c2.length - j∧j≤c2.length∧f=[(7,SV.ptr 7 0),(9,SV.ptr 9 0),(90,SV.sl 90 0 3 3),(91,SV.c (.int .i64 3)),(92,SV.c (.int .i64 (i:Nat))),(13,SV.c (.string (S sk))),(14,SV.c (.int .i64 (IntKind.i64.wrap (totK sk c1+totK sk p1 - totK sk (c2.take j))))),(17,SV.c (.int .i64 (j:Nat)))]∧m=[(7,Blk.row 40 3 #[.slice ha h.length hc,.slice ca c1.length cc,.slice pa p1.length pc]),(9,Blk.row 40 3 #[.slice ha2 h.length hc2,.slice ca2 c2.length cc2,.slice pa2 0 pc2]),(9506,Blk.own (.slice ha h.length hc) 66 2 h.length (cat sumA h)),(9507,Blk.own (.slice ca c1.length cc) 49 3 c1.length (cat sumK c1)),(9508,Blk.own (.slice pa p1.length pc) 49 3 p1.length (cat sumK p1)),(9516,Blk.own (.slice ha2 h.length hc2) 66 2 h.length (cat sumA h)),(9517,Blk.own (.slice ca2 c2.length cc2) 49 3 c2.length (cat sumK c2)),(90,Blk.row 9 3 (strs codes3))],c2.length,⟨_,_,⟨0,rfl,by omega,rfl,rfl⟩,⟨rfl,rfl,rfl,rfl,rfl,rfl,c_int (by rw [ep1];congr 1;show _=_ - (0:Int);omega),rfl,trivial⟩,⟨rfl,rfl,.inl rfl,.inl rfl,.inl rfl,.inl rfl,.inl rfl,rfl,trivial⟩,rfl⟩,?_⟩
 rintro q f m ⟨j,rfl,hj,rfl,rfl⟩
 refine ⟨_,rfl,_,fun w' _=>run_len_sl Tryz.underlying38 w',fun h'=>?_,fun h'=>?_⟩
 ·have h':j < c2.length:=by have:=of_decide_eq_true h';omega
  obtain ⟨sg,rfl⟩:∃ sg,ca2=some ⟨sg,0,none⟩:=by
   rcases w2 with ⟨-,h0⟩ | ⟨sg,sp,hq⟩
   ·omega
   ·cases hq;exact ⟨_,rfl⟩
  obtain ⟨y,hy⟩:∃ y,c2[j]? = some y:=⟨_,List.getElem?_eq_getElem h'⟩
  have G0:(cat sumK c2)[offAt 0 ((j:Nat):Int) ti49.size+0]? = some (.string (S y.1.1)):=by rw [off3,cat_get sumK_size c2 j y 0 hy (by decide)];rfl
  have G2:(cat sumK c2)[offAt 0 ((j:Nat):Int) ti49.size+2]? = some (.int .i64 y.2):=by rw [off3,cat_get sumK_size c2 j y 2 hy (by decide)];rfl
  have st:=totK_take sk hy
  refine ⟨_,rfl,by omega,by omega,.inr ⟨9517,sg,_,_,cc2,_,_,_,rfl,rfl,_,G0,fun d1=>?_,fun d1=>?_⟩⟩
  ·have d1:y.1.1=sk:=by have c:=(S_beq y.1.1 sk).symm.trans d1;simpa using c
   refine ⟨_,rfl,by omega,by omega,.inr ⟨9517,sg,_,_,cc2,_,_,_,rfl,rfl,_,G2,⟨c2.length - (j+1),_,_,by omega,⟨j+1,rfl,by omega,rfl,rfl⟩,⟨rfl,rfl,rfl,rfl,rfl,rfl,c_int (by rw [w_sub,st,if_pos d1];congr 1;omega),c_int (i64_succ (by omega)),trivial⟩,⟨rfl,rfl,.inl rfl,.inl rfl,.inl rfl,.inl rfl,.inl rfl,rfl,trivial⟩,rfl⟩⟩⟩
  ·have d1:¬ y.1.1=sk:=by have c:=(S_beq y.1.1 sk).symm.trans d1;simpa using c
   exact ⟨c2.length - (j+1),_,_,by omega,⟨j+1,rfl,by omega,rfl,rfl⟩,⟨rfl,rfl,rfl,rfl,rfl,rfl,c_int (by rw [st,if_neg d1];congr 1;omega),c_int (i64_succ (by omega)),trivial⟩,⟨rfl,rfl,.inl rfl,.inl rfl,.inl rfl,.inl rfl,.inl rfl,rfl,trivial⟩,rfl⟩
 have h':j=c2.length:=by have:=of_decide_eq_false h';omega
 have e3:c2.take j=c2:=by rw [h',List.take_length]
 have hz:IntKind.i64.wrap (totK sk c1+totK sk p1 - totK sk (c2.take j))=0:=by
  rw [e3,← hT sk,Int.sub_self];rfl
 exact ⟨fun c=>absurd c (by rw [hz];decide),fun _=>⟨3 - (i+1),_,_,by omega,⟨i+1,rfl,by omega,rfl,rfl⟩,⟨rfl,rfl,rfl,rfl,c_int (i64_succ (by omega)),trivial⟩,⟨rfl,rfl,.inl rfl,.inl rfl,.inl rfl,.inl rfl,.inl rfl,rfl,trivial⟩,rfl⟩⟩
end Go.Proofs.YtekfkdddadcalaaGreatDoor
