/- the law PositionSums; no condition. -/
import Derived.Test.YtekfkdddadcalaaGreatDoorP33
import Derived.Test.YtekfkdddadcalaaGreatDoorP31
set_option maxRecDepth 100000
set_option maxHeartbeats 4000000
namespace Go.Proofs.YtekfkdddadcalaaGreatDoor
open Go Go.RowKit Go.SX
theorem sums_law {D k d b:Int} {n:Nat} {xs:List EC} (hn:n≤11) (hM:MkL D n b xs) (hd:0≤d∧d≤73048):atP xs [] k d=(.zero,181)∨∃ g,atP xs [] k d=(g,0)∧(∀ s,getA g.h s=sumBy (fH d s) (visX xs k)∧IntKind.i64.wrap (sumBy (fH d s) (visX xs k))=sumBy (fH d s) (visX xs k))∧∀ c,totK c g.c+totK c g.p=sumBy (fT d c) (visX xs k):=by
 rcases at_made (k:=k) (day:=d) (fun x hx=>(hM.x x hx).2.1) (by have:=hM.l;omega) hM.c (inB_of hd.1 hd.2) with h | ⟨g,h1,-,h2,-,-,h3⟩
 ·exact .inl h
 ·refine .inr ⟨g,h1,fun s=>⟨by rw [h2,sH_filter],?_⟩,fun c=>by rw [h3,sT_filter]⟩
  have hb:=sum_le (f:=fH d s) (l:=visX xs k) fun x hx=>by
   have hm:=(hM.x x (visX_ok x hx).1).2.1
   have:=hm.q
   unfold fH
   split<;>omega
  have hl:=visX_len (k:=k) hM.c
  exact i64_in (by omega)
theorem fH_of {d:Int} {s:Bs} {x:EC} (h1:x.day≤d) (h2:x.ins=s):fH d s x=x.qty:=by unfold fH;rw [if_pos ⟨h1,h2⟩]
theorem fH_no {d:Int} {s:Bs} {x:EC} (h:¬ (x.day≤d∧x.ins=s)):fH d s x=0:=by unfold fH;rw [if_neg h]
theorem fT_of {d:Int} {s:Bs} {x:EC} (h1:x.day≤d) (h2:x.cur=s):fT d s x=x.amt:=by unfold fT;rw [if_pos ⟨h1,h2⟩]
theorem fT_no {d:Int} {s:Bs} {x:EC} (h:¬ (x.day≤d∧x.cur=s)):fT d s x=0:=by unfold fT;rw [if_neg h]
theorem positionSums_f {v:Value} {zs:List Int} (w:World) (hv:Tp (envC Tryz.prog tt Tryz.f4.ntmps w [] []).toEnv v zs):Calls Tryz.prog 4 #[v] w fun e w'=>e=.returned (.bool true)∧Below w.heap.size w w':=by
 refine sx_atX [] tt_ok mixed at4 [v] _ w rfl ?_
 have hv0:=hv
 obtain ⟨a,cap,rfl,-⟩:=hv0
 refine ⟨_,fill_tape a zs.length cap rfl,rfl,?_⟩
 generalize hvv:Value.slice a zs.length cap=v at *
 have hE:(envC Tryz.prog tt Tryz.f4.ntmps w [] []).toEnv.P=Tryz.prog:=rfl
 obtain ⟨r2,k2,a2,b2,⟨i2,rfl,c2⟩,O2⟩:=next_g (n:=12) (by decide) zs 0 (by omega)
 obtain ⟨n,rfl⟩:∃ n:Nat,i2=(n:Nat):=⟨i2.toNat,by omega⟩
 have A1:=entries_m hE hv (n:=n) (k:=k2) (by omega) (by omega) (day:=9497) (by decide)
 refine .inr (.inl ⟨_,_,_,O2 _ v 24 rfl hv,⟨rfl,trivial⟩,rfl,?_⟩)
 refine .inr (.inr (.inr ⟨[(1000,24)],[3001],[_,_,_],[_],_,A1,rfl,⟨rfl,trivial⟩,rfl,trivial,?_⟩))
 rintro x U ⟨xs,k3,b,a3,b3,hx,hM,hb,rfl⟩
 refine ⟨rfl,?_⟩
 have hin:=hM.in_
 have hxn:=hM.l
 obtain ⟨r4,k4,a4,b4,⟨k,rfl,c4⟩,O4⟩:=next_g (n:=50) (by decide) zs k3 (by omega)
 obtain ⟨r5,k5,a5,b5,⟨i5,rfl,c5⟩,O5⟩:=next_g (n:=9) (by decide) zs k4 (by omega)
 refine .inr (.inl ⟨_,_,_,O4 _ v 24 rfl hv,⟨rfl,trivial⟩,rfl,?_⟩)
 refine .inr (.inl ⟨_,_,_,O5 _ v 24 rfl hv,⟨rfl,trivial⟩,rfl,?_⟩)
 obtain ⟨d,hd⟩:∃ d,IntKind.i64.wrap (9497+i5)=d:=⟨_,rfl⟩
 have hd2:d=9497+i5:=by rw [← hd];exact i64_in (by omega)
 have L1:=at_n hE (x:=x) (k:=k) (day:=IntKind.i64.wrap (9497+i5)) hxn.symm (by omega) hin
 have hlen:=atP_len xs [] k (IntKind.i64.wrap (9497+i5))
 have hlaw:=sums_law (k:=k) (d:=IntKind.i64.wrap (9497+i5)) (by omega) hM (by rw [hd];omega)
 generalize atP xs [] k (IntKind.i64.wrap (9497+i5))=R at L1 hlen hlaw
 refine .inr (.inr (.inr ⟨[(9640,3001)],[9506,9507,9508],[_,_,_,_],[_],_,L1,rfl,⟨.inl rfl,trivial⟩,rfl,trivial,?_⟩))
 rintro r U ⟨U0,⟨xh,xc,xp,q1,q2,q3,rfl,rfl⟩,rfl⟩
 refine ⟨rfl,fits3 (isL_one q1) (isL_one q2) (isL_one q3),?_⟩
 have V1:=vis_eo hE (x:=x) (k:=k) hxn.symm (by omega) hin
 refine .inr (.inr (.inr ⟨[(9640,3001)],[3000],[_,_],[_],_,V1,rfl,⟨.inl rfl,trivial⟩,rfl,trivial,?_⟩))
 rintro r U ⟨U0,⟨s,N,hN,rfl,hs,rfl⟩,rfl⟩
 rw [hM.c]
 refine ⟨rfl,?_⟩
 rcases hlaw with rfl | ⟨g,rfl,hH,hT⟩
 ·refine ⟨fun _=>?_,nf rfl⟩
  exact .inl ⟨_,known_p,fun _=>⟨fun _=>⟨rfl,trivial⟩,nf rfl⟩,nf rfl⟩
 refine ⟨nf rfl,fun _=>?_⟩
 obtain ⟨ca,cc,rfl⟩:=(show IsL xc g.c.length from q2).len
 obtain ⟨pa,pc,rfl⟩:=(show IsL xp g.p.length from q3).len
 obtain ⟨sa,sc,rfl⟩:=hs.len
 have q1:IsL xh g.h.length:=q1
 have q2:IsL (.slice ca g.c.length cc) g.c.length:=q2
 have q3:IsL (.slice pa g.p.length pc) g.p.length:=q3
 have hlen:g.h.length≤20000∧g.c.length≤20000∧g.p.length≤20000:=hlen
 rw [hd] at hH hT
 have hNl:N≤4096:=by rw [hN];exact visX_len hM.c
 generalize hV:visX xs k=V at *
 refine .inl ⟨by decide,by decide,strs stocks4,by kernel_rfl,rfl,?_⟩
 refine ⟨fun q f m=>∃ i:Nat,q=4 - i∧i≤4∧f=[(7,SV.c (.int .i64 d)),(8,SV.ptr 8 0),(10,SV.c (.slice sa N sc)),(11,SV.c (.int .i64 0)),(60,SV.sl 60 0 4 4),(61,SV.c (.int .i64 4)),(62,SV.c (.int .i64 (i:Nat)))]∧m=[(8,Blk.row 40 3 #[xh,.slice ca g.c.length cc,.slice pa g.p.length pc]),(9506,Blk.own xh 66 2 g.h.length (cat sumA g.h)),(9507,Blk.own (.slice ca g.c.length cc) 49 3 g.c.length (cat sumK g.c)),(9508,Blk.own (.slice pa g.p.length pc) 49 3 g.p.length (cat sumK g.p)),(3000,Blk.own (.slice sa N sc) 31 10 N (cat EC.A V)),(60,Blk.row 9 4 (strs stocks4))],4,⟨_,_,⟨0,rfl,by omega,rfl,rfl⟩,⟨c_int hd,rfl,rfl,rfl,rfl,rfl,rfl,trivial⟩,⟨rfl,.inl rfl,.inl rfl,.inl rfl,.inl rfl,rfl,trivial⟩,rfl⟩,?_⟩
 rintro q f m ⟨i,rfl,hi,rfl,rfl⟩
 refine ⟨fun h=>?_,fun h=>?_⟩
 ·have h:i < 4:=by have:=of_decide_eq_true h;omega
  obtain ⟨sk,hsk⟩:∃ sk:Bs,(strs stocks4)[i]? = some (.string (S sk)):=⟨_,strs_get h⟩
  refine ⟨by omega,by omega,_,hsk,?_⟩
  refine ⟨fun q f m=>∃ j:Nat,q=N - j∧j≤N∧f=[(7,SV.c (.int .i64 d)),(8,SV.ptr 8 0),(10,SV.c (.slice sa N sc)),(11,SV.c (.int .i64 0)),(60,SV.sl 60 0 4 4),(61,SV.c (.int .i64 4)),(62,SV.c (.int .i64 (i:Nat))),(13,SV.c (.string (S sk))),(14,SV.c (.int .i64 (IntKind.i64.wrap (sumBy (fH d sk) (V.take j))))),(15,SV.c (.int .i64 (j:Nat)))]∧m=[(8,Blk.row 40 3 #[xh,.slice ca g.c.length cc,.slice pa g.p.length pc]),(9506,Blk.own xh 66 2 g.h.length (cat sumA g.h)),(9507,Blk.own (.slice ca g.c.length cc) 49 3 g.c.length (cat sumK g.c)),(9508,Blk.own (.slice pa g.p.length pc) 49 3 g.p.length (cat sumK g.p)),(3000,Blk.own (.slice sa N sc) 31 10 N (cat EC.A V)),(60,Blk.row 9 4 (strs stocks4))],N,⟨_,_,⟨0,rfl,by omega,rfl,rfl⟩,⟨rfl,rfl,rfl,rfl,rfl,rfl,rfl,rfl,rfl,rfl,trivial⟩,⟨rfl,.inl rfl,.inl rfl,.inl rfl,.inl rfl,rfl,trivial⟩,rfl⟩,?_⟩
  rintro q f m ⟨j,rfl,hj,rfl,rfl⟩
  refine ⟨_,fun w' _=>run_len_sl Tryz.underlying26 w',fun h'=>?_,fun h'=>?_⟩
  ·have h':j < N:=by have:=of_decide_eq_true h';omega
   obtain ⟨sg,rfl⟩:∃ sg,sa=some ⟨sg,0,none⟩:=by
    rcases hs with ⟨-,h0⟩ | ⟨sg,sp,hs⟩
    ·omega
    ·cases hs;exact ⟨_,rfl⟩
   obtain ⟨y,hy⟩:∃ y,V[j]? = some y:=⟨_,List.getElem?_eq_getElem (show j < V.length by omega)⟩
   have G2:(cat EC.A V)[offAt 0 ((j:Nat):Int) ti31.size+2]? = some (.int .i64 y.day):=by rw [off10,cat_get EC.size V j y 2 hy (by decide)];exact y.g2
   have G4:(cat EC.A V)[offAt 0 ((j:Nat):Int) ti31.size+4]? = some (.string (S y.ins)):=by rw [off10,cat_get EC.size V j y 4 hy (by decide)];exact y.g4
   have G5:(cat EC.A V)[offAt 0 ((j:Nat):Int) ti31.size+5]? = some (.int .i64 y.qty):=by rw [off10,cat_get EC.size V j y 5 hy (by decide)];exact y.g5
   have st:=sumBy_take (fH d sk) hy
   refine ⟨by omega,by omega,.inr ⟨3000,sg,_,_,sc,_,_,_,rfl,rfl,_,G2,?_⟩⟩
   refine ⟨fun c1=>?_,fun c1=>?_⟩
   ·have d1:y.day≤d:=of_decide_eq_true c1
    refine ⟨by omega,by omega,.inr ⟨3000,sg,_,_,sc,_,_,_,rfl,rfl,_,G4,fun c2=>?_,fun c2=>?_⟩⟩
    ·have c2:y.ins=sk:=by have c:=(S_beq y.ins sk).symm.trans c2;simpa using c
     exact ⟨by omega,by omega,.inr ⟨3000,sg,_,_,sc,_,_,_,rfl,rfl,_,G5,⟨N - (j+1),_,_,by omega,⟨j+1,rfl,by omega,rfl,rfl⟩,⟨rfl,rfl,rfl,rfl,rfl,rfl,rfl,rfl,c_int (by rw [w_add,st,fH_of d1 c2]),c_int (i64_succ (by omega)),trivial⟩,⟨rfl,.inl rfl,.inl rfl,.inl rfl,.inl rfl,rfl,trivial⟩,rfl⟩⟩⟩
    ·have c2:¬ y.ins=sk:=by have c:=(S_beq y.ins sk).symm.trans c2;simpa using c
     exact ⟨N - (j+1),_,_,by omega,⟨j+1,rfl,by omega,rfl,rfl⟩,⟨rfl,rfl,rfl,rfl,rfl,rfl,rfl,rfl,c_int (by rw [st,fH_no (fun h=>c2 h.2),Int.add_zero]),c_int (i64_succ (by omega)),trivial⟩,⟨rfl,.inl rfl,.inl rfl,.inl rfl,.inl rfl,rfl,trivial⟩,rfl⟩
   ·have d1:¬ y.day≤d:=of_decide_eq_false c1
    exact ⟨nf rfl,fun _=>⟨N - (j+1),_,_,by omega,⟨j+1,rfl,by omega,rfl,rfl⟩,⟨rfl,rfl,rfl,rfl,rfl,rfl,rfl,rfl,c_int (by rw [st,fH_no (fun h=>d1 h.1),Int.add_zero]),c_int (i64_succ (by omega)),trivial⟩,⟨rfl,.inl rfl,.inl rfl,.inl rfl,.inl rfl,rfl,trivial⟩,rfl⟩⟩
  ·have h':j=N:=by have:=of_decide_eq_false h';omega
   subst h'
   have HZ:=held_zo hE (x:=xh) (vc:=.slice ca g.c.length cc) (vp:=.slice pa g.p.length pc) (H:=g.h) (k:=sk) rfl (by omega)
   have e:V.take j=V:=by rw [hN,List.take_length]
   have hEq:getA g.h sk=IntKind.i64.wrap (sumBy (fH d sk) (V.take j)):=by rw [e,(hH sk).2,(hH sk).1]
   refine .inr (.inr (.inl ⟨[(9610,9506)],[_,_],[_],_,[_],HZ,rfl,⟨.inl rfl,trivial⟩,rfl,rfl,fun c=>absurd c (by rw [hEq];simp),fun _=>?_⟩))
   exact ⟨4 - (i+1),_,_,by omega,⟨i+1,rfl,by omega,rfl,rfl⟩,⟨rfl,rfl,rfl,rfl,rfl,rfl,c_int (i64_succ (by omega)),trivial⟩,⟨rfl,.inl rfl,.inl rfl,.inl rfl,.inl rfl,rfl,trivial⟩,rfl⟩
 have h:i=4:=by have:=of_decide_eq_false h;omega
 subst h
 refine .inl ⟨by decide,by decide,strs codes3,by kernel_rfl,rfl,?_⟩
 refine ⟨fun q f m=>∃ i:Nat,q=3 - i∧i≤3∧f=[(7,SV.c (.int .i64 d)),(8,SV.ptr 8 0),(10,SV.c (.slice sa N sc)),(11,SV.c (.int .i64 0)),(101,SV.sl 101 0 3 3),(102,SV.c (.int .i64 3)),(103,SV.c (.int .i64 (i:Nat)))]∧m=[(8,Blk.row 40 3 #[xh,.slice ca g.c.length cc,.slice pa g.p.length pc]),(9506,Blk.own xh 66 2 g.h.length (cat sumA g.h)),(9507,Blk.own (.slice ca g.c.length cc) 49 3 g.c.length (cat sumK g.c)),(9508,Blk.own (.slice pa g.p.length pc) 49 3 g.p.length (cat sumK g.p)),(3000,Blk.own (.slice sa N sc) 31 10 N (cat EC.A V)),(101,Blk.row 9 3 (strs codes3))],3,⟨_,_,⟨0,rfl,by omega,rfl,rfl⟩,⟨rfl,rfl,rfl,rfl,rfl,rfl,rfl,trivial⟩,⟨rfl,.inl rfl,.inl rfl,.inl rfl,.inl rfl,rfl,trivial⟩,rfl⟩,?_⟩
 rintro q f m ⟨i,rfl,hi,rfl,rfl⟩
 refine ⟨fun h=>?_,fun h=>?_⟩
 rotate_left
 ·exact .inl ⟨_,known_p,fun _=>⟨rfl,trivial⟩,nf rfl⟩
 have h:i < 3:=by have:=of_decide_eq_true h;omega
 obtain ⟨sk,hsk⟩:∃ sk:Bs,(strs codes3)[i]? = some (.string (S sk)):=⟨_,strs_get h⟩
 refine ⟨by omega,by omega,_,hsk,?_⟩
 refine ⟨fun q f m=>∃ j:Nat,q=N - j∧j≤N∧f=[(7,SV.c (.int .i64 d)),(8,SV.ptr 8 0),(10,SV.c (.slice sa N sc)),(11,SV.c (.int .i64 0)),(101,SV.sl 101 0 3 3),(102,SV.c (.int .i64 3)),(103,SV.c (.int .i64 (i:Nat))),(17,SV.c (.string (S sk))),(18,SV.c (.int .i64 (IntKind.i64.wrap (sumBy (fT d sk) (V.take j))))),(19,SV.c (.int .i64 (j:Nat)))]∧m=[(8,Blk.row 40 3 #[xh,.slice ca g.c.length cc,.slice pa g.p.length pc]),(9506,Blk.own xh 66 2 g.h.length (cat sumA g.h)),(9507,Blk.own (.slice ca g.c.length cc) 49 3 g.c.length (cat sumK g.c)),(9508,Blk.own (.slice pa g.p.length pc) 49 3 g.p.length (cat sumK g.p)),(3000,Blk.own (.slice sa N sc) 31 10 N (cat EC.A V)),(101,Blk.row 9 3 (strs codes3))],N,⟨_,_,⟨0,rfl,by omega,rfl,rfl⟩,⟨rfl,rfl,rfl,rfl,rfl,rfl,rfl,rfl,rfl,rfl,trivial⟩,⟨rfl,.inl rfl,.inl rfl,.inl rfl,.inl rfl,rfl,trivial⟩,rfl⟩,?_⟩
 rintro q f m ⟨j,rfl,hj,rfl,rfl⟩
 refine ⟨_,fun w' _=>run_len_sl Tryz.underlying26 w',fun h'=>?_,fun h'=>?_⟩
 ·have h':j < N:=by have:=of_decide_eq_true h';omega
  obtain ⟨sg,rfl⟩:∃ sg,sa=some ⟨sg,0,none⟩:=by
   rcases hs with ⟨-,h0⟩ | ⟨sg,sp,hs⟩
   ·omega
   ·cases hs;exact ⟨_,rfl⟩
  obtain ⟨y,hy⟩:∃ y,V[j]? = some y:=⟨_,List.getElem?_eq_getElem (show j < V.length by omega)⟩
  have G2:(cat EC.A V)[offAt 0 ((j:Nat):Int) ti31.size+2]? = some (.int .i64 y.day):=by rw [off10,cat_get EC.size V j y 2 hy (by decide)];exact y.g2
  have G7:(cat EC.A V)[offAt 0 ((j:Nat):Int) ti31.size+7]? = some (.string (S y.cur)):=by rw [off10,cat_get EC.size V j y 7 hy (by decide)];exact y.g7
  have G6:(cat EC.A V)[offAt 0 ((j:Nat):Int) ti31.size+6]? = some (.int .i64 y.amt):=by rw [off10,cat_get EC.size V j y 6 hy (by decide)];rfl
  have st:=sumBy_take (fT d sk) hy
  refine ⟨by omega,by omega,.inr ⟨3000,sg,_,_,sc,_,_,_,rfl,rfl,_,G2,fun c1=>?_,fun c1=>?_⟩⟩
  ·have d1:y.day≤d:=of_decide_eq_true c1
   refine ⟨by omega,by omega,.inr ⟨3000,sg,_,_,sc,_,_,_,rfl,rfl,_,G7,fun c2=>?_,fun c2=>?_⟩⟩
   ·have c2:y.cur=sk:=by have c:=(S_beq y.cur sk).symm.trans c2;simpa using c
    exact ⟨by omega,by omega,.inr ⟨3000,sg,_,_,sc,_,_,_,rfl,rfl,_,G6,⟨N - (j+1),_,_,by omega,⟨j+1,rfl,by omega,rfl,rfl⟩,⟨rfl,rfl,rfl,rfl,rfl,rfl,rfl,rfl,c_int (by rw [w_add,st,fT_of d1 c2]),c_int (i64_succ (by omega)),trivial⟩,⟨rfl,.inl rfl,.inl rfl,.inl rfl,.inl rfl,rfl,trivial⟩,rfl⟩⟩⟩
   ·have c2:¬ y.cur=sk:=by have c:=(S_beq y.cur sk).symm.trans c2;simpa using c
    exact ⟨N - (j+1),_,_,by omega,⟨j+1,rfl,by omega,rfl,rfl⟩,⟨rfl,rfl,rfl,rfl,rfl,rfl,rfl,rfl,c_int (by rw [st,fT_no (fun h=>c2 h.2),Int.add_zero]),c_int (i64_succ (by omega)),trivial⟩,⟨rfl,.inl rfl,.inl rfl,.inl rfl,.inl rfl,rfl,trivial⟩,rfl⟩
  ·have d1:¬ y.day≤d:=of_decide_eq_false c1
   exact ⟨nf rfl,fun _=>⟨N - (j+1),_,_,by omega,⟨j+1,rfl,by omega,rfl,rfl⟩,⟨rfl,rfl,rfl,rfl,rfl,rfl,rfl,rfl,c_int (by rw [st,fT_no (fun h=>d1 h.1),Int.add_zero]),c_int (i64_succ (by omega)),trivial⟩,⟨rfl,.inl rfl,.inl rfl,.inl rfl,.inl rfl,rfl,trivial⟩,rfl⟩⟩
 have h':j=N:=by have:=of_decide_eq_false h';omega
 have e1:V.take j=V:=by rw [h',hN,List.take_length]
 clear h'
 refine ⟨fun q f m=>∃ j:Nat,q=g.c.length - j∧j≤g.c.length∧f=[(7,SV.c (.int .i64 d)),(8,SV.ptr 8 0),(10,SV.c (.slice sa N sc)),(11,SV.c (.int .i64 0)),(101,SV.sl 101 0 3 3),(102,SV.c (.int .i64 3)),(103,SV.c (.int .i64 (i:Nat))),(17,SV.c (.string (S sk))),(18,SV.c (.int .i64 (IntKind.i64.wrap (sumBy (fT d sk) V - totK sk (g.c.take j))))),(20,SV.c (.int .i64 (j:Nat)))]∧m=[(8,Blk.row 40 3 #[xh,.slice ca g.c.length cc,.slice pa g.p.length pc]),(9506,Blk.own xh 66 2 g.h.length (cat sumA g.h)),(9507,Blk.own (.slice ca g.c.length cc) 49 3 g.c.length (cat sumK g.c)),(9508,Blk.own (.slice pa g.p.length pc) 49 3 g.p.length (cat sumK g.p)),(3000,Blk.own (.slice sa N sc) 31 10 N (cat EC.A V)),(101,Blk.row 9 3 (strs codes3))],g.c.length,⟨_,_,⟨0,rfl,by omega,rfl,rfl⟩,⟨rfl,rfl,rfl,rfl,rfl,rfl,rfl,rfl,c_int (by rw [e1];congr 1;show _=_ - (0:Int);omega),rfl,trivial⟩,⟨rfl,.inl rfl,.inl rfl,.inl rfl,.inl rfl,rfl,trivial⟩,rfl⟩,?_⟩
 rintro q f m ⟨j,rfl,hj,rfl,rfl⟩
 refine ⟨_,rfl,_,fun w' _=>run_len_sl Tryz.underlying38 w',fun h'=>?_,fun h'=>?_⟩
 ·have h':j < g.c.length:=by have:=of_decide_eq_true h';omega
  obtain ⟨sg,rfl⟩:∃ sg,ca=some ⟨sg,0,none⟩:=by
   rcases q2 with ⟨-,h0⟩ | ⟨sg,sp,hq⟩
   ·omega
   ·cases hq;exact ⟨_,rfl⟩
  obtain ⟨y,hy⟩:∃ y,g.c[j]? = some y:=⟨_,List.getElem?_eq_getElem h'⟩
  have G0:(cat sumK g.c)[offAt 0 ((j:Nat):Int) ti49.size+0]? = some (.string (S y.1.1)):=by rw [off3,cat_get sumK_size g.c j y 0 hy (by decide)];rfl
  have G2:(cat sumK g.c)[offAt 0 ((j:Nat):Int) ti49.size+2]? = some (.int .i64 y.2):=by rw [off3,cat_get sumK_size g.c j y 2 hy (by decide)];rfl
  have st:=totK_take sk hy
  refine ⟨_,rfl,by omega,by omega,.inr ⟨9507,sg,_,_,cc,_,_,_,rfl,rfl,_,G0,fun c1=>?_,fun c1=>?_⟩⟩
  ·have c1:y.1.1=sk:=by have c:=(S_beq y.1.1 sk).symm.trans c1;simpa using c
   refine ⟨_,rfl,by omega,by omega,.inr ⟨9507,sg,_,_,cc,_,_,_,rfl,rfl,_,G2,⟨g.c.length - (j+1),_,_,by omega,⟨j+1,rfl,by omega,rfl,rfl⟩,⟨rfl,rfl,rfl,rfl,rfl,rfl,rfl,rfl,c_int (by rw [w_sub,st,if_pos c1];congr 1;omega),c_int (i64_succ (by omega)),trivial⟩,⟨rfl,.inl rfl,.inl rfl,.inl rfl,.inl rfl,rfl,trivial⟩,rfl⟩⟩⟩
  ·have c1:¬ y.1.1=sk:=by have c:=(S_beq y.1.1 sk).symm.trans c1;simpa using c
   exact ⟨g.c.length - (j+1),_,_,by omega,⟨j+1,rfl,by omega,rfl,rfl⟩,⟨rfl,rfl,rfl,rfl,rfl,rfl,rfl,rfl,c_int (by rw [st,if_neg c1];congr 1;omega),c_int (i64_succ (by omega)),trivial⟩,⟨rfl,.inl rfl,.inl rfl,.inl rfl,.inl rfl,rfl,trivial⟩,rfl⟩
 have h':j=g.c.length:=by have:=of_decide_eq_false h';omega
 have e2:g.c.take j=g.c:=by rw [h',List.take_length]
 clear h'
 refine ⟨fun q f m=>∃ j:Nat,q=g.p.length - j∧j≤g.p.length∧f=[(7,SV.c (.int .i64 d)),(8,SV.ptr 8 0),(10,SV.c (.slice sa N sc)),(11,SV.c (.int .i64 0)),(101,SV.sl 101 0 3 3),(102,SV.c (.int .i64 3)),(103,SV.c (.int .i64 (i:Nat))),(17,SV.c (.string (S sk))),(18,SV.c (.int .i64 (IntKind.i64.wrap (sumBy (fT d sk) V - totK sk g.c - totK sk (g.p.take j))))),(21,SV.c (.int .i64 (j:Nat)))]∧m=[(8,Blk.row 40 3 #[xh,.slice ca g.c.length cc,.slice pa g.p.length pc]),(9506,Blk.own xh 66 2 g.h.length (cat sumA g.h)),(9507,Blk.own (.slice ca g.c.length cc) 49 3 g.c.length (cat sumK g.c)),(9508,Blk.own (.slice pa g.p.length pc) 49 3 g.p.length (cat sumK g.p)),(3000,Blk.own (.slice sa N sc) 31 10 N (cat EC.A V)),(101,Blk.row 9 3 (strs codes3))],g.p.length,⟨_,_,⟨0,rfl,by omega,rfl,rfl⟩,⟨rfl,rfl,rfl,rfl,rfl,rfl,rfl,rfl,c_int (by rw [e2];congr 1;show _=_ - (0:Int);omega),rfl,trivial⟩,⟨rfl,.inl rfl,.inl rfl,.inl rfl,.inl rfl,rfl,trivial⟩,rfl⟩,?_⟩
 rintro q f m ⟨j,rfl,hj,rfl,rfl⟩
 refine ⟨_,rfl,_,fun w' _=>run_len_sl Tryz.underlying38 w',fun h'=>?_,fun h'=>?_⟩
 ·have h':j < g.p.length:=by have:=of_decide_eq_true h';omega
  obtain ⟨sg,rfl⟩:∃ sg,pa=some ⟨sg,0,none⟩:=by
   rcases q3 with ⟨-,h0⟩ | ⟨sg,sp,hq⟩
   ·omega
   ·cases hq;exact ⟨_,rfl⟩
  obtain ⟨y,hy⟩:∃ y,g.p[j]? = some y:=⟨_,List.getElem?_eq_getElem h'⟩
  have G0:(cat sumK g.p)[offAt 0 ((j:Nat):Int) ti49.size+0]? = some (.string (S y.1.1)):=by rw [off3,cat_get sumK_size g.p j y 0 hy (by decide)];rfl
  have G2:(cat sumK g.p)[offAt 0 ((j:Nat):Int) ti49.size+2]? = some (.int .i64 y.2):=by rw [off3,cat_get sumK_size g.p j y 2 hy (by decide)];rfl
  have st:=totK_take sk hy
  refine ⟨_,rfl,by omega,by omega,.inr ⟨9508,sg,_,_,pc,_,_,_,rfl,rfl,_,G0,fun c1=>?_,fun c1=>?_⟩⟩
  ·have c1:y.1.1=sk:=by have c:=(S_beq y.1.1 sk).symm.trans c1;simpa using c
   refine ⟨_,rfl,by omega,by omega,.inr ⟨9508,sg,_,_,pc,_,_,_,rfl,rfl,_,G2,⟨g.p.length - (j+1),_,_,by omega,⟨j+1,rfl,by omega,rfl,rfl⟩,⟨rfl,rfl,rfl,rfl,rfl,rfl,rfl,rfl,c_int (by rw [w_sub,st,if_pos c1];congr 1;omega),c_int (i64_succ (by omega)),trivial⟩,⟨rfl,.inl rfl,.inl rfl,.inl rfl,.inl rfl,rfl,trivial⟩,rfl⟩⟩⟩
  ·have c1:¬ y.1.1=sk:=by have c:=(S_beq y.1.1 sk).symm.trans c1;simpa using c
   exact ⟨g.p.length - (j+1),_,_,by omega,⟨j+1,rfl,by omega,rfl,rfl⟩,⟨rfl,rfl,rfl,rfl,rfl,rfl,rfl,rfl,c_int (by rw [st,if_neg c1];congr 1;omega),c_int (i64_succ (by omega)),trivial⟩,⟨rfl,.inl rfl,.inl rfl,.inl rfl,.inl rfl,rfl,trivial⟩,rfl⟩
 have h':j=g.p.length:=by have:=of_decide_eq_false h';omega
 have e3:g.p.take j=g.p:=by rw [h',List.take_length]
 have hz:IntKind.i64.wrap (sumBy (fT d sk) V - totK sk g.c - totK sk (g.p.take j))=0:=by
  rw [e3,← hT sk,show totK sk g.c+totK sk g.p - totK sk g.c - totK sk g.p=0 by omega];rfl
 exact ⟨fun c=>absurd c (by rw [hz];decide),fun _=>⟨3 - (i+1),_,_,by omega,⟨i+1,rfl,by omega,rfl,rfl⟩,⟨rfl,rfl,rfl,rfl,rfl,rfl,c_int (i64_succ (by omega)),trivial⟩,⟨rfl,.inl rfl,.inl rfl,.inl rfl,.inl rfl,rfl,trivial⟩,rfl⟩⟩
end Go.Proofs.YtekfkdddadcalaaGreatDoor
