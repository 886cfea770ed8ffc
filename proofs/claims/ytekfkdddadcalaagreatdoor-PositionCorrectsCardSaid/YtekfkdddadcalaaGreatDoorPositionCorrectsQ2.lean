/- the law PositionCorrects; no condition. -/
import Derived.Test.YtekfkdddadcalaaGreatDoorPositionCorrectsQ1
import Derived.Test.YtekfkdddadcalaaGreatDoorP31
import Derived.Test.YtekfkdddadcalaaGreatDoorP33
set_option maxRecDepth 100000
set_option maxHeartbeats 4000000
namespace Go.Proofs.YtekfkdddadcalaaGreatDoor
open Go Go.RowKit Go.SX
structure CoX (x w:EC):Prop where
 v:validE w=true
 k:w.key=x.key
 n:w.known=200
 i:w.In
theorem co_amt {D:Int} {x:EC} (h:MkB D x) (hk:x.key∈keysE) {a:Int} (ha : -100000≤a∧a≤100000):CoX x { x with known:=200,amt:=a }:=by
 have hl:=keysE_len hk
 have h2:MkX D { x with known:=200,amt:=a }:=.inr ⟨h.v,h.d,h.s,ha,h.c,h.k⟩
 exact ⟨(h2.md (hdrE_of (by show 1≤x.key.length;omega) (by show x.key.length≤64;omega) (by show (1:Int)≤200;decide) (by show (200:Int)≤_;decide))).v,rfl,rfl,h2.in_ (by show x.key.length≤64;omega)⟩
theorem co_nil {x:EC} (hk:x.key∈keysE):CoX x (EC.nil x.key 200):=by
 have hl:=keysE_len hk
 have h2:MkX 0 (EC.nil x.key 200):=.inl rfl
 exact ⟨(h2.md (hdrE_of (by show 1≤x.key.length;omega) (by show x.key.length≤64;omega) (by show (1:Int)≤200;decide) (by show (200:Int)≤_;decide))).v,rfl,rfl,h2.in_ (by show x.key.length≤64;omega)⟩
theorem corr_law {D b d:Int} {n:Nat} {xs:List EC} {x w:EC} {j:Nat} (hn:n≤9) (hM:MkL D n b xs) (hb:b≤2+5*n) (hj:(visX xs 100).length=j+1) (hx:(visX xs 100)[j]? = some x) (hB:MkB D x) (hk:x.key∈keysE) (hw:CoX x w):atP (xs++[w]++[{ x with known:=201 }]) [] 201 d=atP xs [] 100 d∧atP (xs++[w]++[{ x with known:=201 }]) [] 100 d=atP xs [] 100 d:=by
 have hl:=keysE_len hk
 have l1:=hM.l
 have k1:=hM.k
 have c2:=chkX_snoc hM.c (by omega) hw.v (by have:=hw.n;omega)
 have h2:MkX D { x with known:=201 }:=.inr ⟨hB.v,hB.d,hB.s,hB.a,hB.c,hB.k⟩
 have v2:=(h2.md (hdrE_of (by show 1≤x.key.length;omega) (by show x.key.length≤64;omega) (by show (1:Int)≤201;decide) (by show (201:Int)≤_;decide))).v
 have c3:=chkX_snoc c2 (by simp;omega) v2 (by rw [List.map_append,List.map_cons,List.map_nil,lastK_snoc];show w.known < 201;have:=hw.n;omega)
 refine at_corr (v:=(visX xs 100).take j) hM.c c2 c3 (fun y hy=>by have:=(hM.x y hy).2.2.2;omega) ?_ ⟨hw.k,hw.n⟩ ⟨rfl,rfl,hB.v,rfl⟩
 conv=>lhs;rw [← List.take_append_drop j (visX xs 100)]
 congr 1
 rw [List.drop_eq_getElem_cons (by omega)]
 congr 1
 ·exact Option.some.inj ((List.getElem?_eq_getElem (by omega)).symm.trans hx)
 ·exact List.drop_eq_nil_of_le (by omega)
theorem visX_nv {xs:List EC} {k:Int}:∀ a∈visX xs k,a.void=false:=fun a h=>by
 unfold visX at h
 split at h
 ·obtain ⟨i,hi,e⟩:=List.mem_filterMap.1 h
  have h2:=(List.mem_filter.1 hi).2
  unfold visB at h2
  have hm:(xs.map mkE)[i]? = some (mkE a):=by rw [List.getElem?_map,e];rfl
  rw [hm] at h2
  simp only [Bool.and_eq_true,Bool.not_eq_true'] at h2
  exact h2.1
 ·cases h
theorem fill_ent2 (a b:EC):Instr.fill (fun k=>some (k*ti31.size,ti31.size)) (madeCells ti31.zero (2*ti31.size)) [(0,.agg a.A),(1,.agg b.A)]=some (a.A++b.A):=by kernel_rfl
theorem own_eqn2 {v:Value} {e:TypeId} {sz n m:Nat} {A B:Array Value} (h:n=m) (h2:A=B):some (Blk.own v e sz n A)=some (Blk.own v e sz m B):=by rw [h,h2]
theorem positionCorrects_f {v:Value} {zs:List Int} (w:World) (hv:Tp (envC Tryz.prog tt Tryz.f8.ntmps w [] []).toEnv v zs):Calls Tryz.prog 8 #[v] w fun e w'=>e=.returned (.bool true)∧Below w.heap.size w w':=by
 refine sx_atXP [(15,[1,3,4,5,7,12,0,2,6,8,9,10,11,13,14],[6,0,7,1,2,3,8,4,9,10,11,12,5,13,14]),(16,[1,3,4,5,7,12,0,2,6,8,9,10,11,13,14],[6,0,7,1,2,3,8,4,9,10,11,12,5,13,14])] [12,15,16,17] tt_ok mixed at8 [v] _ w rfl ?_
 have hv0:=hv
 obtain ⟨a,cap,rfl,-⟩:=hv0
 refine ⟨_,fill_tape a zs.length cap rfl,rfl,?_⟩
 generalize hvv:Value.slice a zs.length cap=v at *
 have hE:(envC Tryz.prog tt Tryz.f8.ntmps w [] [] [12,15,16,17]).toEnv.P=Tryz.prog:=rfl
 obtain ⟨r1,k1,a1,b1,⟨i1,rfl,c1⟩,O1⟩:=next_g (n:=8) (by decide) zs 0 (by omega)
 obtain ⟨j,rfl⟩:∃ j:Nat,i1=(j:Nat):=⟨i1.toNat,by omega⟩
 have e1:IntKind.i64.wrap (1+((j:Nat):Int))=((j+1:Nat):Int):=by rw [i64_in (by omega)];omega
 have A1:=entries_m hE hv (n:=j+1) (k:=k1) (by omega) (by omega) (day:=9497) (by decide)
 rw [← e1] at A1
 refine .inr (.inl ⟨_,_,_,O1 _ v 19 rfl hv,⟨rfl,trivial⟩,rfl,?_⟩)
 refine .inr (.inr (.inr ⟨[(1000,19)],[3001],[_,_,_],[_],_,A1,rfl,⟨rfl,trivial⟩,rfl,trivial,?_⟩))
 rintro x U ⟨xs,k2,b,a2,b2,hx,hM,hb,rfl⟩
 refine ⟨rfl,?_⟩
 obtain ⟨g,cp,rfl⟩:∃ g cp,x=.slice (some ⟨g,0,none⟩) (j+1) cp:=by
  rcases hx with ⟨-,h0⟩ | ⟨g,cp,h⟩
  ·omega
  ·exact ⟨g,cp,h⟩
 have hin:=hM.in_
 have hxn:=hM.l
 have V1:=vis_eo hE (x:=.slice (some ⟨g,0,none⟩) (j+1) cp) (k:=100) hxn.symm (by omega) hin
 refine .inr (.inr (.inr ⟨[(9640,3001)],[3000],[_,_],[_],_,V1,rfl,⟨.inl rfl,trivial⟩,rfl,trivial,?_⟩))
 rintro r U ⟨U0,⟨s,N,hN,rfl,hs,rfl⟩,rfl⟩
 rw [hM.c]
 refine ⟨rfl,?_⟩
 obtain ⟨sa,sc,rfl⟩:=hs.len
 refine ⟨fun _=>⟨_,fun w' _=>run_len_sl Tryz.underlying26 w',fun c=>?_,fun c=>?_⟩,nf rfl⟩
 ·exact .inl ⟨_,known_p,fun _=>⟨rfl,trivial⟩,nf rfl⟩
 have hN0:¬ N=0:=by
  have c:(((N:Nat):Int) == 0)=false:=c
  simpa using c
 obtain ⟨p,rfl⟩:∃ p,N=p+1:=⟨N - 1,by omega⟩
 obtain ⟨sg,rfl⟩:∃ sg,sa=some ⟨sg,0,none⟩:=by
  rcases hs with ⟨-,h0⟩ | ⟨sg,sp,hs⟩
  ·omega
  ·cases hs;exact ⟨_,rfl⟩
 have hNl:p+1≤4096:=by rw [hN];exact visX_len hM.c
 have ep:IntKind.i64.wrap (((p+1:Nat):Int) - 1)=((p:Nat):Int):=by rw [i64_in (by omega)];omega
 obtain ⟨z,hz⟩:∃ z,(visX xs 100)[p]? = some z:=⟨_,List.getElem?_eq_getElem (by omega)⟩
 have hzm:=List.mem_of_getElem? hz
 have hzx:=hM.x z (visX_ok z hzm).1
 have hB:=hzx.1.live (visX_nv z hzm)
 have E1:=cat_extract EC.size hz
 have hsz:(cat EC.A (visX xs 100)).size=(p+1)*10:=by rw [Go.SX.cat_size EC.size,hN]
 refine ⟨_,fun w' _=>run_len_sl Tryz.underlying26 w',?_⟩
 refine ⟨by rw [ep];omega,by rw [ep];omega,.inr ⟨3000,sg,_,_,sc,_,_,_,rfl,rfl,(by rw [ep,off10,hsz];show p*10+10≤_;omega),z.A,(by rw [ep,off10];exact E1),z.fits,z.fits,?_⟩⟩
 refine ⟨_,EC.g6 z,?_⟩
 have ea : -100000≤IntKind.i64.wrap (Int.tdiv z.amt 2)∧IntKind.i64.wrap (Int.tdiv z.amt 2)≤100000:=by
  have h1:=hB.a
  have h2 : -100000≤Int.tdiv z.amt 2∧Int.tdiv z.amt 2≤100000:=by
   have h3:(Int.tdiv z.amt 2).natAbs=z.amt.natAbs / 2:=Int.natAbs_tdiv z.amt 2
   have h4:z.amt.natAbs / 2≤100000:=by omega
   rw [← h3] at h4
   omega
  rw [i64_in (by omega)]
  exact h2
 refine ⟨by decide,by decide,rfl,_,EC.s8 z 200,by decide,rfl,_,EC.s6 ({ z with known:=200 }:EC) _,by kernel_rfl,?_⟩
 refine ⟨fun f m=>∃ (wz:EC) (k3:Nat),k3≤10000∧CoX z wz∧f=[(3,SV.ptr 19 0),(4,SV.c (.int .i64 9497)),(5,SV.c (.slice (some ⟨g,0,none⟩) (j+1) cp)),(8,SV.ptr 8 0),(9,SV.ptr 9 0)]∧m=[(19,Blk.row 25 2 (tb v k3)),(3001,Blk.own (.slice (some ⟨g,0,none⟩) (j+1) cp) 31 10 (j+1) (cat EC.A xs)),(8,Blk.row 31 10 z.A),(9,Blk.row 31 10 wz.A)],?_,?_⟩
 ·obtain ⟨r3,k3,a3,b3,⟨t,rfl⟩,O3⟩:=chance_g (a:=1) (b:=2) (by decide) zs k2 (by omega)
  refine .inr (.inl ⟨_,_,_,O3 _ v 19 rfl hv,⟨rfl,trivial⟩,rfl,fun ht=>?_,fun ht=>?_⟩)
  ·exact ⟨_,EC.g1 z,_,fill_voidE z.key 200 rfl,EC.fits _,_,_,⟨_,k3,by omega,co_nil hzx.2.2.1,rfl,rfl⟩,⟨rfl,rfl,rfl,rfl,rfl,trivial⟩,⟨rfl,.inl rfl,rfl,rfl,trivial⟩,rfl⟩
  ·exact ⟨_,_,⟨_,k3,by omega,co_amt hB hzx.2.2.1 ea,rfl,rfl⟩,⟨rfl,rfl,rfl,rfl,rfl,trivial⟩,⟨rfl,.inl rfl,rfl,rfl,trivial⟩,rfl⟩
 rintro f1 m1 ⟨wz,k3,hk3,hw,rfl,rfl⟩
 obtain ⟨r4,k4,a4,b4,⟨i4,rfl,c4⟩,O4⟩:=next_g (n:=12) (by decide) zs k3 (by omega)
 refine ⟨by decide,rfl,_,EC.s8 z 201,.inr (.inl ⟨_,_,_,O4 _ v 19 rfl hv,⟨rfl,trivial⟩,rfl,?_⟩)⟩
 obtain ⟨d,hd⟩:∃ d,IntKind.i64.wrap (9497+i4)=d:=⟨_,rfl⟩
 have hlen:=atP_len xs [] 100 d
 have hlaw:=corr_law (d:=d) (by omega) hM hb hN.symm hz hB hzx.2.2.1 hw
 have L1:=at_n hE (x:=(.slice (some ⟨g,0,none⟩) (j+1) cp)) (k:=100) (day:=IntKind.i64.wrap (9497+i4)) hxn.symm (by omega) hin
 have hin2:∀ y∈xs++[wz]++[({ z with known:=201 }:EC)],y.In:=fun y hy=>by
  rcases List.mem_append.1 hy with h | h
  ·rcases List.mem_append.1 h with h | h
   ·exact hin y h
   ·rw [List.mem_singleton.1 h];exact hw.i
  ·rw [List.mem_singleton.1 h]
   have:=hin z (visX_ok z hzm).1
   exact ⟨this.key,this.ins,this.cur⟩
 have L2:=fun (u:Value)=>at_n hE (x:=u) (xs:=xs++[wz]++[({ z with known:=201 }:EC)]) (nx:=j+1+2) (k:=201) (day:=d) (by simp [hxn]) (by omega) hin2
 have L3:=fun (u:Value)=>at_n hE (x:=u) (xs:=xs++[wz]++[({ z with known:=201 }:EC)]) (nx:=j+1+2) (k:=100) (day:=d) (by simp [hxn]) (by omega) hin2
 rw [hlaw.1] at L2
 rw [hlaw.2] at L3
 rw [show atP xs [] 100 (IntKind.i64.wrap (9497+i4))=atP xs [] 100 d by rw [hd]] at L1
 generalize atP xs [] 100 d=R at L1 L2 L3 hlen hlaw
 have hX:cat EC.A xs++(wz.A++EC.A ({ z with known:=201 }:EC))=cat EC.A (xs++[wz]++[({ z with known:=201 }:EC)]):=by
  rw [← cat_snoc (xs++[wz]),← cat_snoc xs,Array.append_assoc]
 rw [← hX] at L2 L3
 have F1:=fill_ent2 wz ({ z with known:=201 }:EC)
 have F2:(wz.A++EC.A ({ z with known:=201 }:EC)).all (·.oneCell')=true:=by rw [Array.all_append,wz.one,EC.one];rfl
 have F4:(wz.A++EC.A ({ z with known:=201 }:EC)).size=2*10:=by rw [Array.size_append,EC.size,EC.size]
 have F3:(wz.A++EC.A ({ z with known:=201 }:EC)).extract 0 (0+2*10)=wz.A++EC.A ({ z with known:=201 }:EC):=by
  rw [← show (wz.A++EC.A ({ z with known:=201 }:EC)).size=0+2*10 from F4];exact Array.extract_size
 have xa1:(cat EC.A xs).all (·.oneCell')=true:=Go.SX.cat_all EC.one xs
 have xa2:(cat EC.A xs).size=(j+1)*10:=by rw [Go.SX.cat_size EC.size,hxn]
 obtain ⟨q0,hq0,hb0⟩:=info_ent
 refine ⟨fun f m=>∃ xh xc xp:Value,IsL xh R.1.h.length∧IsL xc R.1.c.length∧IsL xp R.1.p.length∧f=[(5,SV.c (.slice (some ⟨g,0,none⟩) (j+1) cp)),(8,SV.ptr 8 0),(9,SV.ptr 9 0),(10,SV.c (.int .i64 d)),(11,SV.ptr 11 0),(12,SV.c (.int .i64 R.2))]∧m=[(3001,Blk.own (.slice (some ⟨g,0,none⟩) (j+1) cp) 31 10 (j+1) (cat EC.A xs)),(8,Blk.row 31 10 (EC.A ({ z with known:=201 }:EC))),(9,Blk.row 31 10 wz.A),(11,Blk.row 40 3 #[xh,xc,xp]),(9506,Blk.own xh 66 2 R.1.h.length (cat sumA R.1.h)),(9507,Blk.own xc 49 3 R.1.c.length (cat sumK R.1.c)),(9508,Blk.own xp 49 3 R.1.p.length (cat sumK R.1.p))],?_,?_⟩
 ·refine .inr (.inr (.inr ⟨[(9640,3001)],[9506,9507,9508],[_,_,_,_],[_],_,L1,rfl,⟨.inl rfl,trivial⟩,rfl,trivial,?_⟩))
  rintro r U ⟨U0,⟨xh,xc,xp,q1,q2,q3,rfl,rfl⟩,rfl⟩
  exact ⟨rfl,fits3 (isL_one q1) (isL_one q2) (isL_one q3),_,_,⟨xh,xc,xp,q1,q2,q3,rfl,rfl⟩,⟨rfl,rfl,rfl,c_int hd,rfl,rfl,trivial⟩,⟨.inl rfl,rfl,rfl,rfl,.inl rfl,.inl rfl,.inl rfl,trivial⟩,rfl⟩
 rintro f1 m1 ⟨xh,xc,xp,q1,q2,q3,rfl,rfl⟩
 refine ⟨fun f m=>∃ yh yc yp:Value,IsL yh R.1.h.length∧IsL yc R.1.c.length∧IsL yp R.1.p.length∧f=[(5,SV.c (.slice (some ⟨g,0,none⟩) (j+1) cp)),(8,SV.ptr 8 0),(9,SV.ptr 9 0),(10,SV.c (.int .i64 d)),(11,SV.ptr 11 0),(12,SV.c (.int .i64 R.2)),(13,SV.ptr 13 0),(14,SV.c (.int .i64 R.2))]∧m=[(3001,Blk.own (.slice (some ⟨g,0,none⟩) (j+1) cp) 31 10 (j+1) (cat EC.A xs)),(8,Blk.row 31 10 (EC.A ({ z with known:=201 }:EC))),(9,Blk.row 31 10 wz.A),(11,Blk.row 40 3 #[xh,xc,xp]),(9506,Blk.own xh 66 2 R.1.h.length (cat sumA R.1.h)),(9507,Blk.own xc 49 3 R.1.c.length (cat sumK R.1.c)),(9508,Blk.own xp 49 3 R.1.p.length (cat sumK R.1.p)),(13,Blk.row 40 3 #[yh,yc,yp]),(9516,Blk.own yh 66 2 R.1.h.length (cat sumA R.1.h)),(9517,Blk.own yc 49 3 R.1.c.length (cat sumK R.1.c)),(9518,Blk.own yp 49 3 R.1.p.length (cat sumK R.1.p))],?_,?_⟩
 ·refine ⟨by kernel_rfl,.inl ⟨by decide,by decide,_,F1,F4,?_⟩⟩
  refine goodX_buildOwn tt_ok rfl ⟨by decide,.inr rfl,by decide,#[],by kernel_rfl,rfl,by change _=true;kernel_rfl,fun g1=>?_⟩
  refine ⟨by decide,72,0,#[],.inl rfl,?_⟩
  refine .inr ⟨[3001],j+1,cat EC.A xs,src_own rfl xa1 xa2 (by omega),by omega,by unfold maxLen;omega,⟨q0,hq0,by rw [hb0];omega⟩,by change _=true;kernel_rfl,fun g2 cap2=>?_⟩
  refine ⟨by decide,72,(0+(j+1)),(#[]++cat EC.A xs),.inl rfl,by decide,F2,F4,_,F3,by omega,by unfold maxLen;omega,⟨q0,hq0,by rw [hb0];omega⟩,by change _=true;kernel_rfl,fun g3 cap3=>?_⟩
  refine .inr (.inr (.inr ⟨[(9640,72),(9506,9516),(9507,9517),(9508,9518)],[9516,9517,9518],[_,_,_,_],[_],_,L2 (.slice (some ⟨g3,0,none⟩) ((0+(j+1))+2) cap3),rfl,⟨.inl (own_eqn2 (by omega) (by simp)),trivial⟩,by kernel_rfl,(by change _=true;kernel_rfl),?_⟩))
  rintro r U ⟨U0,⟨yh,yc,yp,p1,p2,p3,rfl,rfl⟩,rfl⟩
  exact ⟨by kernel_rfl,fits3 (isL_one p1) (isL_one p2) (isL_one p3),by kernel_rfl,_,_,⟨yh,yc,yp,p1,p2,p3,rfl,rfl⟩,⟨rfl,rfl,rfl,rfl,rfl,rfl,rfl,rfl,trivial⟩,⟨.inl rfl,rfl,rfl,rfl,.inl rfl,.inl rfl,.inl rfl,rfl,.inl rfl,.inl rfl,.inl rfl,trivial⟩,rfl⟩
 rintro f1 m1 ⟨yh,yc,yp,w1,w2,w3,rfl,rfl⟩
 refine ⟨fun f m=>∃ uh uc up:Value,IsL uh R.1.h.length∧IsL uc R.1.c.length∧IsL up R.1.p.length∧f=[(11,SV.ptr 11 0),(12,SV.c (.int .i64 R.2)),(13,SV.ptr 13 0),(14,SV.c (.int .i64 R.2)),(15,SV.ptr 15 0),(16,SV.c (.int .i64 R.2))]∧m=[(11,Blk.row 40 3 #[xh,xc,xp]),(9506,Blk.own xh 66 2 R.1.h.length (cat sumA R.1.h)),(9507,Blk.own xc 49 3 R.1.c.length (cat sumK R.1.c)),(9508,Blk.own xp 49 3 R.1.p.length (cat sumK R.1.p)),(13,Blk.row 40 3 #[yh,yc,yp]),(9516,Blk.own yh 66 2 R.1.h.length (cat sumA R.1.h)),(9517,Blk.own yc 49 3 R.1.c.length (cat sumK R.1.c)),(9518,Blk.own yp 49 3 R.1.p.length (cat sumK R.1.p)),(15,Blk.row 40 3 #[uh,uc,up]),(9526,Blk.own uh 66 2 R.1.h.length (cat sumA R.1.h)),(9527,Blk.own uc 49 3 R.1.c.length (cat sumK R.1.c)),(9528,Blk.own up 49 3 R.1.p.length (cat sumK R.1.p))],?_,?_⟩
 ·refine ⟨by kernel_rfl,.inl ⟨by decide,by decide,_,F1,F4,?_⟩⟩
  refine goodX_buildOwn tt_ok rfl ⟨by decide,.inr rfl,by decide,#[],by kernel_rfl,rfl,by change _=true;kernel_rfl,fun g1=>?_⟩
  refine ⟨by decide,84,0,#[],.inl rfl,?_⟩
  refine .inr ⟨[3001],j+1,cat EC.A xs,src_own rfl xa1 xa2 (by omega),by omega,by unfold maxLen;omega,⟨q0,hq0,by rw [hb0];omega⟩,by change _=true;kernel_rfl,fun g2 cap2=>?_⟩
  refine ⟨by decide,84,(0+(j+1)),(#[]++cat EC.A xs),.inl rfl,by decide,F2,F4,_,F3,by omega,by unfold maxLen;omega,⟨q0,hq0,by rw [hb0];omega⟩,by change _=true;kernel_rfl,fun g3 cap3=>?_⟩
  refine .inr (.inr (.inr ⟨[(9640,84),(9506,9526),(9507,9527),(9508,9528)],[9526,9527,9528],[_,_,_,_],[_],_,L3 (.slice (some ⟨g3,0,none⟩) ((0+(j+1))+2) cap3),rfl,⟨.inl (own_eqn2 (by omega) (by simp)),trivial⟩,by kernel_rfl,(by change _=true;kernel_rfl),?_⟩))
  rintro r U ⟨U0,⟨yh,yc,yp,p1,p2,p3,rfl,rfl⟩,rfl⟩
  exact ⟨by kernel_rfl,fits3 (isL_one p1) (isL_one p2) (isL_one p3),by kernel_rfl,_,_,⟨yh,yc,yp,p1,p2,p3,rfl,rfl⟩,⟨rfl,rfl,rfl,rfl,rfl,rfl,trivial⟩,⟨rfl,.inl rfl,.inl rfl,.inl rfl,rfl,.inl rfl,.inl rfl,.inl rfl,rfl,.inl rfl,.inl rfl,.inl rfl,trivial⟩,rfl⟩
 rintro f1 m1 ⟨uh,uc,up,p1,p2,p3,rfl,rfl⟩
 have S1:=same_o hE (g:=R.1) q1 q2 q3 w1 w2 w3 (by omega)
 have S2:=same_o hE (g:=R.1) q1 q2 q3 p1 p2 p3 (by omega)
 refine .inl ⟨_,known_p,fun _=>⟨fun _=>?_,fun h=>absurd h (by simp)⟩,nf rfl⟩
 refine .inr (.inr (.inl ⟨[],[_,_],[_,_,_,_,_,_],_,[_,_,_,_,_,_],S1,rfl,⟨.inl rfl,.inl rfl,.inl rfl,.inl rfl,.inl rfl,.inl rfl,trivial⟩,rfl,rfl,?_⟩))
 refine ⟨fun _=>⟨fun _=>?_,fun h=>absurd h (by simp)⟩,nf rfl⟩
 exact .inr (.inr (.inl ⟨[(9516,9526),(9517,9527),(9518,9528)],[_,_],[_,_,_,_,_,_],_,[_,_,_,_,_,_],S2,rfl,⟨.inl rfl,.inl rfl,.inl rfl,.inl rfl,.inl rfl,.inl rfl,trivial⟩,rfl,rfl,rfl,trivial⟩))
end Go.Proofs.YtekfkdddadcalaaGreatDoor
