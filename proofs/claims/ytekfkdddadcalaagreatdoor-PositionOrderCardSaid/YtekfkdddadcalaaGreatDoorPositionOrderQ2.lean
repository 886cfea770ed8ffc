/- the law PositionOrder; no condition. -/
import Derived.Test.YtekfkdddadcalaaGreatDoorPositionOrderQ1
import Derived.Test.YtekfkdddadcalaaGreatDoorP33
set_option maxRecDepth 100000
set_option maxHeartbeats 4000000
namespace Go.Proofs.YtekfkdddadcalaaGreatDoor
open Go Go.RowKit Go.SX
structure OrL (n:Nat) (xs:List EC):Prop where
 l:xs.length=n
 x:∀ (j:Nat) x,xs[j]? = some x→MkB 9497 x∧0≤x.qty∧x.known=j+1∧x.key=[UInt8.ofNat (97+j)]
theorem OrL.nil:OrL 0 []:=⟨rfl,fun j x h=>by simp at h⟩
theorem OrL.snoc {n:Nat} {xs:List EC} (h:OrL n xs) {x:EC} (h1:MkB 9497 x) (h2:0≤x.qty) (h3:x.known=n+1):OrL (n+1) (xs++[{ x with key:=[UInt8.ofNat (97+n)] }]):=by
 refine ⟨by rw [List.length_append,h.l];rfl,fun j y hy=>?_⟩
 rw [List.getElem?_append] at hy
 split at hy
 ·exact h.x j y hy
 ·rename_i hj
  have hj2:j=n:=by
   have:=h.l
   rcases Nat.lt_or_ge (j - xs.length) 1 with h9 | h9
   ·omega
   ·rw [List.getElem?_eq_none (by simpa using h9)] at hy;cases hy
  subst hj2
  rw [h.l,Nat.sub_self] at hy
  cases hy
  exact ⟨⟨h1.v,h1.d,h1.s,h1.a,h1.c,h1.k⟩,h2,h3,rfl⟩
theorem OrL.ord {n:Nat} {xs:List EC} (h:OrL n xs):OrdL n xs:=⟨h.l,fun j x hx=>by
 obtain ⟨h1,h2,h3,h4⟩:=h.x j x hx
 exact ⟨h1,h2,h3,by rw [h4];rfl⟩⟩
theorem OrL.keys {n:Nat} {xs:List EC} (h:OrL n xs) (hn:n≤100):xs.Pairwise fun a b=>a.key≠b.key:=by
 refine List.pairwise_iff_getElem.2 fun i j hi hj hij e=>?_
 have h1:=(h.x i _ (List.getElem?_eq_getElem hi)).2.2.2
 have h2:=(h.x j _ (List.getElem?_eq_getElem hj)).2.2.2
 rw [h1,h2] at e
 have e2:(UInt8.ofNat (97+i)).toNat=(UInt8.ofNat (97+j)).toNat:=by rw [List.cons.inj e |>.1]
 have hl:=h.l
 rw [UInt8.toNat_ofNat',UInt8.toNat_ofNat'] at e2
 omega
theorem renum_ord {n:Nat} {xs ms ys:List EC} (hx:OrL n xs) (hp:ms.Perm xs) (hl:ys.length=n) (hy:∀ (j:Nat) x,ms[j]? = some x→ys[j]? = some { x with known:=((j:Nat):Int)+1 }):OrdL n ys:=by
 have hml:ms.length=n:=by rw [hp.length_eq,hx.l]
 refine ⟨hl,fun j y hj=>?_⟩
 have hj2:j < n:=by rw [← hl];exact (List.getElem?_eq_some_iff.1 hj).1
 obtain ⟨x,hx2⟩:∃ x,ms[j]? = some x:=⟨_,List.getElem?_eq_getElem (by omega)⟩
 have h1:=hy j x hx2
 rw [hj] at h1
 cases h1
 obtain ⟨i,hi⟩:=List.mem_iff_getElem?.1 (hp.mem_iff.1 (List.mem_of_getElem? hx2))
 obtain ⟨h2,h3,-,h5⟩:=hx.x i x hi
 exact ⟨⟨h2.v,h2.d,h2.s,h2.a,h2.c,h2.k⟩,h3,rfl,by show x.key.length=1;rw [h5];rfl⟩
theorem flow_mk {i:Int} (hi:0≤i∧i < 5) (known:Int):MkB 9497 ⟨2,[],9497,IntKind.i64.wrap (9497+i),[],0,7,[85,83,68],known,false⟩:=by
 rw [i64_in (by omega)]
 exact ⟨rfl,⟨by show (0:Int)≤9497;decide,by show (9497:Int)≤9497+1;decide,by show (9497:Int)≤9497+7;decide⟩,⟨by show (9497:Int)≤9497+i;omega,by show 9497+i≤73048;omega,by show 9497+i≤9497+10;omega⟩,⟨by show (-100000:Int)≤7;decide,by show (7:Int)≤100000;decide⟩,by show ([85,83,68]:Bs)∈codes3;decide,.inr ⟨rfl,rfl,rfl⟩⟩
theorem fill_flow (settle known:Int) {pl:List (Nat×Nat)} (hpl:pl=[(0,1),(1,1),(2,1),(3,1),(4,1),(5,1),(6,1),(7,1),(8,1),(9,1)]):Instr.fill (fun k=>pl[k]?) ti31.zero [(0,.int .i64 2),(2,.int .i64 9497),(3,.int .i64 settle),(6,.int .i64 7),(7,.string (S [85,83,68])),(8,.int .i64 known)]=some (EC.A ⟨2,[],9497,settle,[],0,7,[85,83,68],known,false⟩):=by
 subst hpl;kernel_rfl
theorem byte_of (i:Nat) (_hi:i < 100):IntKind.u8.wrap (97+((i:Nat):Int))=(((UInt8.ofNat (97+i)).toNat:Nat):Int):=by
 rw [UInt8.toNat_ofNat']
 show (97+(i:Int)) % 256=_
 omega
theorem letter_in (i:Nat) (hi:i < 100):bytesIn #[.int .u8 (IntKind.u8.wrap (IntKind.i64.wrap (97+((i:Nat):Int))))] 0 1 (S [UInt8.ofNat (97+i)]):=by
 refine ⟨rfl,fun j hj=>?_⟩
 have:j=0:=by omega
 subst this
 rw [i64_in (by omega),byte_of i hi];rfl
theorem positionOrder_f {v:Value} {zs:List Int} (w:World) (hv:Tp (envC Tryz.prog tt Tryz.f6.ntmps w [] []).toEnv v zs):Calls Tryz.prog 6 #[v] w fun e w'=>e=.returned (.bool true)∧Below w.heap.size w w':=by
 refine sx_atX [10,13] tt_ok mixed at6 [v] _ w rfl ?_
 have hv0:=hv
 obtain ⟨a,cap,rfl,-⟩:=hv0
 refine ⟨_,fill_tape a zs.length cap rfl,rfl,?_⟩
 generalize hvv:Value.slice a zs.length cap=v at *
 have hE:(envC Tryz.prog tt Tryz.f6.ntmps w [] [] [10,13]).toEnv.P=Tryz.prog:=rfl
 obtain ⟨r1,k1,a1,b1,⟨i1,rfl,c1⟩,O1⟩:=next_g (n:=8) (by decide) zs 0 (by omega)
 obtain ⟨n,rfl⟩:∃ n:Nat,i1=(n:Nat):=⟨i1.toNat,by omega⟩
 obtain ⟨q0,hq0,hb0⟩:=info_ent
 refine .inr (.inl ⟨_,_,_,O1 _ v 19 rfl hv,⟨rfl,trivial⟩,rfl,?_⟩)
 refine ⟨fun q f m=>∃ (i k2:Nat) (xs:List EC) (x:Value),q=n - i∧i≤n∧k2≤1+30*i∧IsL x i∧OrL i xs∧f=[(3,SV.ptr 19 0),(4,SV.c x),(5,SV.c (.int .i64 (n:Nat))),(6,SV.c (.int .i64 (i:Nat)))]∧m=[(19,Blk.row 25 2 (tb v k2)),(3001,Blk.own x 31 10 i (cat EC.A xs))],n,⟨_,_,⟨0,k1,[],.slice none 0 0,by omega,by omega,by omega,.nil,.nil,rfl,rfl⟩,⟨rfl,rfl,rfl,rfl,trivial⟩,⟨rfl,.inr ⟨rfl,rfl,rfl⟩,trivial⟩,rfl⟩,?_⟩
 rintro q f m ⟨i,k2,xs,x,rfl,hi,hk2,hx,hM,rfl,rfl⟩
 refine ⟨fun h=>?_,fun h=>?_⟩
 ·have h:i < n:=by have:=of_decide_eq_true h;omega
  have ei:IntKind.i64.wrap (((i:Nat):Int)+1)=((i:Nat):Int)+1:=i64_in (by omega)
  obtain ⟨r3,k3,a3,b3,⟨z,rfl,c3,d3⟩,O3⟩:=entry_m (day:=9497) (by decide) (IntKind.i64.wrap (((i:Nat):Int)+1)) zs k2 (by omega)
  rw [ei] at d3
  refine .inr (.inl ⟨_,_,_,O3 _ v 19 rfl hv,⟨rfl,trivial⟩,rfl,z.fits,?_⟩)
  refine ⟨fun f m=>∃ (z':EC) (k4:Nat),k4≤k3+1∧MkB 9497 z'∧0≤z'.qty∧z'.known=((i:Nat):Int)+1∧f=[(3,SV.ptr 19 0),(4,SV.c x),(5,SV.c (.int .i64 (n:Nat))),(6,SV.c (.int .i64 (i:Nat))),(7,SV.ptr 7 0)]∧m=[(19,Blk.row 25 2 (tb v k4)),(3001,Blk.own x 31 10 i (cat EC.A xs)),(7,Blk.row 31 10 z'.A)],?_,?_⟩
  ·obtain ⟨r4,k4,a4,b4,⟨i4,rfl,c4⟩,O4⟩:=next_g (n:=5) (by decide) zs k3 (by omega)
   have flow:∀ {G:Prop},G→G:=fun h=>h
   refine ⟨_,EC.g9 z,fun hz=>⟨_,EC.g5 z,fun hq=>?_,fun hq=>?_⟩,fun hz=>⟨fun _=>?_,nf rfl⟩⟩
   ·refine .inr (.inl ⟨_,_,_,O4 _ v 19 rfl hv,⟨rfl,trivial⟩,rfl,_,fill_flow _ _ rfl,EC.fits _,_,_,⟨_,k4,by omega,flow_mk (by omega) _,by show (0:Int)≤0;decide,ei,rfl,rfl⟩,⟨rfl,rfl,rfl,rfl,rfl,trivial⟩,⟨rfl,.inl rfl,rfl,trivial⟩,rfl⟩)
   ·have hz:z.void=false:=hz
    have hq:¬ z.qty < 0:=of_decide_eq_false hq
    exact ⟨_,_,⟨z,k3,by omega,c3.1.live hz,by omega,d3,rfl,rfl⟩,⟨rfl,rfl,rfl,rfl,rfl,trivial⟩,⟨rfl,.inl rfl,rfl,trivial⟩,rfl⟩
   ·refine .inr (.inl ⟨_,_,_,O4 _ v 19 rfl hv,⟨rfl,trivial⟩,rfl,_,fill_flow _ _ rfl,EC.fits _,_,_,⟨_,k4,by omega,flow_mk (by omega) _,by show (0:Int)≤0;decide,ei,rfl,rfl⟩,⟨rfl,rfl,rfl,rfl,rfl,trivial⟩,⟨rfl,.inl rfl,rfl,trivial⟩,rfl⟩)
  rintro f1 m1 ⟨z',k4,hk4,hB,hq,hkn,rfl,rfl⟩
  have hM2:=hM.snoc hB hq hkn
  have F1:=fill_ent1 ({ z' with key:=[UInt8.ofNat (97+i)] }:EC)
  have F5:cat EC.A xs++EC.A { z' with key:=[UInt8.ofNat (97+i)] }=cat EC.A (xs++[{ z' with key:=[UInt8.ofNat (97+i)] }]):=cat_snoc xs _
  refine .inl ⟨by decide,by decide,_,fill_byte _,rfl,.inl (good_conv tt_ok rfl ⟨Tryz.underlying5,Tryz.underlying9,_,letter_in i (by omega),?_⟩)⟩
  refine ⟨by decide,rfl,_,EC.s1 z' _,?_⟩
  refine .inl ⟨by decide,by decide,_,F1,rfl,by decide,3001,i,_,.inl rfl,by decide,EC.one _,rfl,_,EC.ext10 _,?_⟩
  refine ⟨by omega,by unfold maxLen;omega,⟨q0,hq0,by rw [hb0];omega⟩,trivial,fun g2 cap2=>?_⟩
  exact ⟨n - (i+1),_,_,by omega,⟨i+1,k4,_,_,rfl,by omega,by omega,.some,hM2,rfl,rfl⟩,⟨rfl,rfl,rfl,c_int (i64_succ (by omega)),trivial⟩,⟨rfl,.inl (own_eq F5),trivial⟩,rfl⟩
 have h:i=n:=by have:=of_decide_eq_false h;omega
 subst h
 have hxl:=hM.l
 have xa1:(cat EC.A xs).all (·.oneCell')=true:=Go.SX.cat_all EC.one xs
 have xa2:(cat EC.A xs).size=i*10:=by rw [Go.SX.cat_size EC.size,hxl]
 refine ⟨fun f m=>∃ (my:Value) (N:Nat),N=i∧IsL my N∧f=[(3,SV.ptr 19 0),(4,SV.c x),(5,SV.c (.int .i64 (i:Nat))),(8,SV.c my)]∧m=[(19,Blk.row 25 2 (tb v k2)),(3001,Blk.own x 31 10 i (cat EC.A xs)),(54,Blk.own my 31 10 N (cat EC.A xs))],?_,?_⟩
 ·refine goodX_buildOwn tt_ok rfl ⟨by decide,.inr rfl,by decide,#[],by kernel_rfl,rfl,trivial,fun g1=>?_⟩
  refine ⟨by decide,54,0,#[],.inl rfl,?_⟩
  rcases Nat.eq_zero_or_pos i with hn | hn
  ·obtain ⟨xa,xc',rfl⟩:=hx.len
   subst hn
   have hXe:cat EC.A xs=#[]:=Array.eq_empty_of_size_eq_zero (by omega)
   refine .inl ⟨rfl,_,_,⟨_,0,rfl,.some,rfl,rfl⟩,⟨rfl,rfl,rfl,rfl,trivial⟩,⟨rfl,.inl rfl,.inl (own_eq hXe.symm),trivial⟩,rfl⟩
  ·refine .inr ⟨[3001],i,cat EC.A xs,src_own rfl xa1 xa2 hn,by omega,by unfold maxLen;omega,⟨q0,hq0,by rw [hb0];omega⟩,trivial,fun g2 cap2=>?_⟩
   exact ⟨_,_,⟨_,0+i,by omega,.some,rfl,rfl⟩,⟨rfl,rfl,rfl,rfl,trivial⟩,⟨rfl,.inl rfl,.inl (own_eq (by simp)),trivial⟩,rfl⟩
 rintro f1 m1 ⟨my,N,hN,hmy,rfl,rfl⟩
 subst hN
 refine ⟨fun q f m=>∃ (c k3:Nat) (ms:List EC),q=c∧c≤N∧k3≤400+10*(N - c)∧ms.Perm xs∧f=[(3,SV.ptr 19 0),(4,SV.c x),(5,SV.c (.int .i64 (N:Nat))),(8,SV.c my),(9,SV.c (.int .i64 (c:Nat)))]∧m=[(19,Blk.row 25 2 (tb v k3)),(3001,Blk.own x 31 10 N (cat EC.A xs)),(54,Blk.own my 31 10 N (cat EC.A ms))],N,⟨_,_,⟨N,k2,xs,rfl,Nat.le_refl _,by omega,.refl _,rfl,rfl⟩,⟨rfl,rfl,rfl,rfl,rfl,trivial⟩,⟨rfl,.inl rfl,.inl rfl,trivial⟩,rfl⟩,?_⟩
 rintro q f m ⟨c,k3,ms,rfl,hc,hk3,hp,rfl,rfl⟩
 have hml:ms.length=N:=by rw [hp.length_eq,hxl]
 refine ⟨fun h=>?_,fun h=>?_⟩
 ·have h:1 < q:=by have:=of_decide_eq_true h;omega
  obtain ⟨mg,mc,rfl⟩:∃ g c,my=.slice (some ⟨g,0,none⟩) N c:=by
   rcases hmy with ⟨-,h0⟩ | ⟨g,c,h⟩
   ·omega
   ·exact ⟨g,c,h⟩
  obtain ⟨r5,k5,a5,b5,⟨i5,rfl,c5⟩,O5⟩:=next_g (n:=((q:Nat):Int)) (by omega) zs k3 (by omega)
  obtain ⟨u,rfl⟩:∃ u:Nat,i5=(u:Nat):=⟨i5.toNat,by omega⟩
  have eq1:IntKind.i64.wrap (((q:Nat):Int) - 1)=((q - 1:Nat):Int):=by rw [i64_in (by omega)];omega
  obtain ⟨ya,hya⟩:∃ y,ms[q - 1]? = some y:=⟨_,List.getElem?_eq_getElem (by omega)⟩
  obtain ⟨yb,hyb⟩:∃ y,ms[u]? = some y:=⟨_,List.getElem?_eq_getElem (by omega)⟩
  have LA:=ld_e hml hya eq1
  have LB:=ld_e hml hyb (rfl:((u:Nat):Int)=((u:Nat):Int))
  have SA:=st_e hml (show u < N by omega) ya (rfl:((u:Nat):Int)=((u:Nat):Int))
  have SB:=st_e (M:=ms.set u ya) (by rw [List.length_set];exact hml) (show q - 1 < N by omega) yb eq1
  refine .inr (.inl ⟨_,_,_,O5 _ v 19 rfl hv,⟨rfl,trivial⟩,rfl,?_⟩)
  refine ⟨LA.1.1,LA.1.2,.inr ⟨54,mg,_,_,mc,_,_,_,rfl,rfl,LA.2.1,ya.A,LA.2.2,?_⟩⟩
  refine ⟨LB.1.1,LB.1.2,.inr ⟨54,mg,_,_,mc,_,_,_,rfl,rfl,LB.2.1,yb.A,LB.2.2,?_⟩⟩
  refine ⟨SA.1.1,SA.1.2,54,mg,_,_,mc,_,_,_,rfl,rfl,SA.2.1,ya.fits,_,SA.2.2,?_⟩
  refine ⟨SB.1.1,SB.1.2,54,mg,_,_,mc,_,_,_,rfl,rfl,SB.2.1,yb.fits,_,SB.2.2,?_⟩
  exact ⟨by kernel_rfl,q - 1,_,_,by omega,⟨q - 1,k5,(ms.set u ya).set (q - 1) yb,rfl,by omega,by omega,(swap_perm hyb hya).trans hp,rfl,rfl⟩,⟨rfl,rfl,rfl,rfl,c_int eq1,trivial⟩,⟨rfl,.inl rfl,.inl rfl,trivial⟩,rfl⟩
 refine ⟨fun b f m=>∃ (i:Nat) (ys:List EC),b=N - i∧i≤N∧ys.length=N∧(∀ (j:Nat) z,ms[j]? = some z→ys[j]? = some (if j < i then { z with known:=((j:Nat):Int)+1 } else z))∧f=[(3,SV.ptr 19 0),(4,SV.c x),(5,SV.c (.int .i64 (N:Nat))),(8,SV.c my),(11,SV.c (.int .i64 (i:Nat)))]∧m=[(19,Blk.row 25 2 (tb v k3)),(3001,Blk.own x 31 10 N (cat EC.A xs)),(54,Blk.own my 31 10 N (cat EC.A ys))],N,⟨_,_,⟨0,ms,by omega,by omega,hml,fun j z hj=>by rw [hj,if_neg (by omega)],rfl,rfl⟩,⟨rfl,rfl,rfl,rfl,rfl,trivial⟩,⟨rfl,.inl rfl,.inl rfl,trivial⟩,rfl⟩,?_⟩
 rintro b f m ⟨i,ys,rfl,hi,hyl,hys,rfl,rfl⟩
 refine ⟨fun h=>?_,fun h=>?_⟩
 ·have h:i < N:=by have:=of_decide_eq_true h;omega
  obtain ⟨mg,mc,rfl⟩:∃ g c,my=.slice (some ⟨g,0,none⟩) N c:=by
   rcases hmy with ⟨-,h0⟩ | ⟨g,c,h⟩
   ·omega
   ·exact ⟨g,c,h⟩
  obtain ⟨z,hz⟩:∃ z,ys[i]? = some z:=⟨_,List.getElem?_eq_getElem (by omega)⟩
  obtain ⟨z0,hz0⟩:∃ z,ms[i]? = some z:=⟨_,List.getElem?_eq_getElem (by omega)⟩
  have hzz:z=z0:=by have:=hys i z0 hz0;rw [hz,if_neg (by omega)] at this;exact Option.some.inj this
  subst hzz
  have ei:IntKind.i64.wrap (((i:Nat):Int)+1)=((i:Nat):Int)+1:=i64_in (by omega)
  have S1:(cat EC.A ys).setIfInBounds (offAt 0 ((i:Nat):Int) ti31.size+8) (.int .i64 (IntKind.i64.wrap (((i:Nat):Int)+1)))=cat EC.A (ys.set i { z with known:=IntKind.i64.wrap (((i:Nat):Int)+1) }):=by
   rw [off10];exact cat_set1 EC.size hz (by decide) (EC.s8 z _)
  have hlt:offAt 0 ((i:Nat):Int) ti31.size+8 < (cat EC.A ys).size:=by
   rw [off10,Go.SX.cat_size EC.size,hyl];omega
  refine ⟨by omega,by omega,54,mg,_,_,mc,_,_,_,rfl,rfl,hlt,rfl,_,S1,?_⟩
  refine ⟨N - (i+1),_,_,by omega,⟨i+1,ys.set i { z with known:=IntKind.i64.wrap (((i:Nat):Int)+1) },rfl,by omega,by rw [List.length_set];exact hyl,fun j z2 hj=>?_,rfl,rfl⟩,⟨rfl,rfl,rfl,rfl,c_int (i64_succ (by omega)),trivial⟩,⟨rfl,.inl rfl,.inl rfl,trivial⟩,rfl⟩
  by_cases hji:j=i
  ·subst hji
   rw [hz0] at hj
   cases hj
   rw [List.getElem?_set_self (by omega),if_pos (by omega),ei]
  ·rw [List.getElem?_set_ne (by omega),hys j z2 hj]
   by_cases hlt2:j < i
   ·rw [if_pos hlt2,if_pos (by omega)]
   ·rw [if_neg hlt2,if_neg (by omega)]
 have h:i=N:=by have:=of_decide_eq_false h;omega
 subst h
 have hys:∀ (j:Nat) z,ms[j]? = some z→ys[j]? = some { z with known:=((j:Nat):Int)+1 }:=fun j z hj=>by
  rw [hys j z hj,if_pos (by rw [← hml];exact (List.getElem?_eq_some_iff.1 hj).1)]
 obtain ⟨r6,k6,a6,b6,⟨i6,rfl,c6⟩,O6⟩:=next_g (n:=12) (by decide) zs k3 (by omega)
 refine .inr (.inl ⟨_,_,_,O6 _ v 19 rfl hv,⟨rfl,trivial⟩,rfl,?_⟩)
 have hyo:=renum_ord hM hp hyl hys
 obtain ⟨g,g1,g2⟩:=order_law (day:=IntKind.i64.wrap (9497+i6)) hM.ord hyo (by omega) (hM.keys (by omega)) hp (fun j z hj=>⟨_,hys j z hj⟩) (by rw [i64_in (by omega)];exact inB_of (by omega) (by omega))
 have hin:=fun y hy=>(hM.ord.md (by omega) y hy).2.2
 have hin2:=fun y hy=>(hyo.md (by omega) y hy).2.2
 have L1:=at_n hE (x:=x) (k:=99) (day:=IntKind.i64.wrap (9497+i6)) hxl.symm (by omega) hin
 have L2:=at_n hE (x:=my) (xs:=ys) (k:=99) (day:=IntKind.i64.wrap (9497+i6)) hyl.symm (by omega) hin2
 have hlen:=atP_len xs [] 99 (IntKind.i64.wrap (9497+i6))
 rw [g1] at L1 hlen
 rw [g2] at L2
 have hlen:g.h.length≤20000∧g.c.length≤20000∧g.p.length≤20000:=hlen
 refine .inr (.inr (.inr ⟨[(9640,3001)],[9506,9507,9508],[_,_,_,_],[_],_,L1,rfl,⟨.inl rfl,trivial⟩,rfl,trivial,?_⟩))
 rintro r U ⟨U0,⟨xh,xc,xp,q1,q2,q3,rfl,rfl⟩,rfl⟩
 refine ⟨rfl,fits3 (isL_one q1) (isL_one q2) (isL_one q3),?_⟩
 refine .inr (.inr (.inr ⟨[(9640,54),(9506,9516),(9507,9517),(9508,9518)],[9516,9517,9518],[_,_,_,_],[_],_,L2,rfl,⟨.inl rfl,trivial⟩,rfl,trivial,?_⟩))
 rintro r U ⟨U0,⟨yh,yc,yp,w1,w2,w3,rfl,rfl⟩,rfl⟩
 refine ⟨rfl,fits3 (isL_one w1) (isL_one w2) (isL_one w3),?_⟩
 have q1:IsL xh g.h.length:=q1
 have SO:=same_o hE (g:=g) q1 q2 q3 w1 w2 w3 (by omega)
 refine .inl ⟨_,known_p,fun _=>⟨fun _=>⟨fun _=>?_,nf rfl⟩,nf rfl⟩,nf rfl⟩
 exact .inr (.inr (.inl ⟨[],[_,_],[_,_,_,_,_,_],_,[_,_,_,_,_,_],SO,rfl,⟨.inl rfl,.inl rfl,.inl rfl,.inl rfl,.inl rfl,.inl rfl,trivial⟩,rfl,rfl,rfl,trivial⟩))
end Go.Proofs.YtekfkdddadcalaaGreatDoor
