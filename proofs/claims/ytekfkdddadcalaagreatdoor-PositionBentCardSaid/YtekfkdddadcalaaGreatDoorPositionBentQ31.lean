/- made stocks, codes, actions. made entries. made portfolios. the law PositionBent; no condition. -/
import Derived.Test.YtekfkdddadcalaaGreatDoorPositionBentQ29
import Derived.Test.YtekfkdddadcalaaGreatDoorPositionBentQ30
set_option maxRecDepth 100000
set_option maxHeartbeats 4000000
namespace Go.Proofs.YtekfkdddadcalaaGreatDoor
open Go Go.RowKit Go.SX
theorem MkX.first {D:Int} {x:EC} (h:MkX D x) (hv:x.void=false) (hD:0≤D) (key:Bs):MkX D { x with key:=key,day:=max 0 (D - 1) }∧(x.kind=1→MkX D { x with key:=key,day:=max 0 (D - 1),qty:=2000 }):=by
 have hb:=h.live hv
 have h1:=hb.d
 have h2:=hb.s
 refine ⟨.inr ⟨hv,⟨by show (0:Int)≤max 0 (D - 1);omega,by show D≤max 0 (D - 1)+1;omega,by show max 0 (D - 1)≤D+7;omega⟩,⟨by show max 0 (D - 1)≤x.settle;omega,h2.2⟩,hb.a,hb.c,hb.k⟩,fun hk=>.inr ⟨hv,⟨by show (0:Int)≤max 0 (D - 1);omega,by show D≤max 0 (D - 1)+1;omega,by show max 0 (D - 1)≤D+7;omega⟩,⟨by show max 0 (D - 1)≤x.settle;omega,h2.2⟩,hb.a,hb.c,?_⟩⟩
 rcases hb.k with ⟨k1,k2,-⟩ | ⟨k1,-⟩
 ·exact .inl ⟨k1,k2,by show (2000:Int)≠0;decide,by show (-2000:Int)≤2000;decide,by show (2000:Int)≤2000;decide⟩
 ·omega
theorem not0_g:Gen 62 [] 1 (RI fun i=>i≠0∧-1000000≤i∧i≤1000000):=by
 intro zs k hk
 obtain ⟨r1,k1,a1,b1,⟨i,rfl,c1⟩,O1⟩:=range_g (lo:=-300000) (hi:=1000000) (by decide) (by decide) (by decide) zs k (by omega)
 by_cases h:i=0
 ·subst h
  refine ⟨_,k1,by omega,by omega,⟨1,rfl,by decide⟩,fun E v d hE hv=>?_⟩
  refine sx_ownT1 [] tt_ok mixed at62 E hE d (25,2,tb v k,tb v k1) [SV.ptr 1000 0] _ rfl rfl fun w b hT=>?_
  have hv:=hv.of_old hE.symm hT
  exact .inr ⟨_,_,_,O1 _ v 1000 rfl hv,⟨rfl,trivial⟩,rfl,fun _=>⟨rfl,rfl,trivial⟩,nf rfl⟩
 ·refine ⟨_,k1,by omega,by omega,⟨i,rfl,h,by omega,by omega⟩,fun E v d hE hv=>?_⟩
  refine sx_ownT1 [] tt_ok mixed at62 E hE d (25,2,tb v k,tb v k1) [SV.ptr 1000 0] _ rfl rfl fun w b hT=>?_
  have hv:=hv.of_old hE.symm hT
  exact .inr ⟨_,_,_,O1 _ v 1000 rfl hv,⟨rfl,trivial⟩,rfl,fun e=>absurd (eq_of_beq e) h,fun _=>⟨rfl,rfl,trivial⟩⟩
def PfG (D:Int) (k:Nat) (v:Value) (x:Value) (U:MemL):Prop:=∃ (g:Led) (k':Nat) (xh xc xp:Value),k≤k'∧k'≤k+100∧PfM 4 3 3 (min 73048 (D+1)) g∧IsL xh g.h.length∧IsL xc g.c.length∧IsL xp g.p.length∧x=.agg #[xh,xc,xp]∧U=(1000,Blk.row 25 2 (tb v k')) :: pfM xh xc xp g
theorem fill_bal0 (c:Bs) (n:Int) {pl:List (Nat×Nat)} (hpl:pl=[(0,1),(1,1),(2,1)]):Instr.fill (fun k=>pl[k]?) ti49.zero [(0,.string (S c)),(2,.int .i64 n)]=some (sumK ((c,0),n)):=by
 subst hpl;rfl
theorem portfolio_m {E:Env} (hE:E.P=Tryz.prog) {v:Value} {zs:List Int} (hv:Tp E v zs) {k:Nat} (hk:k+4000≤4000000000000000000) {day:Int} (hD:0≤day∧day≤73048):OwnC E 28 [SV.ptr 1000 0,SV.c (.int .i64 day)] [(1000,Blk.row 25 2 (tb v k))] (PfG day k v):=by
 refine sx_ownC [14] tt_ok mixed at28 E hE [SV.ptr 1000 0,SV.c (.int .i64 day)] [(1000,Blk.row 25 2 (tb v k))] _ rfl rfl fun w X β hT=>?_
 have hv':Tp (envC Tryz.prog tt Tryz.f28.ntmps w X (tiedK [(1000,Blk.row 25 2 (tb v k))] β)).toEnv v zs:=hv.of_old hE.symm hT
 refine .inl ⟨by decide,by decide,strs stocks4,by kernel_rfl,rfl,?_⟩
 refine ⟨fun q f m=>∃ (i k2:Nat) (H:List (Bs×Int)) (x:Value) (n:Nat),q=4 - i∧i≤4∧k≤k2∧k2≤k+3*i∧n=H.length∧IsL x n∧PfM i 0 0 (min 73048 (day+1)) ⟨H,[],[]⟩∧f=[(0,SV.ptr 1000 0),(1,SV.c (.int .i64 day)),(4,SV.ptr 4 0),(5,SV.ptr 5 0),(6,SV.sl 10 0 4 4),(7,SV.c (.int .i64 (i:Nat)))]∧m=[(1000,Blk.row 25 2 (tb v k2)),(4,Blk.row 40 3 ti40.zero),(5,Blk.row 40 3 #[x,.slice none 0 0,.slice none 0 0]),(9506,Blk.own x 66 2 n (cat sumA H)),(10,Blk.row 9 4 (strs stocks4))],4,⟨_,_,⟨0,k,[],.slice none 0 0,0,by omega,by omega,by omega,by omega,rfl,.nil,.zero,rfl,rfl⟩,⟨rfl,rfl,rfl,rfl,rfl,rfl,trivial⟩,⟨rfl,rfl,rfl,.inr ⟨rfl,rfl,rfl⟩,rfl,trivial⟩,rfl⟩,?_⟩
 rintro q f m ⟨i,k2,H,x,n,rfl,hi,hk1,hk2,hn,hx,hM,rfl,rfl⟩
 refine ⟨fun h=>?_,fun h=>?_⟩
 ·have h:i < 4:=by have:=of_decide_eq_true h;omega
  obtain ⟨r3,k3,a3,b3,⟨t,rfl⟩,O3⟩:=chance_g (a:=2) (b:=3) (by decide) zs k2 (by omega)
  refine .inr (.inl ⟨_,_,_,O3 _ v 1000 rfl hv',⟨rfl,trivial⟩,rfl,fun ht=>?_,fun ht=>?_⟩)
  ·obtain ⟨r4,k4,a4,b4,⟨i4,rfl,c4⟩,O4⟩:=pick_g (xs:=[10,5000,1000000]) (by decide) (by decide) zs k3 (by omega)
   have q4:10≤i4∧i4≤1000000:=by simp at c4;omega
   obtain ⟨r5,k5,a5,b5,⟨i5,rfl,c5⟩,O5⟩:=next_g (n:=i4) (by omega) zs k4 (by omega)
   have hl:H.length≤i:=hM.hl
   have hs:stocks4[i]? = some stocks4[i]:=List.getElem?_eq_getElem h
   refine ⟨_,rfl,by omega,by omega,_,strs_get h,?_⟩
   refine .inl ⟨by decide,by decide,ints [10,5000,1000000],by kernel_rfl,rfl,.inr (.inl ⟨_,_,_,O4 _ v 1000 25 (by decide) rfl hv',⟨rfl,rfl,trivial⟩,rfl,?_⟩)⟩
   refine .inr (.inl ⟨_,_,_,O5 _ v 1000 rfl hv',⟨rfl,trivial⟩,rfl,?_⟩)
   obtain ⟨q,hq,hb'⟩:=info_hol
   refine ⟨_,fill_hol (stocks4[i],IntKind.i64.wrap (1+i5)) rfl,.inl ⟨by decide,by decide,_,fill_hol1 (stocks4[i],IntKind.i64.wrap (1+i5)),rfl,by decide,9506,n,_,.inl rfl,by decide,sumA_one _,rfl,_,rfl,?_⟩⟩
   refine ⟨by omega,by unfold maxLen;omega,⟨q,hq,by rw [hb'];omega⟩,by change _=true;kernel_rfl,fun g2 cap2=>?_⟩
   have q5:IntKind.i64.wrap (1+i5)=1+i5:=i64_in (by omega)
   refine ⟨by decide,rfl,_,rfl,by kernel_rfl,4 - (i+1),_,_,by omega,⟨i+1,k5,H++[(stocks4[i],IntKind.i64.wrap (1+i5))],_,n+1,rfl,by omega,by omega,by omega,by rw [hn,List.length_append];rfl,.some,?_,rfl,rfl⟩,⟨rfl,rfl,rfl,rfl,rfl,c_int (i64_succ (by omega)),trivial⟩,⟨rfl,rfl,rfl,.inl (own_eq (cat_snoc H _)),rfl,trivial⟩,rfl⟩
   exact hM.addH hs (by rw [q5];omega)
  ·exact ⟨4 - (i+1),_,_,by omega,⟨i+1,k3,H,x,n,rfl,by omega,by omega,by omega,hn,hx,hM.mono (by omega) (by omega) (by omega),rfl,rfl⟩,⟨rfl,rfl,rfl,rfl,rfl,c_int (i64_succ (by omega)),trivial⟩,⟨rfl,rfl,rfl,.inl rfl,rfl,trivial⟩,rfl⟩
 have h:i=4:=by have:=of_decide_eq_false h;omega
 subst h
 refine .inl ⟨by decide,by decide,strs codesP,by kernel_rfl,rfl,?_⟩
 refine ⟨fun q f m=>∃ (j k3:Nat) (g:Led) (xc xp:Value) (nc np:Nat),q=3 - j∧j≤3∧k≤k3∧k3≤k+20+4*j∧g.h=H∧nc=g.c.length∧np=g.p.length∧IsL xc nc∧IsL xp np∧PfM 4 j j (min 73048 (day+1)) g∧f=[(0,SV.ptr 1000 0),(1,SV.c (.int .i64 day)),(4,SV.ptr 4 0),(5,SV.ptr 5 0),(8,SV.sl 33 0 3 3),(9,SV.c (.int .i64 (j:Nat)))]∧m=[(1000,Blk.row 25 2 (tb v k3)),(4,Blk.row 40 3 ti40.zero),(5,Blk.row 40 3 #[x,xc,xp]),(9506,Blk.own x 66 2 n (cat sumA H)),(9507,Blk.own xc 49 3 nc (cat sumK g.c)),(9508,Blk.own xp 49 3 np (cat sumK g.p)),(33,Blk.row 9 3 (strs codesP))],3,⟨_,_,⟨0,k2,⟨H,[],[]⟩,.slice none 0 0,.slice none 0 0,0,0,by omega,by omega,by omega,by omega,rfl,rfl,rfl,.nil,.nil,hM,rfl,rfl⟩,⟨rfl,rfl,rfl,rfl,rfl,rfl,trivial⟩,⟨rfl,rfl,rfl,.inl rfl,.inr ⟨rfl,rfl,rfl⟩,.inr ⟨rfl,rfl,rfl⟩,rfl,trivial⟩,rfl⟩,?_⟩
 rintro q f m ⟨j,k3,g,xc,xp,nc,np,rfl,hj,hk3,hk4,hgh,hnc,hnp,hxc,hxp,hM2,rfl,rfl⟩
 refine ⟨fun h=>?_,fun h=>?_⟩
 ·have h:j < 3:=by have:=of_decide_eq_true h;omega
  have hs:codesP[j]? = some codesP[j]:=List.getElem?_eq_getElem h
  have hlc:g.c.length≤j:=hM2.cl
  have hlp:g.p.length≤j:=hM2.pl
  refine ⟨fun f m=>∃ (k5:Nat) (C:List (Ky×Int)) (ya:Value) (na:Nat),k3≤k5∧k5≤k3+2∧na=C.length∧IsL ya na∧PfM 4 (j+1) j (min 73048 (day+1)) ⟨H,C,g.p⟩∧f=[(0,SV.ptr 1000 0),(1,SV.c (.int .i64 day)),(4,SV.ptr 4 0),(5,SV.ptr 5 0),(8,SV.sl 33 0 3 3),(9,SV.c (.int .i64 (j:Nat)))]∧m=[(1000,Blk.row 25 2 (tb v k5)),(4,Blk.row 40 3 ti40.zero),(5,Blk.row 40 3 #[x,ya,xp]),(9506,Blk.own x 66 2 n (cat sumA H)),(9507,Blk.own ya 49 3 na (cat sumK C)),(9508,Blk.own xp 49 3 np (cat sumK g.p)),(33,Blk.row 9 3 (strs codesP))],?_,?_⟩
  ·obtain ⟨r5,k5,a5,b5,⟨t,rfl⟩,O5⟩:=chance_g (a:=1) (b:=2) (by decide) zs k3 (by omega)
   refine .inr (.inl ⟨_,_,_,O5 _ v 1000 rfl hv',⟨rfl,trivial⟩,rfl,fun ht=>?_,fun ht=>?_⟩)
   ·obtain ⟨r6,k6,a6,b6,⟨i6,rfl,c6⟩,O6⟩:=not0_g zs k5 (by omega)
    obtain ⟨q,hq,hb'⟩:=info_bal
    refine ⟨_,rfl,by omega,by omega,_,strs_get h,.inr (.inl ⟨_,_,_,O6 _ v 1000 rfl hv',⟨rfl,trivial⟩,rfl,?_⟩)⟩
    refine ⟨_,fill_bal0 codesP[j] i6 rfl,.inl ⟨by decide,by decide,_,fill_bal1 ((codesP[j],0),i6),rfl,by decide,9507,nc,_,.inl rfl,by decide,sumK_one _,rfl,_,rfl,?_⟩⟩
    refine ⟨by omega,by unfold maxLen;omega,⟨q,hq,by rw [hb'];omega⟩,by change _=true;kernel_rfl,fun g2 cap2=>?_⟩
    refine ⟨by decide,rfl,_,rfl,by kernel_rfl,_,_,⟨k6,g.c++[((codesP[j],0),i6)],_,nc+1,by omega,by omega,by rw [hnc,List.length_append];rfl,.some,?_,rfl,rfl⟩,⟨rfl,rfl,rfl,rfl,rfl,rfl,trivial⟩,⟨rfl,rfl,rfl,.inl rfl,.inl (own_eq (cat_snoc g.c _)),.inl rfl,rfl,trivial⟩,rfl⟩
    have:=hM2.addC hs c6.1 c6.2
    rw [hgh] at this
    exact this
   ·refine ⟨_,_,⟨k5,g.c,xc,nc,by omega,by omega,hnc,hxc,?_,rfl,rfl⟩,⟨rfl,rfl,rfl,rfl,rfl,rfl,trivial⟩,⟨rfl,rfl,rfl,.inl rfl,.inl rfl,.inl rfl,rfl,trivial⟩,rfl⟩
    have:=hM2.mono (Nat.le_refl 4) (Nat.le_succ j) (Nat.le_refl j)
    rw [← hgh]
    exact this
  rintro f1 m1 ⟨k5,C,ya,na,a5,b5,hna,hya,hM3,rfl,rfl⟩
  obtain ⟨r6,k6,a6,b6,⟨t,rfl⟩,O6⟩:=chance_g (a:=1) (b:=4) (by decide) zs k5 (by omega)
  refine .inr (.inl ⟨_,_,_,O6 _ v 1000 rfl hv',⟨rfl,trivial⟩,rfl,fun ht=>?_,fun ht=>?_⟩)
  ·obtain ⟨r7,k7,a7,b7,⟨i7,rfl,c7⟩,O7⟩:=not0_g zs k6 (by omega)
   obtain ⟨q,hq,hb'⟩:=info_bal
   have ed:IntKind.i64.wrap (day+1)=day+1:=i64_in (by omega)
   refine ⟨_,rfl,by omega,by omega,_,strs_get h,_,fun w' _=>run_min_ct _ _ w',.inr (.inl ⟨_,_,_,O7 _ v 1000 rfl hv',⟨rfl,trivial⟩,rfl,?_⟩)⟩
   rw [ed]
   refine ⟨_,fill_bal ((codesP[j],min 73048 (day+1)),i7) rfl,.inl ⟨by decide,by decide,_,fill_bal1 ((codesP[j],min 73048 (day+1)),i7),rfl,by decide,9508,np,_,.inl rfl,by decide,sumK_one _,rfl,_,rfl,?_⟩⟩
   refine ⟨by omega,by unfold maxLen;omega,⟨q,hq,by rw [hb'];omega⟩,by change _=true;kernel_rfl,fun g2 cap2=>?_⟩
   refine ⟨by decide,rfl,_,rfl,by kernel_rfl,3 - (j+1),_,_,by omega,⟨j+1,k7,⟨H,C,g.p++[((codesP[j],min 73048 (day+1)),i7)]⟩,ya,_,na,np+1,rfl,by omega,by omega,by omega,rfl,hna,by show np+1=(g.p++[_]).length;rw [hnp,List.length_append];rfl,hya,.some,?_,rfl,rfl⟩,⟨rfl,rfl,rfl,rfl,rfl,c_int (i64_succ (by omega)),trivial⟩,⟨rfl,rfl,rfl,.inl rfl,.inl rfl,.inl (own_eq (cat_snoc g.p _)),rfl,trivial⟩,rfl⟩
   exact hM3.addP hs c7.1 c7.2
  ·exact ⟨3 - (j+1),_,_,by omega,⟨j+1,k6,⟨H,C,g.p⟩,ya,xp,na,np,rfl,by omega,by omega,by omega,rfl,hna,hnp,hya,hxp,hM3.mono (Nat.le_refl 4) (Nat.le_refl _) (Nat.le_succ j),rfl,rfl⟩,⟨rfl,rfl,rfl,rfl,rfl,c_int (i64_succ (by omega)),trivial⟩,⟨rfl,rfl,rfl,.inl rfl,.inl rfl,.inl rfl,rfl,trivial⟩,rfl⟩
 ·have h:j=3:=by have:=of_decide_eq_false h;omega
  subst h
  subst hgh
  subst hn
  subst hnc
  subst hnp
  exact ⟨fits3 (isL_one hx) (isL_one hxc) (isL_one hxp),(1000,Blk.row 25 2 (tb v k3)) :: pfM x xc xp g,[],⟨g,k3,x,xc,xp,by omega,by omega,hM2,hx,hxc,hxp,rfl,rfl⟩,⟨rfl,.inl rfl,.inl rfl,.inl rfl,trivial⟩,rfl⟩
theorem own_eqn {v:Value} {e:TypeId} {sz n m:Nat} {A B:Array Value} (h:n=m) (h2:A=B):some (Blk.own v e sz n A)=some (Blk.own v e sz m B):=by rw [h,h2]
theorem positionBent_f {v:Value} {zs:List Int} {n:Int} (_hn : -9223372036854775808≤n∧n≤9223372036854775807) (w:World) (hv:Tp (envC Tryz.prog tt Tryz.f10.ntmps w [] []).toEnv v zs):Calls Tryz.prog 10 #[v,.int .i64 n] w fun e w'=>e=.returned (.bool true)∧Below w.heap.size w w':=by
 refine sx_atX [14] tt_ok mixed at10 [v,.int .i64 n] _ w rfl ?_
 have hv0:=hv
 obtain ⟨a,cap,rfl,-⟩:=hv0
 refine ⟨_,fill_tape a zs.length cap rfl,rfl,?_⟩
 generalize hvv:Value.slice a zs.length cap=v at *
 have hE:(envC Tryz.prog tt Tryz.f10.ntmps w [] [] [14]).toEnv.P=Tryz.prog:=rfl
 have A1:=portfolio_m hE hv (k:=0) (by omega) (day:=9497) (by decide)
 refine .inr (.inr (.inr ⟨[(1000,10)],[9506,9507,9508],[_,_],[_],_,A1,rfl,⟨rfl,trivial⟩,rfl,trivial,?_⟩))
 rintro r U ⟨g,k1,xh,xc,xp,a1,b1,hM,hxh,hxc,hxp,rfl,rfl⟩
 refine ⟨rfl,fits3 (isL_one hxh) (isL_one hxc) (isL_one hxp),?_⟩
 have hown:=hM.own ⟨by decide,by decide,by decide⟩
 have V1:=valid_zo hE (xh:=xh) (xc:=xc) (xp:=xp) hown
 rw [hM.valid (Nat.le_refl 3) (Nat.le_refl 3) (by omega)] at V1
 have V2:=vlaw_o hE (xh:=xh) (xc:=xc) (xp:=xp) hown [71,79,76,68]
 refine .inr (.inr (.inl ⟨[],[_],[_,_,_],_,[_,_,_],V1,rfl,⟨.inl rfl,.inl rfl,.inl rfl,trivial⟩,rfl,rfl,?_⟩))
 refine ⟨fun _=>?_,nf rfl⟩
 refine .inr (.inr (.inl ⟨[],[_,_],[_,_,_],_,[_,_,_],V2,rfl,⟨.inl rfl,.inl rfl,.inl rfl,trivial⟩,rfl,rfl,?_⟩))
 refine ⟨nf rfl,fun _=>?_⟩
 obtain ⟨r2,k2,a2,b2,⟨i2,rfl,c2⟩,O2⟩:=pick_g (xs:=[n,0,-1,1000000000000000,1000000000000001]) (by simp) (by simp) zs k1 (by omega)
 refine .inl ⟨by decide,by decide,ints [n,0,-1,1000000000000000,1000000000000001],by kernel_rfl,rfl,.inr (.inl ⟨_,_,_,O2 _ v 10 23 (by decide) rfl hv,⟨rfl,rfl,trivial⟩,rfl,?_⟩)⟩
 refine ⟨fun f m=>∃ (g':Led) (yh yc yp:Value),OwnP g'∧IsL yh g'.h.length∧IsL yc g'.c.length∧IsL yp g'.p.length∧f=[(6,SV.ptr 6 0)]∧m=(6,Blk.row 40 3 #[yh,yc,yp]) :: pfM yh yc yp g',?_,?_⟩
 rotate_left
 ·rintro f1 m1 ⟨g',yh,yc,yp,ho,hyh,hyc,hyp,rfl,rfl⟩
  have V3:=vlaw_o hE (xh:=yh) (xc:=yc) (xp:=yp) ho [65,67,77,69]
  exact .inr (.inr (.inl ⟨[],[_,_],[_,_,_],_,[_,_,_],V3,rfl,⟨.inl rfl,.inl rfl,.inl rfl,trivial⟩,rfl,rfl,fun _=>.inl ⟨_,known_p,rfl,trivial⟩,nf rfl⟩))
 obtain ⟨r3,k3,a3,b3,⟨i3,rfl,c3⟩,O3⟩:=next_g (n:=4) (by decide) zs k2 (by omega)
 refine .inr (.inl ⟨_,_,_,O3 _ v 10 rfl hv,⟨rfl,trivial⟩,rfl,?_⟩)
 have lh:=hM.hl
 have lc:=hM.cl
 have lp:=hM.pl
 refine ⟨fun h=>?_,fun h=>?_⟩
 ·obtain ⟨r4,k4,a4,b4,⟨l4,rfl,c4⟩,O4⟩:=one_g (xs:=[[90,69,68],[65,67,77,69],[122,101,100]]) (by simp) (by simp) zs k3 (by omega)
  have dl:l4.length≤100:=by
   simp at c4
   rcases c4 with rfl | rfl | rfl<;>decide
  obtain ⟨q,hq,hb'⟩:=info_hol
  refine ⟨_,rfl,.inl ⟨by decide,by decide,strs [[90,69,68],[65,67,77,69],[122,101,100]],by kernel_rfl,rfl,.inr (.inl ⟨_,_,_,O4 _ v 10 41 (by decide) rfl hv,⟨rfl,rfl,trivial⟩,rfl,?_⟩)⟩⟩
  refine ⟨_,fill_hol (l4,i2) rfl,.inl ⟨by decide,by decide,_,fill_hol1 (l4,i2),rfl,by decide,9506,_,_,.inl rfl,by decide,sumA_one _,rfl,_,rfl,?_⟩⟩
  refine ⟨by omega,by unfold maxLen;omega,⟨q,hq,by rw [hb'];omega⟩,by change _=true;kernel_rfl,fun g2 cap2=>?_⟩
  exact ⟨by decide,rfl,_,rfl,by kernel_rfl,_,_,⟨⟨g.h++[(l4,i2)],g.c,g.p⟩,_,xc,xp,hown.addH (by omega) dl,by show IsL _ (g.h++[_]).length;rw [List.length_append];exact .some,hxc,hxp,rfl,rfl⟩,⟨rfl,trivial⟩,⟨rfl,.inl (own_eqn (by rw [List.length_append];rfl) (cat_snoc g.h _)),.inl rfl,.inl rfl,trivial⟩,rfl⟩
 refine ⟨fun h=>?_,fun h=>?_⟩
 ·obtain ⟨r4,k4,a4,b4,⟨l4,rfl,c4⟩,O4⟩:=one_g (xs:=[[90,65,82],[85,83,68],[122,97,114]]) (by simp) (by simp) zs k3 (by omega)
  have dl:l4.length≤100:=by
   simp at c4
   rcases c4 with rfl | rfl | rfl<;>decide
  obtain ⟨r5,k5,a5,b5,⟨i5,rfl,c5⟩,O5⟩:=pick_g (xs:=[0,0,1]) (by simp) (by simp) zs k4 (by omega)
  obtain ⟨q,hq,hb'⟩:=info_bal
  refine ⟨_,rfl,.inl ⟨by decide,by decide,strs [[90,65,82],[85,83,68],[122,97,114]],by kernel_rfl,rfl,.inr (.inl ⟨_,_,_,O4 _ v 10 53 (by decide) rfl hv,⟨rfl,rfl,trivial⟩,rfl,?_⟩)⟩⟩
  refine .inl ⟨by decide,by decide,ints [0,0,1],by kernel_rfl,rfl,.inr (.inl ⟨_,_,_,O5 _ v 10 56 (by decide) rfl hv,⟨rfl,rfl,trivial⟩,rfl,?_⟩)⟩
  refine ⟨_,fill_bal ((l4,i5),i2) rfl,.inl ⟨by decide,by decide,_,fill_bal1 ((l4,i5),i2),rfl,by decide,9507,_,_,.inl rfl,by decide,sumK_one _,rfl,_,rfl,?_⟩⟩
  refine ⟨by omega,by unfold maxLen;omega,⟨q,hq,by rw [hb'];omega⟩,by change _=true;kernel_rfl,fun g2 cap2=>?_⟩
  exact ⟨by decide,rfl,_,rfl,by kernel_rfl,_,_,⟨⟨g.h,g.c++[((l4,i5),i2)],g.p⟩,xh,_,xp,hown.addC (by omega) dl,hxh,by show IsL _ (g.c++[_]).length;rw [List.length_append];exact .some,hxp,rfl,rfl⟩,⟨rfl,trivial⟩,⟨rfl,.inl rfl,.inl (own_eqn (by rw [List.length_append];rfl) (cat_snoc g.c _)),.inl rfl,trivial⟩,rfl⟩
 refine ⟨fun h=>?_,fun h=>?_⟩
 ·obtain ⟨r4,k4,a4,b4,⟨i4,rfl,c4⟩,O4⟩:=pick_g (xs:=[i2,5]) (by simp) (by simp) zs k3 (by omega)
  obtain ⟨r5,k5,a5,b5,⟨i5,rfl,c5⟩,O5⟩:=pick_g (xs:=[i2,7]) (by simp) (by simp) zs k4 (by omega)
  obtain ⟨q,hq,hb'⟩:=info_bal
  refine ⟨_,rfl,.inl ⟨by decide,by decide,ints [i2,5],by kernel_rfl,rfl,.inr (.inl ⟨_,_,_,O4 _ v 10 69 (by decide) rfl hv,⟨rfl,rfl,trivial⟩,rfl,?_⟩)⟩⟩
  refine .inl ⟨by decide,by decide,ints [i2,7],by kernel_rfl,rfl,.inr (.inl ⟨_,_,_,O5 _ v 10 73 (by decide) rfl hv,⟨rfl,rfl,trivial⟩,rfl,?_⟩)⟩
  refine ⟨_,fill_bal (([90,65,82],i4),i5) rfl,.inl ⟨by decide,by decide,_,fill_bal1 (([90,65,82],i4),i5),rfl,by decide,9508,_,_,.inl rfl,by decide,sumK_one _,rfl,_,rfl,?_⟩⟩
  refine ⟨by omega,by unfold maxLen;omega,⟨q,hq,by rw [hb'];omega⟩,by change _=true;kernel_rfl,fun g2 cap2=>?_⟩
  exact ⟨by decide,rfl,_,rfl,by kernel_rfl,_,_,⟨⟨g.h,g.c,g.p++[(([90,65,82],i4),i5)]⟩,xh,xc,_,hown.addP (by omega) (by show (3:Nat)≤100;decide),hxh,hxc,by show IsL _ (g.p++[_]).length;rw [List.length_append];exact .some,rfl,rfl⟩,⟨rfl,trivial⟩,⟨rfl,.inl rfl,.inl rfl,.inl (own_eqn (by rw [List.length_append];rfl) (cat_snoc g.p _)),trivial⟩,rfl⟩
 ·obtain ⟨r4,k4,a4,b4,⟨i4,rfl,c4⟩,O4⟩:=next_g (n:=3) (by decide) zs k3 (by omega)
  obtain ⟨q,hq,hb'⟩:=info_bal
  refine ⟨_,rfl,.inr (.inl ⟨_,_,_,O4 _ v 10 rfl hv,⟨rfl,trivial⟩,rfl,?_⟩)⟩
  refine ⟨_,fill_bal (([85,83,68],IntKind.i64.wrap (9497+i4)),7) rfl,.inl ⟨by decide,by decide,_,fill_bal1 (([85,83,68],IntKind.i64.wrap (9497+i4)),7),rfl,by decide,9508,_,_,.inl rfl,by decide,sumK_one _,rfl,_,rfl,?_⟩⟩
  refine ⟨by omega,by unfold maxLen;omega,⟨q,hq,by rw [hb'];omega⟩,by change _=true;kernel_rfl,fun g2 cap2=>?_⟩
  exact ⟨by decide,rfl,_,rfl,by kernel_rfl,_,_,⟨⟨g.h,g.c,g.p++[(([85,83,68],IntKind.i64.wrap (9497+i4)),7)]⟩,xh,xc,_,hown.addP (by omega) (by show (3:Nat)≤100;decide),hxh,hxc,by show IsL _ (g.p++[_]).length;rw [List.length_append];exact .some,rfl,rfl⟩,⟨rfl,trivial⟩,⟨rfl,.inl rfl,.inl rfl,.inl (own_eqn (by rw [List.length_append];rfl) (cat_snoc g.p _)),trivial⟩,rfl⟩
end Go.Proofs.YtekfkdddadcalaaGreatDoor
