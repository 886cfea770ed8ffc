/- the law ExchangeLater; no condition. -/
import Derived.Test.YtjkgmglmgndaoaaGreatDoorExchangeLaterQ1
import Derived.Test.YtjkgmglmgndaoaaGreatDoorP33
set_option maxRecDepth 100000
set_option maxHeartbeats 4000000
namespace Go.Proofs.YtjkgmglmgndaoaaGreatDoor
open Go Go.RowKit Go.SX
theorem own_eq2 {v:Value} {e:TypeId} {sz n m:Nat} {A B:Array Value} (h:n=m) (h2:A=B):some (Blk.own v e sz n A)=some (Blk.own v e sz m B):=by rw [h,h2]
theorem rate_in {xs:List QC} {k:Int} {p:PL} {day:Int} {u a b:List UInt8}:(rateQ xs k p day u a b).1.In:=by
 unfold rateQ
 split
 ·exact zeroQ_in
 ·rename_i hm
  obtain ⟨-,-,-,-,hall⟩:=mktC_ok (Decidable.not_not.1 hm)
  split
  ·exact one_in
  ·cases e:legO xs k p day a b with
   | some r=>exact (legO_leg (cur_ne (hall a (by simp))) (cur_ne (hall b (by simp))) e).in_
   | none =>
    simp only []
    split
    ·exact zeroQ_in
    ·cases legO xs k p day a u<;>cases legO xs k p day u b<;>first | exact zeroQ_in | exact mulQ_in _ _
theorem exchangeLater_f {v:Value} {zs:List Int} (w:World) (hv:Tp (envC Tryz.prog tt Tryz.f7.ntmps w [] [] [8]).toEnv v zs):Calls Tryz.prog 7 #[v] w fun e w'=>e=.returned (.bool true)∧Below w.heap.size w w':=by
 refine sx_atXP [(8,[1,3,4,6,11,0,2,5,7,8,9,10,12,13],[5,0,6,1,2,7,3,8,9,10,11,4,12,13])] [8] tt_ok mixed at7 [v] _ w rfl ?_
 have hv0:=hv
 obtain ⟨a,cap,rfl,-⟩:=hv0
 refine ⟨_,fill_tape a zs.length cap rfl,rfl,?_⟩
 generalize hvv:Value.slice a zs.length cap=v at *
 obtain ⟨r2,k2,a2,b2,⟨i2,rfl,c2⟩,O2⟩:=next_g (n:=8) (by decide) zs 0 (by omega)
 obtain ⟨n,rfl⟩:∃ n:Nat,i2=n:=⟨i2.toNat,by omega⟩
 refine .inr (.inl ⟨_,_,_,O2 _ v 13 rfl hv,⟨rfl,trivial⟩,rfl,?_⟩)
 refine .inr (.inr (.inr ⟨[(1000,13)],[3000],[_,_],[_],_,pairs_z rfl hv (n:=n) (by omega) (by omega),rfl,⟨rfl,trivial⟩,rfl,trivial,?_⟩))
 rintro x U ⟨xs,k3,last,h1,h2,hx,hxs,hpb,hl0,hlast,hx0,rfl⟩
 refine ⟨rfl,?_⟩
 have hin:∀ y∈xs,y.In:=fun y hy=>(hpb.each y hy).inn
 refine .inr (.inr (.inr ⟨[(1000,13)],[9101],[_],[_],_,policy_z rfl hv (k:=k3) (by omega),rfl,⟨rfl,trivial⟩,rfl,trivial,?_⟩))
 rintro rp U ⟨p,y,m,k4,p1,p2,hpin,-,hps,hy,hm,hm1,hm4,rfl,rfl⟩
 have hk4:k4≤1000:=by omega
 have PF:Fits (p.A y) 68:=by obtain ⟨ya,yc,rfl⟩:=hy.len;exact p.fits (v:=.slice ya m yc) rfl
 have X1:=fun (E0:Env) (h0:E0.P=Tryz.prog) (x:Value) (xs:List QC) (nx:Nat) (e1:nx=xs.length) (e2:nx≤100) (hin:∀ y∈xs,y.In)=>Rate_o (E:=E0) h0 (x:=x) (y:=y) (xs:=xs) (p:=p) (nx:=nx) (ny:=m) e1 hm (by omega) (by omega) hin hpin 40 9497 cUSD cEUR cGBP
 generalize hPA:p.A y=PA at *
 refine ⟨rfl,PF,?_⟩
 refine .inr (.inr (.inl ⟨[(9200,3000)],[_,_,_,_,_,_,_],[_,_],_,[_,_],X1 _ rfl x xs n hxs.symm (by omega) hin,rfl,⟨.inl rfl,.inl rfl,trivial⟩,rfl,rfl,RQ.A_fits _,?_⟩))
 obtain ⟨r5,k5,a5,b5,⟨kn,rfl,c5⟩,O5⟩:=pick_g (xs:=[40,41]) (by decide) (by decide) zs k4 (by omega)
 have hkn:kn=40∨kn=41:=by simpa using c5
 obtain ⟨r6,k6,a6,b6,⟨q,rfl,c6⟩,O6⟩:=quote_g (day:=9497) (known:=kn) (by decide) zs k5 (by omega)
 obtain ⟨r7,k7,a7,b7,⟨ins,rfl,c7⟩,O7⟩:=one_g (xs:=deadIns) (by decide) (by decide) zs k6 (by omega)
 have QF:=q.fits
 have G70:=q.g70
 have Y1:=q.pset1 ins
 have Y2:=QC.pset2 { q with ins:=ins } cUSD
 have hqk:q.known=kn:=c6.2.2.2.2.1
 generalize hQA:q.A=QA at *
 generalize hQB:QC.A { q with ins:=ins }=QB at *
 refine .inl ⟨by decide,by decide,ints [40,41],by kernel_rfl,rfl,.inr (.inl ⟨_,_,_,O5 _ v 13 28 (by decide) rfl hv,⟨rfl,rfl,trivial⟩,rfl,?_⟩)⟩
 refine .inr (.inl ⟨_,_,_,O6 _ v 13 rfl hv,⟨rfl,trivial⟩,rfl,QF,?_⟩)
 refine ⟨fun f mm=>∃ (q':QC),isLateP q'∧f=[(4,SV.c x),(5,SV.ptr 5 0),(6,SV.ptr 6 0),(7,SV.c (.int .i64 (rateQ xs 40 p 9497 cUSD cEUR cGBP).2)),(8,SV.ptr 8 0)]∧mm=[(5,Blk.row 31 68 PA),(6,Blk.row 29 66 (rateQ xs 40 p 9497 cUSD cEUR cGBP).1.A),(8,Blk.row 51 72 q'.A),(3000,Blk.own x 51 72 n (cat QC.A xs)),(9101,Blk.own y 9 1 m (cat strA p.srcs))],?_,?_⟩
 ·refine ⟨_,G70,fun c=>?_,fun c=>?_⟩
  ·have c:(q.known == 40)=true:=c
   have c:kn=40:=by rw [← hqk];simpa using c
   subst c
   refine .inl ⟨by decide,by decide,strs deadIns,by kernel_rfl,rfl,.inr (.inl ⟨_,_,_,O7 _ v 13 35 (by decide) rfl hv,⟨rfl,rfl,trivial⟩,rfl,by decide,rfl,_,Y1,by decide,rfl,_,Y2,?_⟩)⟩
   exact ⟨_,_,⟨_,late_dead2 c6 c7,rfl,rfl⟩,⟨rfl,rfl,rfl,rfl,rfl,trivial⟩,⟨rfl,rfl,rfl,.inl rfl,.inl rfl,trivial⟩,rfl⟩
  ·have c:(q.known == 40)=false:=c
   have c:kn=41:=by
    have:¬ q.known=40:=by simpa using c
    omega
   subst c
   exact ⟨_,_,⟨q,late_made c6 (by decide) (by decide),rfl,rfl⟩,⟨rfl,rfl,rfl,rfl,rfl,trivial⟩,⟨rfl,rfl,(by rw [hQA];rfl),.inl rfl,.inl rfl,trivial⟩,rfl⟩
 ·rintro f1 m1 ⟨q,hq,rfl,rfl⟩
  clear O2 O5 O6 O7 QF Y1 Y2 G70
  have LR:=late_rate hpb (by omega) (by omega) hq hps
  have F1:=fill_quo1 q
  have F2:=q.fits.one
  have F3:=q.ext72
  have F4:q.A.size=1*72:=q.size
  have F5:cat QC.A xs++q.A=cat QC.A (xs++[q]):=cat_snoc xs q
  have X2:=fun (E0:Env) (h0:E0.P=Tryz.prog) (x:Value)=>X1 E0 h0 x (xs++[q]) (n+1) (by simp [hxs]) (by omega) (fun z hz=>by
   rcases List.mem_append.1 hz with h9 | h9
   ·exact hin z h9
   ·rw [List.mem_singleton.1 h9];exact hq.inn)
  rw [← F5] at X2
  rw [LR] at X2
  have RIN:(rateQ xs 40 p 9497 cUSD cEUR cGBP).1.In:=rate_in
  generalize rateQ xs 40 p 9497 cUSD cEUR cGBP=R at *
  have RQF:=R.1.A_fits
  have N1:=fun (u v:Operand)=>eqs_rq (E:=(envC Tryz.prog tt Tryz.f7.ntmps w [] [] [8]).toEnv) rfl RIN (u:=u) (v:=v)
  generalize hYA:q.A=YA at *
  generalize hXA:cat QC.A xs=XA at *
  have hxa:XA.all (·.oneCell')=true:=by rw [← hXA];exact Go.SX.cat_all QC.all1 xs
  have hxn:XA.size=n*72:=by rw [← hXA,Go.SX.cat_size QC.size,hxs]
  refine ⟨by kernel_rfl,.inl ⟨by decide,by decide,_,F1,F4,?_⟩⟩
  refine build_none tt_ok rfl rfl (i:=ti22) rfl rfl (j:=ti51) rfl 6000 rfl (by change _=true;kernel_rfl) fun g=>?_
  obtain ⟨q0,hq0,hb0⟩:=info_quo
  refine ⟨by decide,6000,0,#[],.inl rfl,?_⟩
  rcases Nat.eq_zero_or_pos n with hn | hn
  ·refine .inl ⟨by rw [hx0 hn];rfl,?_⟩
   have hXe:XA=#[]:=Array.eq_empty_of_size_eq_zero (by omega)
   refine ⟨by decide,6000,0,#[],.inl rfl,by decide,F2,F4,_,F3,by omega,by unfold maxLen;omega,⟨q0,hq0,by rw [hb0];omega⟩,by change _=true;kernel_rfl,fun g3 cap3=>?_⟩
   have X3:=X2 (envC Tryz.prog tt Tryz.f7.ntmps w [] [] [8]).toEnv rfl (.slice (some ⟨g3,0,none⟩) (0+1) cap3)
   refine .inr (.inr (.inl ⟨[(9200,6000)],_,_,_,_,X3,rfl,?_⟩))
   refine ⟨⟨.inl (own_eq2 (by omega) (by simp [hXe])),.inl rfl,trivial⟩,by kernel_rfl,by kernel_rfl,RQF,by kernel_rfl,?_⟩
   refine .inl ⟨_,known_x,fun _=>⟨_,N1 _ _,fun _=>⟨?_,trivial⟩,fun h=>absurd h (by decide)⟩,fun h=>absurd h (by decide)⟩
   show mkRes [.bool (R.2 == R.2)]=_
   rw [beq_self'];rfl
  ·refine .inr ⟨[3000],n,XA,src_own rfl hxa hxn hn,by omega,by unfold maxLen;omega,⟨q0,hq0,by rw [hb0];omega⟩,by change _=true;kernel_rfl,fun g2 cap2=>?_⟩
   refine ⟨by decide,6000,(0+n),(#[]++XA),.inl rfl,by decide,F2,F4,_,F3,by omega,by unfold maxLen;omega,⟨q0,hq0,by rw [hb0];omega⟩,by change _=true;kernel_rfl,fun g3 cap3=>?_⟩
   have X3:=X2 (envC Tryz.prog tt Tryz.f7.ntmps w [] [] [8]).toEnv rfl (.slice (some ⟨g3,0,none⟩) ((0+n)+1) cap3)
   refine .inr (.inr (.inl ⟨[(9200,6000)],_,_,_,_,X3,rfl,?_⟩))
   refine ⟨⟨.inl (own_eq2 (by omega) (by simp)),.inl rfl,trivial⟩,by kernel_rfl,by kernel_rfl,RQF,by kernel_rfl,?_⟩
   refine .inl ⟨_,known_x,fun _=>⟨_,N1 _ _,fun _=>⟨?_,trivial⟩,fun h=>absurd h (by decide)⟩,fun h=>absurd h (by decide)⟩
   show mkRes [.bool (R.2 == R.2)]=_
   rw [beq_self'];rfl
end Go.Proofs.YtjkgmglmgndaoaaGreatDoor
