/- the law ExchangeSelects; no condition. -/
import Derived.Test.YtjkgmglmgndaoaaGreatDoorExchangeSelectsQ1
import Derived.Test.YtjkgmglmgndaoaaGreatDoorP33
set_option maxRecDepth 100000
set_option maxHeartbeats 4000000
namespace Go.Proofs.YtjkgmglmgndaoaaGreatDoor
open Go Go.RowKit Go.SX
theorem exchangeSelects_f {v:Value} {zs:List Int} (w:World) (hv:Tp (envC Tryz.prog tt Tryz.f8.ntmps w [] []).toEnv v zs):Calls Tryz.prog 8 #[v] w fun e w'=>e=.returned (.bool true)∧Below w.heap.size w w':=by
 refine sx_atX [] tt_ok mixed at8 [v] _ w rfl ?_
 have hv0:=hv
 obtain ⟨a,cap,rfl,-⟩:=hv0
 refine ⟨_,fill_tape a zs.length cap rfl,rfl,?_⟩
 generalize hvv:Value.slice a zs.length cap=v at *
 obtain ⟨r2,k2,a2,b2,⟨i2,rfl,c2⟩,O2⟩:=next_g (n:=8) (by decide) zs 0 (by omega)
 obtain ⟨n,rfl⟩:∃ n:Nat,i2=n:=⟨i2.toNat,by omega⟩
 refine .inr (.inl ⟨_,_,_,O2 _ v 13 rfl hv,⟨rfl,trivial⟩,rfl,?_⟩)
 refine .inr (.inr (.inr ⟨[(1000,13)],[3000],[_,_],[_],_,pairs_z rfl hv (n:=n) (by omega) (by omega),rfl,⟨rfl,trivial⟩,rfl,trivial,?_⟩))
 rintro x U ⟨xs,k3,last,h1,h2,hx,hxs,hpb,hl0,hlast,-,rfl⟩
 refine ⟨rfl,?_⟩
 have hin:∀ y∈xs,y.In:=fun y hy=>(hpb.each y hy).inn
 obtain ⟨xa,xc,rfl⟩:=hx.len
 refine .inr (.inr (.inr ⟨[(1000,13)],[9101],[_],[_],_,policy_z rfl hv (k:=k3) (by omega),rfl,⟨rfl,trivial⟩,rfl,trivial,?_⟩))
 rintro rp U ⟨p,y,m,k5,p1,p2,hpin,hpo,-,hy,hm,hm1,hm4,rfl,rfl⟩
 obtain ⟨ya,yc,rfl⟩:=hy.len
 have PF:=PL.fits p (v:=.slice ya m yc) rfl
 have hck:=hpb.chk (by omega) (by omega)
 have M:=fun (cs:List (List UInt8)) (h:cs.all curOk=true)=>mktC_zero (xs:=xs) (p:=p) (day:=9497) (cs:=cs) hck hpo (by decide) (by decide) h
 have S1:=fun (E0:Env) (h0:E0.P=Tryz.prog)=>select_own (E:=E0) h0 (x:=.slice xa n xc) (y:=.slice ya m yc) (xs:=xs) (p:=p) (nx:=n) (ny:=m) hxs.symm hm (by omega) (by omega) hin hpin 99 eurusd 9497
 have L1:=fun (E0:Env) (h0:E0.P=Tryz.prog)=>Leg_o (E:=E0) h0 (x:=.slice xa n xc) (y:=.slice ya m yc) (xs:=xs) (p:=p) (nx:=n) (ny:=m) hxs.symm hm (by omega) (by omega) hin hpin 99 9497 cEUR cUSD
 rw [legR_ok (M _ (by decide)) (by decide)] at L1
 have hL:legO xs 99 p 9497 cEUR cUSD=if (dirQ xs 99 p 9497 cEUR cUSD).2 then some (dirQ xs 99 p 9497 cEUR cUSD).1 else if (dirQ xs 99 p 9497 cUSD cEUR).2 then some (quoQ oneQ (dirQ xs 99 p 9497 cUSD cEUR).1).1 else none:=rfl
 have hD:dirQ xs 99 p 9497 cEUR cUSD=((selCh (cands xs 99 p eurusd 9497) p.tol).price,decide (selE xs 99 p eurusd 9497=0) && decide ((selCh (cands xs 99 p eurusd 9497) p.tol).cur=cUSD)):=rfl
 have hPI:(selCh (cands xs 99 p eurusd 9497) p.tol).price.In:=selCh_in fun z hz=>(cands_mem (k:=99) (p:=p) (ins:=eurusd) (day:=9497) (z:=z) hin hz).1
 generalize p.A (.slice ya m yc)=PA at *
 refine ⟨rfl,PF,?_⟩
 refine .inr (.inr (.inr ⟨[(9200,3000)],[9000],[_,_,_,_,_],[_,_],_,S1 _ rfl,rfl,⟨.inl rfl,.inl rfl,trivial⟩,rfl,trivial,?_⟩))
 rintro r1 U1 ⟨U0,⟨s1,n1,hn1,rfl,hs1,rfl⟩,rfl⟩
 refine ⟨rfl,?_⟩
 obtain ⟨sa1,sc1,rfl⟩:=hs1.len
 generalize selCh (cands xs 99 p eurusd 9497) p.tol=C at *
 generalize selE xs 99 p eurusd 9497=SE at *
 generalize dirQ xs 99 p 9497 cEUR cUSD=D1 at *
 generalize dirQ xs 99 p 9497 cUSD cEUR=D2 at *
 generalize legO xs 99 p 9497 cEUR cUSD=LO at *
 subst hD
 generalize cat QC.A xs=XA at *
 generalize cat strA p.srcs=SA at *
 have CF1:=C.fits (a:=sa1) (n:=n1) (c:=sc1)
 have C1:=CH.g1 C (.slice sa1 n1 sc1)
 have C3:=CH.g3 C (.slice sa1 n1 sc1)
 generalize C.A (.slice sa1 n1 sc1)=CA at *
 refine ⟨CF1,?_⟩
 refine .inr (.inr (.inl ⟨[(9200,3000)],[_,_,_,_,_,_],[_,_],_,[_,_],L1 _ rfl,rfl,⟨.inl rfl,.inl rfl,trivial⟩,rfl,rfl,RQ.A_fits _,?_⟩))
 refine .inl ⟨_,known_x,⟨fun _=>⟨fun _=>?_,fun h=>absurd h (by decide)⟩,fun h=>absurd h (by decide)⟩⟩
 have N1:=fun (u v:Operand)=>eqs_rq (E:=(envC Tryz.prog tt Tryz.f8.ntmps w [] []).toEnv) rfl hPI (u:=u) (v:=v)
 refine ⟨fun c=>?_,fun c=>?_⟩
 ·have c:(SE != 0)=false:=c
  have c:SE=0:=by simpa using c
  subst c
  refine ⟨_,C1,fun d=>?_,fun d=>?_⟩
  ·have d:(!((S C.cur).toList == (S cUSD).toList))=false:=d
   have d:C.cur=cUSD:=str_eq (by simpa using d)
   have hL:LO=some C.price:=by rw [hL,d];simp
   subst hL
   refine ⟨fun _=>⟨by decide,_,C3,_,N1 _ _,?_⟩,fun h=>absurd (show true=false from h) (by decide)⟩
   exact ⟨rfl,trivial⟩
  ·exact ⟨rfl,trivial⟩
 ·exact ⟨fun h=>absurd (show true=false from h) (by decide),fun _=>⟨rfl,trivial⟩⟩
end Go.Proofs.YtjkgmglmgndaoaaGreatDoor
