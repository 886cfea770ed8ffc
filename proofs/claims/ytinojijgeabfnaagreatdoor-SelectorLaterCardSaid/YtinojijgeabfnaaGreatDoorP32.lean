/- the law SelectorSpoilt, walk. the drawn candidates. drawn candidates: valid, and all of them counted. the law SelectorMajority, walk. ref14.At; no condition. -/
import Derived.Test.YtinojijgeabfnaaGreatDoorP31
set_option maxRecDepth 100000
set_option maxHeartbeats 4000000
namespace Go.Proofs.YtinojijgeabfnaaGreatDoor
open Go Go.RowKit Go.SX
theorem splice_left {P Q:Array Value} {off:Nat} {vs:List Value} (h:off+vs.length≤P.size):splice (P++Q) off vs=splice P off vs++Q:=by
 apply Array.ext_getElem?
 intro t
 rw [splice_get,Array.getElem?_append,Array.getElem?_append,splice_get,splice_size]
 have hs:(P++Q).size=P.size+Q.size:=Array.size_append
 by_cases h1:t < off∨off+vs.length≤t
 ·rw [if_pos h1,if_pos h1]
 ·rw [if_neg h1,if_neg h1]
  have h2:t < P.size:=by omega
  rw [if_pos h2]
  simp only [hs]
  rw [if_pos (by omega),if_pos h2]
theorem splice_right {P Q:Array Value} {off:Nat} {vs:List Value}:splice (P++Q) (P.size+off) vs=P++splice Q off vs:=by
 apply Array.ext_getElem?
 intro t
 rw [splice_get,Array.getElem?_append,Array.getElem?_append,splice_get]
 have hs:(P++Q).size=P.size+Q.size:=Array.size_append
 by_cases h2:t < P.size
 ·rw [if_pos h2,if_pos h2,if_pos (by omega)]
 ·rw [if_neg h2,if_neg h2]
  by_cases h1:t - P.size < off∨off+vs.length≤t - P.size
  ·rw [if_pos h1,if_pos (by omega)]
  ·rw [if_neg h1,if_neg (by omega)]
   rw [show t - (P.size+off)=t - P.size - off by omega]
   simp only [hs]
   by_cases h3:t - P.size < Q.size
   ·rw [if_pos h3,if_pos (by omega)]
   ·rw [if_neg h3,if_neg (by omega)]
theorem cat_splice {α:Type} {g:α→Array Value} {s:Nat} (hg:∀ x,(g x).size=s) {x':α} {j:Nat} {vs:List Value}:∀ {l:List α} {i:Nat} {x:α},l[i]? = some x→j+vs.length≤s→splice (g x) j vs=g x'→splice (cat g l) (i*s+j) vs=cat g (l.set i x')
 | [],i,x,h,_,_=>by simp at h
 | y :: r,0,x,h,hj,he=>by
  simp only [List.getElem?_cons_zero,Option.some.injEq] at h
  subst h
  rw [cat,List.set_cons_zero,cat,Nat.zero_mul,Nat.zero_add,splice_left (by rw [hg];exact hj),he]
 | y :: r,i+1,x,h,hj,he=>by
  rw [cat,List.set_cons_succ,cat,show (i+1)*s+j=(g y).size+(i*s+j) by rw [hg,Nat.add_mul];omega,splice_right,cat_splice hg (by simpa using h) hj he]
theorem cat_set1 {α:Type} {g:α→Array Value} {s:Nat} (hg:∀ x,(g x).size=s) {x':α} {j:Nat} {v:Value} {l:List α} {i:Nat} {x:α} (h:l[i]? = some x) (hj:j < s) (he:(g x).setIfInBounds j v=g x'):(cat g l).setIfInBounds (i*s+j) v=cat g (l.set i x') :=
 cat_splice (vs:=[v]) hg h (show j+1≤s from hj) he
theorem QC.set70 (a:QC) (n:Int):a.A.setIfInBounds 70 (.int .i64 n)=({ a with known:=n }:QC).A:=by kernel_rfl
theorem PL.settol (p:PL) (v:Value) (r:RQ):splice (p.A v) (0+1) r.A.toList=({ p with tol:=r }:PL).A v:=by kernel_rfl
theorem PL.setstale (p:PL) (v:Value) (n:Int):(p.A v).setIfInBounds (0+67) (.int .i64 n)=({ p with stale:=n }:PL).A v:=by kernel_rfl
theorem exact_own1 {E:Env} (hE:E.P=Tryz.prog) {x y:Value} {xs:List QC} {p:PL} {nx:Nat} (hx:nx=xs.length) (hy:∃ a c,y=.slice a 0 c) (hp0:p.srcs=[]) (hn:nx≤1000000000000) (hin:∀ y∈xs,y.In) (hpin:p.In) (k:Int) (ins:List UInt8) (day:Int):OwnC E 3 [SV.c x,SV.c (.agg (p.A y)),SV.c (.int .i64 k),SV.c (.string (S ins)),SV.c (.int .i64 day)] [(9200,Blk.own x 40 72 nx (cat QC.A xs))] (fun r U=>r=.bool true∧U=[(9200,Blk.own x 40 72 nx (cat QC.A xs))]):=by
 subst hx
 have hl:∀ E0:Env,Lst E0 y 1 p.srcs.length (cat strA p.srcs):=fun E0=>by
  obtain ⟨a,c,rfl⟩:=hy
  rw [hp0]
  exact ⟨rfl,by unfold maxLen;simp,Go.SX.cat_all strA_one [],a,c,rfl,Nat.zero_le _,fun h=>absurd h (by simp)⟩
 refine (OwnC.with_own (k:=9200) (v:=x) (e:=40) (sz:=72) (n:=xs.length) (A:=cat QC.A xs) (pre:=[]) rfl rfl (Go.SX.cat_all QC.all1 xs) (by rw [hE];exact at3.enters) (fun E0 h hl1=>exact_q (k:=k) (h.trans hE) hl1 hn hin (hl E0) (by rw [hp0];simp) hpin ins day) (fun x U h=>by rw [h.2];rfl)).mono ?_
 rintro r U ⟨U0,⟨h1,rfl⟩,rfl⟩
 exact ⟨h1,rfl⟩
def PolAt (p:PL) (y:Value) (M:MemL):Prop:=(∃ n,n=p.srcs.length∧n≤10∧IsL y n∧M=[(9101,Blk.own y 9 1 n (cat strA p.srcs))])∨(p.srcs=[]∧(∃ a c,y=.slice a 0 c)∧M=[])
theorem selectorSpoilt_f {v:Value} {zs:List Int} {n0:Int} {r:RQ} (hr:r.In) (hn0 : -9223372036854775808≤n0∧n0≤9223372036854775807) (w:World) (hv:Tp (envC Tryz.prog tt Tryz.f5.ntmps w [] []).toEnv v zs):Calls Tryz.prog 5 #[v,.int .i64 n0,.agg r.A] w fun e w'=>e=.returned (.bool true)∧Below w.heap.size w w':=by
 refine sx_atX [12,14] tt_ok mixed at5 [v,.int .i64 n0,.agg r.A] _ w rfl ?_
 have hv0:=hv
 obtain ⟨a,cap,rfl,-⟩:=hv0
 refine ⟨r.A_size,_,fill_tape a zs.length cap rfl,rfl,?_⟩
 generalize hvv:Value.slice a zs.length cap=v at *
 have hv':Tp (envC Tryz.prog tt Tryz.f5.ntmps w [] [] [12,14]).toEnv v zs:=hv
 obtain ⟨r2,k2,a2,b2,⟨i2,rfl,c2⟩,O2⟩:=next_g (n:=4) (by decide) zs 0 (by omega)
 obtain ⟨n,rfl⟩:∃ n:Nat,i2=n:=⟨i2.toNat,by omega⟩
 refine .inr (.inl ⟨_,_,_,O2 _ v 12 rfl hv',⟨rfl,trivial⟩,rfl,?_⟩)
 refine .inr (.inr (.inr ⟨[(1000,12)],[3000],[_,_,_],[_],_,quotes_z rfl hv' (n:=n) (by omega) (by omega) (day:=9497) (by decide),rfl,⟨rfl,trivial⟩,rfl,trivial,?_⟩))
 rintro x U ⟨xs,k3,last,h1,h2,hx,hxs,hbk,hlast,-,rfl⟩
 refine ⟨rfl,?_⟩
 have hin:∀ y∈xs,y.In:=fun y hy=>madeQ_in (hbk.each y hy)
 obtain ⟨xa,xc,rfl⟩:=hx.len
 refine .inr (.inr (.inr ⟨[(1000,12)],[9101],[_],[_],_,policy_z rfl hv' (k:=k3) (by omega),rfl,⟨rfl,trivial⟩,rfl,trivial,?_⟩))
 rintro rp U ⟨p,y,m,k4,p1,p2,hpin,-,-,hy,hm,hm1,hm4,rfl,rfl⟩
 have hk4:k4≤1000:=by omega
 rcases hy with ⟨hq,hq2⟩ | ⟨gy,yc,hq⟩
 ·omega
 subst hq
 have PF:=p.fits (v:=.slice (some ⟨gy,0,none⟩) m yc) rfl
 obtain ⟨r5,k5,a5,b5,⟨i5,rfl,c5⟩,O5⟩:=next_g (n:=4) (by decide) zs k4 (by omega)
 refine ⟨rfl,PF,?_⟩
 refine ⟨fun f mm=>∃ (p:PL) (y:Value) (k6:Nat) (M:MemL),p.In∧k6≤1010∧PolAt p y M∧f=[(7,SV.ptr 12 0),(8,SV.c (.slice xa n xc)),(9,SV.ptr 9 0)]∧mm=(12,Blk.row 48 2 (tb v k6)) :: (9,Blk.row 31 68 (p.A y)) :: (3000,Blk.own (.slice xa n xc) 40 72 n (cat QC.A xs)) :: M,?_,?_⟩
 ·have G0:=p.g0 (.slice (some ⟨gy,0,none⟩) m yc)
  have S0:=fun u=>p.set0 (.slice (some ⟨gy,0,none⟩) m yc) u
  have S1:=fun r=>p.settol (.slice (some ⟨gy,0,none⟩) m yc) r
  have S2:=fun n=>p.setstale (.slice (some ⟨gy,0,none⟩) m yc) n
  generalize hPA:p.A (.slice (some ⟨gy,0,none⟩) m yc)=PA at *
  refine .inr (.inl ⟨_,_,_,O5 _ v 12 rfl hv',⟨rfl,trivial⟩,rfl,fun h0=>?_,fun h0=>⟨fun h1=>?_,fun h1=>⟨fun h2=>?_,fun h2=>?_⟩⟩⟩)
  ·obtain ⟨s0,hs0⟩:∃ s,p.srcs[0]? = some s:=⟨_,List.getElem?_eq_getElem (by omega)⟩
   have hs0l:=hpin.srcs s0 (List.mem_of_getElem? hs0)
   have g1:(cat strA p.srcs)[offAt 0 0 ti9.size]? = some (.string (S s0)):=by
    have:=cat_get strA_size p.srcs 0 s0 0 hs0 (by decide)
    rw [show offAt 0 0 ti9.size=0 from rfl]
    simpa [strA] using this
   obtain ⟨r6,k6,a6,b6,⟨l6,rfl,c6⟩,O6⟩:=one_g (xs:=[[],[65],s0,[122]]) (by simp) (by simp) zs k5 (by omega)
   have hl6:l6.length≤9223372036854775807:=by simp at c6;rcases c6 with h | h | h | h<;>rw [h]<;>first | exact hs0l | decide
   generalize hX:cat strA p.srcs=XA at *
   refine ⟨_,G0,_,G0,by decide,by omega,.inr ⟨9101,gy,_,m,_,_,_,_,rfl,rfl,_,g1,?_⟩⟩
   refine .inl ⟨by decide,by decide,strs [[],[65],s0,[122]],by kernel_rfl,rfl,.inr (.inl ⟨_,_,_,O6 _ v 12 35 (by decide) rfl hv',⟨rfl,rfl,trivial⟩,rfl,?_⟩)⟩
   refine .inl ⟨by decide,by decide,_,fill_str1 l6,rfl,by decide,9101,m,_,.inl rfl,by decide,strA_one l6,rfl,_,strA_ext l6,?_⟩
   obtain ⟨q,hq,hb⟩:=info_str
   refine ⟨by omega,by unfold maxLen;omega,⟨q,hq,by rw [hb];omega⟩,by change _=true;kernel_rfl,fun g2 cap2=>?_⟩
   refine ⟨by decide,rfl,_,S0 _,by kernel_rfl,?_⟩
   refine ⟨_,_,⟨⟨p.srcs++[l6],p.tol,p.stale⟩,.slice (some ⟨g2,0,none⟩) (m+1) cap2,k6,[(9101,Blk.own (.slice (some ⟨g2,0,none⟩) (m+1) cap2) 9 1 (m+1) (cat strA (p.srcs++[l6])))],⟨hpin.tol,?_,hpin.stale⟩,by omega,.inl ⟨m+1,by simp [hm],by omega,.some,rfl⟩,rfl,rfl⟩,⟨rfl,rfl,rfl,trivial⟩,⟨rfl,rfl,.inl rfl,.inl (own_eq (by rw [← hX,cat_snoc])),trivial⟩,rfl⟩
   intro z hz
   rcases List.mem_append.1 hz with h9 | h9
   ·exact hpin.srcs z h9
   ·have:z=l6:=by simpa using h9
    rw [this];exact hl6
  ·have hE':VOk (envC Tryz.prog tt Tryz.f5.ntmps w [] [] [12,14]):=tt_ok
   have SS:=runs_shi hE' Tryz.underlying23 (j:=ti9) rfl (a:=some ⟨gy,0,none⟩) (n:=m) (cap:=yc) (k:=.i64) 0 rfl (Nat.zero_le _)
   refine ⟨_,G0,_,SS,by decide,rfl,_,S0 _,?_⟩
   refine ⟨_,_,⟨⟨[],p.tol,p.stale⟩,.slice (some ⟨gy,0,none⟩) 0 yc,k5,[],⟨hpin.tol,by simp,hpin.stale⟩,by omega,.inr ⟨rfl,⟨_,_,rfl⟩,rfl⟩,rfl,rfl⟩,⟨rfl,rfl,rfl,trivial⟩,⟨rfl,rfl,.inl rfl,trivial⟩,rfl⟩
  ·have M1:=made_of (n:=-1) (d:=100) (by decide) (by decide) (by decide) (by decide)
   have M2:=made_of (n:=101) (d:=100) (by decide) (by decide) (by decide) (by decide)
   have M3:=made_of (n:=1) (d:=3) (by decide) (by decide) (by decide) (by decide)
   obtain ⟨r6,k6,a6,b6,⟨tol,rfl,c6⟩,O6⟩:=pickratio4_g (a:=r) (b:=(mkQ (-1) 100).1) (c:=(mkQ 101 100).1) (d':=(mkQ 1 3).1) (by intro x hx;simp at hx;rcases hx with rfl | rfl | rfl | rfl;exact hr;exact mkQ_in _ _;exact mkQ_in _ _;exact mkQ_in _ _) zs k5 (by omega)
   have R4:=fill_rats4 r (mkQ (-1) 100).1 (mkQ 101 100).1 (mkQ 1 3).1
   have R5:(rats [r,(mkQ (-1) 100).1,(mkQ 101 100).1,(mkQ 1 3).1]).size=264:=by simp [rats,RQ.A_size]
   have TF:=tol.A_fits
   generalize rats [r,(mkQ (-1) 100).1,(mkQ 101 100).1,(mkQ 1 3).1]=RS4 at *
   generalize (mkQ (-1) 100).1.A=RA1 at *
   generalize (mkQ 101 100).1.A=RA2 at *
   generalize (mkQ 1 3).1.A=RA3 at *
   refine .inl ⟨_,M1,.inl ⟨_,M2,.inl ⟨_,M3,.inl ⟨by decide,by decide,RS4,R4,R5,.inr (.inl ⟨_,_,_,O6 _ v 12 53 (by decide) rfl hv',⟨rfl,rfl,trivial⟩,rfl,by decide,TF,_,S1 tol,by kernel_rfl,?_⟩)⟩⟩⟩⟩
   exact ⟨_,_,⟨⟨p.srcs,tol,p.stale⟩,.slice (some ⟨gy,0,none⟩) m yc,k6,[(9101,Blk.own (.slice (some ⟨gy,0,none⟩) m yc) 9 1 m (cat strA p.srcs))],⟨c6,hpin.srcs,hpin.stale⟩,by omega,.inl ⟨m,hm,by omega,.some,rfl⟩,rfl,rfl⟩,⟨rfl,rfl,rfl,trivial⟩,⟨rfl,rfl,.inl rfl,.inl rfl,trivial⟩,rfl⟩
  ·obtain ⟨r6,k6,a6,b6,⟨st,rfl,c6⟩,O6⟩:=pick_g (xs:=[n0,-1,31,30]) (by simp) (by simp) zs k5 (by omega)
   have hst : -9223372036854775808≤st∧st≤9223372036854775807:=by simp at c6;omega
   refine .inl ⟨by decide,by decide,ints [n0,-1,31,30],by kernel_rfl,rfl,.inr (.inl ⟨_,_,_,O6 _ v 12 23 (by decide) rfl hv',⟨rfl,rfl,trivial⟩,rfl,by decide,rfl,_,S2 st,?_⟩)⟩
   exact ⟨_,_,⟨⟨p.srcs,p.tol,st⟩,.slice (some ⟨gy,0,none⟩) m yc,k6,[(9101,Blk.own (.slice (some ⟨gy,0,none⟩) m yc) 9 1 m (cat strA p.srcs))],⟨hpin.tol,hpin.srcs,hst⟩,by omega,.inl ⟨m,hm,by omega,.some,rfl⟩,rfl,rfl⟩,⟨rfl,rfl,rfl,trivial⟩,⟨rfl,rfl,.inl rfl,.inl rfl,trivial⟩,rfl⟩
 ·rintro f1 m1 ⟨p,y,k6,M,hpin,hk6,hpa,rfl,rfl⟩
  clear O2 O5 PF
  have hpa':=hpa
  refine ⟨fun f mm=>∃ (p:PL) (y:Value) (k6:Nat) (M:MemL) (xs:List QC),p.In∧k6≤1020∧PolAt p y M∧(∀ y∈xs,y.In)∧xs.length=n∧f=[(7,SV.ptr 12 0),(8,SV.c (.slice xa n xc)),(9,SV.ptr 9 0)]∧mm=(12,Blk.row 48 2 (tb v k6)) :: (9,Blk.row 31 68 (p.A y)) :: (3000,Blk.own (.slice xa n xc) 40 72 n (cat QC.A xs)) :: M,?_,?_⟩
  ·rcases hpa with ⟨n2,q1,q2,q3,rfl⟩ | ⟨q1,q2,rfl⟩
   ·generalize hPA:p.A y=PA at *
    by_cases hn1:0 < n
    ·rcases hx with ⟨hq,hq2⟩ | ⟨gx,xc2,hq⟩
     ·omega
     cases hq
     obtain ⟨r7,k7,a7,b7,⟨ch,rfl⟩,O7⟩:=chance_g (a:=1) (b:=3) (by decide) zs k6 (by omega)
     refine ⟨_,fun w' _=>run_len_sl Tryz.underlying22 w',fun _=>.inr (.inl ⟨_,_,_,O7 _ v 12 rfl hv',⟨rfl,trivial⟩,rfl,fun hc=>?_,fun hc=>?_⟩),fun h=>absurd (of_decide_eq_false h) (by omega)⟩
     ·obtain ⟨q0,hq0⟩:∃ q,xs[0]? = some q:=⟨_,List.getElem?_eq_getElem (by omega)⟩
      obtain ⟨ql,hql⟩:∃ q,xs[n - 1]? = some q:=⟨_,List.getElem?_eq_getElem (by omega)⟩
      have ew:IntKind.i64.wrap ((n:Int) - 1)=((n - 1:Nat):Int):=by rw [i64_in (by omega)];omega
      have g1:(cat QC.A xs)[(n - 1)*72+70]? = some (.int .i64 ql.known):=by
       rw [cat_get QC.size xs (n - 1) ql 70 hql (by decide)];exact ql.g70
      have j1:0*72+70 < (cat QC.A xs).size:=by rw [Go.SX.cat_size QC.size];omega
      obtain ⟨r8,k8,a8,b8,⟨kn,rfl,c8⟩,O8⟩:=pick_g (xs:=[0,IntKind.i64.wrap (ql.known+1)]) (by simp) (by simp) zs k7 (by omega)
      have st:(cat QC.A xs).setIfInBounds (0*72+70) (.int .i64 kn)=cat QC.A (xs.set 0 { q0 with known:=kn }):=cat_set1 QC.size hq0 (by decide) (QC.set70 q0 kn)
      have hin3:∀ z∈xs.set 0 { q0 with known:=kn },z.In:=fun z hz=>by
       rcases List.mem_or_eq_of_mem_set hz with h9 | h9
       ·exact hin z h9
       ·rw [h9]
        have:=hin q0 (List.mem_of_getElem? hq0)
        exact ⟨this.price,this.src,this.ins,this.cur,this.day⟩
      generalize hX:cat QC.A xs=XA at *
      refine ⟨_,fun w' _=>run_len_sl Tryz.underlying22 w',by rw [ew];omega,by rw [ew];omega,.inr ⟨3000,gx,_,n,_,_,_,_,rfl,rfl,_,(by rw [ew,off72];exact g1),?_⟩⟩
      refine .inl ⟨by decide,by decide,ints [0,IntKind.i64.wrap (ql.known+1)],by kernel_rfl,rfl,.inr (.inl ⟨_,_,_,O8 _ v 12 73 (by decide) rfl hv',⟨rfl,rfl,trivial⟩,rfl,?_⟩)⟩
      refine ⟨by decide,by omega,⟨3000,gx,_,n,_,_,_,_,rfl,rfl,j1,rfl,cat QC.A (xs.set 0 { q0 with known:=kn }),st,?_⟩⟩
      exact ⟨_,_,⟨p,y,k8,[(9101,Blk.own y 9 1 n2 (cat strA p.srcs))],xs.set 0 { q0 with known:=kn },hpin,by omega,hpa',hin3,by rw [List.length_set];exact hxs,rfl,rfl⟩,⟨rfl,rfl,rfl,trivial⟩,⟨rfl,(by rw [hPA];rfl),.inl rfl,.inl rfl,trivial⟩,rfl⟩
     ·exact ⟨_,_,⟨p,y,k7,[(9101,Blk.own y 9 1 n2 (cat strA p.srcs))],xs,hpin,by omega,hpa',hin,hxs,rfl,rfl⟩,⟨rfl,rfl,rfl,trivial⟩,⟨rfl,(by rw [hPA];rfl),.inl rfl,.inl rfl,trivial⟩,rfl⟩
    ·refine ⟨_,fun w' _=>run_len_sl Tryz.underlying22 w',fun h=>absurd (of_decide_eq_true h) (by omega),fun _=>⟨fun h=>absurd h (by decide),fun _=>?_⟩⟩
     exact ⟨_,_,⟨p,y,k6,[(9101,Blk.own y 9 1 n2 (cat strA p.srcs))],xs,hpin,by omega,hpa',hin,hxs,rfl,rfl⟩,⟨rfl,rfl,rfl,trivial⟩,⟨rfl,(by rw [hPA];rfl),.inl rfl,.inl rfl,trivial⟩,rfl⟩
   ·generalize hPA:p.A y=PA at *
    by_cases hn1:0 < n
    ·rcases hx with ⟨hq,hq2⟩ | ⟨gx,xc2,hq⟩
     ·omega
     cases hq
     obtain ⟨r7,k7,a7,b7,⟨ch,rfl⟩,O7⟩:=chance_g (a:=1) (b:=3) (by decide) zs k6 (by omega)
     refine ⟨_,fun w' _=>run_len_sl Tryz.underlying22 w',fun _=>.inr (.inl ⟨_,_,_,O7 _ v 12 rfl hv',⟨rfl,trivial⟩,rfl,fun hc=>?_,fun hc=>?_⟩),fun h=>absurd (of_decide_eq_false h) (by omega)⟩
     ·obtain ⟨q0,hq0⟩:∃ q,xs[0]? = some q:=⟨_,List.getElem?_eq_getElem (by omega)⟩
      obtain ⟨ql,hql⟩:∃ q,xs[n - 1]? = some q:=⟨_,List.getElem?_eq_getElem (by omega)⟩
      have ew:IntKind.i64.wrap ((n:Int) - 1)=((n - 1:Nat):Int):=by rw [i64_in (by omega)];omega
      have g1:(cat QC.A xs)[(n - 1)*72+70]? = some (.int .i64 ql.known):=by
       rw [cat_get QC.size xs (n - 1) ql 70 hql (by decide)];exact ql.g70
      have j1:0*72+70 < (cat QC.A xs).size:=by rw [Go.SX.cat_size QC.size];omega
      obtain ⟨r8,k8,a8,b8,⟨kn,rfl,c8⟩,O8⟩:=pick_g (xs:=[0,IntKind.i64.wrap (ql.known+1)]) (by simp) (by simp) zs k7 (by omega)
      have st:(cat QC.A xs).setIfInBounds (0*72+70) (.int .i64 kn)=cat QC.A (xs.set 0 { q0 with known:=kn }):=cat_set1 QC.size hq0 (by decide) (QC.set70 q0 kn)
      have hin3:∀ z∈xs.set 0 { q0 with known:=kn },z.In:=fun z hz=>by
       rcases List.mem_or_eq_of_mem_set hz with h9 | h9
       ·exact hin z h9
       ·rw [h9]
        have:=hin q0 (List.mem_of_getElem? hq0)
        exact ⟨this.price,this.src,this.ins,this.cur,this.day⟩
      generalize hX:cat QC.A xs=XA at *
      refine ⟨_,fun w' _=>run_len_sl Tryz.underlying22 w',by rw [ew];omega,by rw [ew];omega,.inr ⟨3000,gx,_,n,_,_,_,_,rfl,rfl,_,(by rw [ew,off72];exact g1),?_⟩⟩
      refine .inl ⟨by decide,by decide,ints [0,IntKind.i64.wrap (ql.known+1)],by kernel_rfl,rfl,.inr (.inl ⟨_,_,_,O8 _ v 12 73 (by decide) rfl hv',⟨rfl,rfl,trivial⟩,rfl,?_⟩)⟩
      refine ⟨by decide,by omega,⟨3000,gx,_,n,_,_,_,_,rfl,rfl,j1,rfl,cat QC.A (xs.set 0 { q0 with known:=kn }),st,?_⟩⟩
      exact ⟨_,_,⟨p,y,k8,[],xs.set 0 { q0 with known:=kn },hpin,by omega,hpa',hin3,by rw [List.length_set];exact hxs,rfl,rfl⟩,⟨rfl,rfl,rfl,trivial⟩,⟨rfl,(by rw [hPA];rfl),.inl rfl,trivial⟩,rfl⟩
     ·exact ⟨_,_,⟨p,y,k7,[],xs,hpin,by omega,hpa',hin,hxs,rfl,rfl⟩,⟨rfl,rfl,rfl,trivial⟩,⟨rfl,(by rw [hPA];rfl),.inl rfl,trivial⟩,rfl⟩
    ·refine ⟨_,fun w' _=>run_len_sl Tryz.underlying22 w',fun h=>absurd (of_decide_eq_true h) (by omega),fun _=>⟨fun h=>absurd h (by decide),fun _=>?_⟩⟩
     exact ⟨_,_,⟨p,y,k6,[],xs,hpin,by omega,hpa',hin,hxs,rfl,rfl⟩,⟨rfl,rfl,rfl,trivial⟩,⟨rfl,(by rw [hPA];rfl),.inl rfl,trivial⟩,rfl⟩
  ·rintro f2 m2 ⟨p,y,k7,M,xs2,hpin,hk7,hpa,hin2,hxs2,rfl,rfl⟩
   obtain ⟨r8,k8,a8,b8,⟨dy,rfl,c8⟩,O8⟩:=pick_g (xs:=[9497,-1,73049]) (by decide) (by decide) zs k7 (by omega)
   rcases hpa with ⟨n2,q1,q2,q3,rfl⟩ | ⟨q1,q2,rfl⟩
   ·have X1:=exact_own (E:=(envC Tryz.prog tt Tryz.f5.ntmps w [] [] [12,14]).toEnv) rfl (x:=.slice xa n xc) (y:=y) (xs:=xs2) (p:=p) (nx:=n) (ny:=n2) hxs2.symm q1 (by omega) (by omega) hin2 hpin 30 acme dy
    generalize hPA:p.A y=PA at *
    generalize hX:cat QC.A xs2=XA at *
    refine .inl ⟨by decide,by decide,ints [9497,-1,73049],by kernel_rfl,rfl,.inr (.inl ⟨_,_,_,O8 _ v 12 80 (by decide) rfl hv',⟨rfl,rfl,trivial⟩,rfl,?_⟩)⟩
    refine .inr (.inr (.inl ⟨[(9200,3000)],[_,_,_,_,_],[_,_],_,[_,_],X1,rfl,⟨.inl rfl,.inl rfl,trivial⟩,rfl,rfl,fun _=>.inl ⟨_,known_f,by kernel_rfl,rfl,trivial⟩,fun h=>absurd h (by decide)⟩))
   ·have X1:=exact_own1 (E:=(envC Tryz.prog tt Tryz.f5.ntmps w [] [] [12,14]).toEnv) rfl (x:=.slice xa n xc) (y:=y) (xs:=xs2) (p:=p) (nx:=n) hxs2.symm q2 q1 (by omega) hin2 hpin 30 acme dy
    generalize hPA:p.A y=PA at *
    generalize hX:cat QC.A xs2=XA at *
    refine .inl ⟨by decide,by decide,ints [9497,-1,73049],by kernel_rfl,rfl,.inr (.inl ⟨_,_,_,O8 _ v 12 80 (by decide) rfl hv',⟨rfl,rfl,trivial⟩,rfl,?_⟩)⟩
    refine .inr (.inr (.inl ⟨[(9200,3000)],[_,_,_,_,_],[_],_,[_],X1,rfl,⟨.inl rfl,trivial⟩,rfl,rfl,fun _=>.inl ⟨_,known_f,by kernel_rfl,rfl,trivial⟩,fun h=>absurd h (by decide)⟩))
theorem fill_q4 (s:List UInt8) (day known:Int) (r:RQ) {pl:List (Nat×Nat)} (hpl:pl=[(0,1),(1,1),(2,1),(3,1),(4,66),(70,1),(71,1)]):Instr.fill (fun k=>pl[k]?) ti40.zero [(0,.string (S s)),(1,.string (S [65,67,77,69])),(2,.string (S [85,83,68])),(3,.int .i64 day),(4,.agg r.A),(5,.int .i64 known)]=some (QC.A ⟨s,[65,67,77,69],[85,83,68],day,r,known,false⟩):=by
 subst hpl
 kernel_rfl
theorem pickratio3_m {a b c:RQ}:GenL 26 29 (rats [a,b,c]) 198 3 1 (RA (·∈[a,b,c])):=by
 intro zs k hk
 obtain ⟨r,k',h4,h5,⟨i,rfl,h6,h7⟩,hO⟩:=next_g (n:=3) (by decide) zs k hk
 have hi:i.toNat < [a,b,c].length:=by show i.toNat < 3;omega
 refine ⟨_,k',h4,h5,⟨[a,b,c][i.toNat],rfl,List.getElem_mem hi⟩,fun E v d e hde hE hv=>?_⟩
 refine sx_ownT2 [] tt_ok mixed at26 E hE d e hde (48,2,tb v k,tb v k') (29,198,rats [a,b,c],rats [a,b,c]) [SV.ptr 1000 0,SV.sl 1001 0 3 3] _ rfl rfl fun w b b' hT=>?_
 have:=hO _ v 1000 rfl (hv.of_old hE.symm hT)
 have hoff:0+i.toNat*66+66≤198:=by omega
 exact ⟨nofun,fun _=>.inr ⟨_,_,_,this,⟨rfl,trivial⟩,rfl,h6,by show i < 3;omega,hoff,_,rats_get hi,RQ.A_fits _,rfl,rfl,rfl,trivial⟩⟩
def cmpQ (i:Nat) (s:List UInt8) (d a:Int):QC:=⟨s,[65,67,77,69],[85,83,68],9497 - d,(mkQ a 1).1,((i+1:Nat):Int),false⟩
def isCmp (i:Nat) (q:QC):Prop:=∃ s d a,src4[i]? = some s∧0≤d∧d≤3∧90≤a∧a≤109∧q=cmpQ i s d a
def tol3:List RQ:=[(mkQ 0 1).1,(mkQ 1 100).1,(mkQ 5 100).1]
def cmpP (n:Nat) (tol:RQ):PL:=⟨src4.take n,tol,3⟩
def CmpQ (k:Nat) (v:Value) (x:Value) (U:MemL):Prop:=∃ (l:List QC) (tol:RQ) (y z:Value) (n k':Nat),k≤k'∧k'≤k+20∧1≤n∧n≤4∧l.length=n∧(∀ i q,l[i]? = some q→isCmp i q)∧tol∈tol3∧IsL y n∧IsL z n∧x=.tuple #[y,.agg ((cmpP n tol).A z)]∧U=[(1000,Blk.row 48 2 (tb v k')),(3000,Blk.own y 40 72 n (cat QC.A l)),(9101,Blk.own z 9 1 n (cat strA (cmpP n tol).srcs))]
theorem comparable_z {E:Env} (hE:E.P=Tryz.prog) {v:Value} {zs:List Int} (hv:Tp E v zs) {k:Nat} (hk:k+20≤4000000000000000000):OwnC E 29 [SV.ptr 1000 0] [(1000,Blk.row 48 2 (tb v k))] (CmpQ k v):=by
 refine sx_ownC [] tt_ok mixed at29 E hE [SV.ptr 1000 0] [(1000,Blk.row 48 2 (tb v k))] _ rfl rfl fun w X β hT=>?_
 have hv':Tp (envC Tryz.prog tt Tryz.f29.ntmps w X (tiedK [(1000,Blk.row 48 2 (tb v k))] β)).toEnv v zs:=hv.of_old hE.symm hT
 have M1:=made_of (n:=0) (d:=1) (by decide) (by decide) (by decide) (by decide)
 have M2:=made_of (n:=1) (d:=100) (by decide) (by decide) (by decide) (by decide)
 have M3:=made_of (n:=5) (d:=100) (by decide) (by decide) (by decide) (by decide)
 obtain ⟨r2,k2,a2,b2,⟨tol,rfl,c2⟩,O2⟩:=pickratio3_m (a:=(mkQ 0 1).1) (b:=(mkQ 1 100).1) (c:=(mkQ 5 100).1) zs k (by omega)
 have R4:=fill_rats3 (mkQ 0 1).1 (mkQ 1 100).1 (mkQ 5 100).1
 have R5:(rats [(mkQ 0 1).1,(mkQ 1 100).1,(mkQ 5 100).1]).size=198:=by simp [rats,RQ.A_size]
 have P0:=fill_pol0 tol 3 (pl:=[(0,1),(1,66),(67,1)]) rfl
 have PF:=(⟨[],tol,3⟩:PL).fits (v:=.slice none 0 0) rfl
 generalize rats [(mkQ 0 1).1,(mkQ 1 100).1,(mkQ 5 100).1]=RS3 at *
 have c2:tol∈tol3:=c2
 generalize (mkQ 0 1).1.A=RA1 at M1 R4
 generalize (mkQ 1 100).1.A=RA2 at M2 R4
 generalize (mkQ 5 100).1.A=RA3 at M3 R4
 refine .inl ⟨_,M1,.inl ⟨_,M2,.inl ⟨_,M3,?_⟩⟩⟩
 refine .inl ⟨by decide,by decide,RS3,R4,R5,.inr (.inl ⟨_,_,_,O2 _ v 1000 12 (by decide) rfl hv',⟨rfl,rfl,trivial⟩,rfl,_,P0,PF,?_⟩)⟩
 clear R4 R5 P0 O2
 refine ⟨fun q f m=>∃ (i k5:Nat) (l:List QC) (y z:Value),q=4 - i∧i≤4∧k≤k5∧k5≤k+1+4*i∧IsL y i∧IsL z i∧l.length=i∧(∀ i q,l[i]? = some q→isCmp i q)∧f=[(0,SV.ptr 1000 0),(3,SV.ptr 3 0),(4,SV.c y),(5,SV.ptr 5 0),(6,SV.c (.int .i64 (i:Nat)))]∧m=[(3000,Blk.own y 40 72 i (cat QC.A l)),(9101,Blk.own z 9 1 i (cat strA (src4.take i))),(1000,Blk.row 48 2 (tb v k5)),(5,Blk.row 31 68 (PL.A ⟨[],tol,3⟩ z)),(3,Blk.row 31 68 (PL.A ⟨[],RQ.of 0 0,0⟩ (.slice none 0 0)))],4,⟨_,_,⟨0,_,[],.slice none 0 0,.slice none 0 0,rfl,by omega,?_,?_,.nil,.nil,rfl,fun i q h=>by simp at h,rfl,rfl⟩,⟨rfl,rfl,rfl,rfl,rfl,trivial⟩,⟨.inr ⟨rfl,rfl,rfl⟩,.inr ⟨rfl,rfl,rfl⟩,rfl,rfl,congrArg (fun A=>some (Blk.row 31 68 A)) polZ.symm,trivial⟩,rfl⟩,?_⟩
 ·omega
 ·omega
 rintro q f m ⟨i,k5,l,y,z,rfl,hi,hk1,hk2,hy,hz,hl,hls,rfl,rfl⟩
 obtain ⟨r6,k6,a6,b6,⟨i6,rfl,c6⟩,O6⟩:=next_g (n:=4) (by decide) zs k5 (by omega)
 have e6:IntKind.i64.wrap (1+i6)=1+i6:=i64_in (by omega)
 have G0:=PL.g0 ⟨[],tol,3⟩ z
 have S0:=fun u=>PL.set0 ⟨[],tol,3⟩ z u
 have PF2:Fits (PL.A ⟨[],tol,3⟩ z) 68:=by obtain ⟨ya,yc,rfl⟩:=hz.len;exact PL.fits _ rfl
 generalize hPA:PL.A ⟨[],tol,3⟩ z=PA at *
 refine .inr (.inl ⟨_,_,_,O6 _ v 1000 rfl hv',⟨rfl,trivial⟩,rfl,fun h=>?_,fun h=>?_⟩)
 ·have h:(i:Int) < IntKind.i64.wrap (1+i6):=of_decide_eq_true h
  rw [e6] at h
  have hi3:i≤3:=by omega
  obtain ⟨sr,hs⟩:∃ s,src4[i]? = some s:=⟨_,List.getElem?_eq_getElem (show i < 4 by omega)⟩
  refine .inr (.inl ⟨_,_,_,sources_o _ rfl 7777,trivial,rfl,?_⟩)
  have g1:(cat strA src4)[i]? = some (.string (S sr)):=by
   have:=cat_get strA_size src4 i sr 0 hs (by decide)
   simpa [strA] using this
  have g2:cat strA (src4.take i)++strA sr=cat strA (src4.take (i+1)):=by rw [List.take_add_one,hs,cat_append];simp [cat_one]
  generalize hX:cat strA src4=XA at *
  refine ⟨by omega,by omega,_,(by rw [off_one 0 i];simpa using g1),?_⟩
  refine ⟨_,G0,.inl ⟨by decide,by decide,_,fill_str1 sr,rfl,by decide,9101,i,_,.inl rfl,by decide,strA_one sr,rfl,_,strA_ext sr,?_⟩⟩
  obtain ⟨q,hq,hb⟩:=info_str
  refine ⟨by omega,by unfold maxLen;omega,⟨q,hq,by rw [hb];omega⟩,trivial,fun g3 cap3=>?_⟩
  refine ⟨by decide,rfl,_,S0 _,?_⟩
  obtain ⟨r7,k7,a7,b7,⟨i7,rfl,c7⟩,O7⟩:=next_g (n:=4) (by decide) zs k6 (by omega)
  obtain ⟨r8,k8,a8,b8,⟨i8,rfl,c8⟩,O8⟩:=next_g (n:=20) (by decide) zs k7 (by omega)
  have e7:IntKind.i64.wrap (9497 - i7)=9497 - i7:=i64_in (by omega)
  have e8:IntKind.i64.wrap (90+i8)=90+i8:=i64_in (by omega)
  obtain ⟨r9,k9,a9,b9,⟨i9,rfl,c9⟩,O9⟩:=pick_g (xs:=[100,100,101,99,90+i8]) (by simp) (by simp) zs k8 (by omega)
  have h9:90≤i9∧i9≤109:=by simp at c9;omega
  have O1:=made_of (n:=i9) (d:=1) (by omega) (by omega) (by decide) (by decide)
  have eK:IntKind.i64.wrap ((i:Int)+1)=((i+1:Nat):Int):=i64_succ (by omega)
  refine .inr (.inl ⟨_,_,_,O7 _ v 1000 rfl hv',⟨rfl,trivial⟩,rfl,?_⟩)
  refine .inr (.inl ⟨_,_,_,O8 _ v 1000 rfl hv',⟨rfl,trivial⟩,rfl,?_⟩)
  rw [← e8] at O9
  refine .inl ⟨by decide,by decide,ints [100,100,101,99,IntKind.i64.wrap (90+i8)],by kernel_rfl,rfl,.inr (.inl ⟨_,_,_,O9 _ v 1000 41 (by decide) rfl hv',⟨rfl,rfl,trivial⟩,rfl,?_⟩)⟩
  have hy2:isCmp i (cmpQ i sr i7 i9):=⟨sr,i7,i9,hs,by omega,by omega,by omega,by omega,rfl⟩
  have FQ:=fill_q4 sr (9497 - i7) ((i+1:Nat):Int) (mkQ i9 1).1 (pl:=[(0,1),(1,1),(2,1),(3,1),(4,66),(70,1),(71,1)]) rfl
  rw [← e7,← eK] at FQ
  rw [show (⟨sr,[65,67,77,69],[85,83,68],IntKind.i64.wrap (9497 - i7),(mkQ i9 1).1,IntKind.i64.wrap ((i:Int)+1),false⟩:QC)=cmpQ i sr i7 i9 by rw [e7,eK];rfl] at FQ
  generalize cmpQ i sr i7 i9=qq at *
  have F1:=fill_quo1 qq
  have F2:=qq.fits.one
  have F3:=qq.ext72
  have F4:qq.A.size=1*72:=qq.size
  have F5:cat QC.A l++qq.A=cat QC.A (l++[qq]):=cat_snoc l qq
  have F6:=qq.fits
  generalize hY:qq.A=YA at *
  generalize (mkQ i9 1).1.A=RA9 at *
  refine .inl ⟨_,O1,?_⟩
  refine ⟨YA,FQ,?_⟩
  refine .inl ⟨by decide,by decide,_,F1,F4,by decide,3000,i,_,.inl rfl,by decide,F2,F4,_,F3,?_⟩
  obtain ⟨q2,hq2,hb2⟩:=info_quo
  refine ⟨by omega,by unfold maxLen;omega,⟨q2,hq2,by rw [hb2];omega⟩,trivial,fun g4 cap4=>?_⟩
  refine ⟨4 - (i+1),_,_,by omega,⟨i+1,k9,l++[qq],_,_,rfl,by omega,by omega,by omega,.some,.some,by simp [hl],?_,rfl,rfl⟩,⟨rfl,rfl,rfl,rfl,c_int (i64_succ (by omega)),trivial⟩,⟨.inl (own_eq F5),.inl (own_eq g2),rfl,rfl,rfl,trivial⟩,rfl⟩
  intro j q hj
  rcases Nat.lt_or_ge j l.length with h1 | h1
  ·rw [List.getElem?_append_left h1] at hj;exact hls j q hj
  ·rw [List.getElem?_append_right h1] at hj
   have h2:j=i:=by
    have:=(List.getElem?_eq_some_iff.1 hj).1
    simp at this;omega
   subst h2
   rw [hl,Nat.sub_self] at hj
   cases hj
   exact hy2
 ·have h:¬ (i:Int) < IntKind.i64.wrap (1+i6):=of_decide_eq_false h
  rw [e6] at h
  refine ⟨PF2,by kernel_rfl,[(1000,Blk.row 48 2 (tb v k6)),(3000,Blk.own y 40 72 i (cat QC.A l)),(9101,Blk.own z 9 1 i (cat strA (src4.take i)))],[],⟨l,tol,y,z,i,k6,by omega,by omega,by omega,by omega,hl,hls,c2,hy,hz,by rw [← hPA];rfl,rfl⟩,⟨rfl,.inl rfl,.inl rfl,trivial⟩,rfl⟩
theorem quote_valid {dd kn:Int} {q:QC} (h:isQuote dd kn q) (hd:q.day≤73048) (h1:1≤kn) (h2:kn≤2147483647):validQ q=true:=by
 obtain ⟨a1,a2,a3,a4,a5,a6⟩:=h
 unfold validQ rightQ knOk
 have u1:usable q.src=true:=by
  simp [src4] at a1;rcases a1 with h | h | h | h<;>rw [h]<;>decide
 have u2:insOk q.ins=true:=by
  simp [papers] at a2;rcases a2 with h | h | h | h | h | h<;>rw [h]<;>decide
 have u3:curOk q.cur=true:=by
  simp at a3;rcases a3 with h | h | h<;>rw [h]<;>decide
 rw [u1,u2,u3,a5,decide_eq_true a4.1,decide_eq_true hd,decide_eq_true h1,decide_eq_true h2]
 rcases a6 with ⟨v,p⟩ | ⟨v,p⟩
 ·obtain ⟨n,d,e,g1,g2,g3,g4,g5,g6,g7,g8⟩:=price_of p
  rw [v]
  have:priOk q.price=true:=by
   unfold priOk sgn
   rw [g6,if_neg (by omega),if_neg (by omega)];rfl
  simp [this]
 ·rw [v,p];rfl
structure isCm (i:Nat) (q:QC):Prop where
 src:src4[i]? = some q.src
 ins:q.ins=acme
 cur:q.cur=[85,83,68]
 d1:9494≤q.day
 d2:q.day≤9497
 kn:q.known=((i+1:Nat):Int)
 vo:q.void=false
 pr:∃ a:Int,q.price=(mkQ a 1).1∧77≤a∧a≤109
theorem isCmp.cm {i:Nat} {q:QC} (h:isCmp i q):isCm i q:=by
 obtain ⟨s,d,a,h1,h2,h3,h4,h5,rfl⟩:=h
 exact ⟨h1,rfl,rfl,by show 9494≤9497 - d;omega,by show 9497 - d≤9497;omega,rfl,rfl,a,rfl,by omega,h5⟩
theorem isCm.lt {i:Nat} {q:QC} (h:isCm i q):i < 4:=(List.getElem?_eq_some_iff.1 h.src).1
theorem isCm.quote {i:Nat} {q:QC} (h:isCm i q):isQuote q.day q.known q:=by
 obtain ⟨a,h1,h2,h3⟩:=h.pr
 refine ⟨List.mem_of_getElem? h.src,by rw [h.ins];simp [papers,acme],by rw [h.cur];simp,⟨by have:=h.d1;omega,.inl (Int.le_refl _)⟩,rfl,.inl ⟨h.vo,?_⟩⟩
 exact ⟨a,1,h1,by omega,by omega,by simp⟩
theorem isCm.valid {i:Nat} {q:QC} (h:isCm i q):validQ q=true:=quote_valid h.quote (by have:=h.d2;omega) (by rw [h.kn];omega) (by rw [h.kn];have:=h.lt;omega)
theorem isCm.inn {i:Nat} {q:QC} (h:isCm i q):q.In:=madeQ_in (day:=q.day) ⟨q.day,q.known,h.quote,by have:=h.d1;omega,by have:=h.d2;omega,by omega⟩
theorem isCm.key {i:Nat} {q:QC} (h:isCm i q):(keyQ q)[0]? = some (UInt8.ofNat (97+i)):=by
 have hs:=h.src
 have hi:=h.lt
 unfold keyQ
 rcases (by omega:i=0∨i=1∨i=2∨i=3) with rfl | rfl | rfl | rfl<;>(cases hs':q.src with | nil=>rw [hs'] at hs;cases hs | cons b r=>rw [hs'] at hs;cases hs;rfl)
theorem cm_keys {l:List QC} (hl:∀ i q,l[i]? = some q→isCm i q) (i j:Nat) (a b:QC) (ha:l[i]? = some a) (hb:l[j]? = some b) (h:keyQ a=keyQ b):i=j:=by
 have h1:=(hl i a ha).key
 have h2:=(hl j b hb).key
 rw [h,h2] at h1
 have i4:=(hl i a ha).lt
 have j4:=(hl j b hb).lt
 rcases (by omega:i=0∨i=1∨i=2∨i=3) with rfl | rfl | rfl | rfl<;>rcases (by omega:j=0∨j=1∨j=2∨j=3) with rfl | rfl | rfl | rfl<;>first | rfl | (exact absurd h1 (by decide))
theorem cm_chk {l:List QC} (hl:∀ i q,l[i]? = some q→isCm i q) (hn:l.length≤4):chkQ l=0:=by
 refine chk_book (fun q hq=>?_) (by omega) ?_
 ·obtain ⟨i,hi⟩:=List.getElem?_of_mem hq
  exact (hl i q hi).valid
 ·rw [List.pairwise_iff_getElem]
  intro i j hi hj hij
  rw [(hl i _ (List.getElem?_eq_getElem hi)).kn,(hl j _ (List.getElem?_eq_getElem hj)).kn]
  omega
theorem cm_pol {n:Nat} {tol:RQ} (h1:1≤n) (h4:n≤4) (ht:tol∈tol3):polOk (cmpP n tol)=true:=by
 simp only [tol3,List.mem_cons,List.not_mem_nil,or_false] at ht
 rcases (by omega:n=1∨n=2∨n=3∨n=4) with rfl | rfl | rfl | rfl<;>rcases ht with rfl | rfl | rfl<;>kernel_rfl
theorem cm_cands {l:List QC} (hl:∀ i q,l[i]? = some q→isCm i q) {n:Nat} (hn:l.length=n) (h1:1≤n) (h4:n≤4) {tol:RQ} (ht:tol∈tol3):cands l 99 (cmpP n tol) acme 9497=l∧selE l 99 (cmpP n tol) acme 9497=0:=by
 have hc:=cm_chk hl (by omega)
 have c0:candC l 99 (cmpP n tol) 9497=0:=by
  unfold candC
  rw [if_neg (by rw [hc];simp),if_pos (cm_pol h1 h4 ht),if_neg (by omega)]
 have hv:visQs l 99=l:=vis_all hc (fun q hq=>by
  obtain ⟨i,hi⟩:=List.getElem?_of_mem hq
  have h:=hl i q hi
  have h4:=h.lt
  exact ⟨h.vo,by rw [h.kn];omega⟩) (cm_keys hl)
 have e:cands l 99 (cmpP n tol) acme 9497=l:=by
  unfold cands
  rw [if_pos c0,hv]
  unfold candL
  refine fm_zip (by show (src4.take n).length=_;rw [List.length_take];show min n 4=_;omega) fun i s hs=>?_
  have hs:(src4.take n)[i]? = some s:=hs
  have hi:i < n:=by
   have:=(List.getElem?_eq_some_iff.1 hs).1
   simp at this;omega
  obtain ⟨q,hq⟩:∃ q,l[i]? = some q:=⟨_,List.getElem?_eq_getElem (by omega)⟩
  have h:=hl i q hq
  rw [List.getElem?_take_of_lt hi,h.src] at hs
  cases hs
  rw [hq]
  refine cand_one hq rfl h.ins h.d2 (by show (9497:Int) - 3≤_;have:=h.d1;omega) fun j z hj hz he=>?_
  have hz2:=(hl j z hz).src
  rw [he] at hz2
  have hi4:=h.lt
  have hj4:=(hl j z hz).lt
  have hs2:=h.src
  rw [← hs2] at hz2
  rcases (by omega:i=0∨i=1∨i=2∨i=3) with rfl | rfl | rfl | rfl<;>rcases (by omega:j=0∨j=1∨j=2∨j=3) with rfl | rfl | rfl | rfl<;>first | exact hj rfl | (exact absurd hz2 (by decide))
 refine ⟨e,?_⟩
 unfold selE
 rw [if_neg (by rw [c0];simp),e,if_neg]
 intro h;rw [h] at hn;simp at hn;omega
def p77:RQ:=(mkQ 77 1).1
theorem lt77 {a:Int} (h1:77≤a) (h2:a≤109):ltP (mkQ a 1).1 p77=false:=by
 obtain ⟨k,hk,rfl⟩:∃ k:Nat,k < 33∧a=77+(k:Int):=⟨(a - 77).toNat,by omega,by omega⟩
 have h:∀ k,k < 33→ltP (mkQ (77+((k:Nat):Int)) 1).1 p77=false:=by decide +kernel
 exact h k hk
theorem maj_good (tol:RQ) {l:List QC} {q:QC} (hc:q.cur=curH l) (hp:q.price=p77) (hy:yardQ l=p77) (ht:tol=(mkQ 0 1).1):isGood (curH l) (yardQ l) tol q=true:=by
 unfold isGood
 rw [hc,hp,hy,ht,decide_eq_true rfl]
 kernel_rfl
theorem cm_cmpbl {l:List QC} (hl:∀ i q,l[i]? = some q→isCm i q):cmpbl l=l:=by
 unfold cmpbl curH
 rw [List.filter_eq_self]
 intro q hq
 obtain ⟨i,hi⟩:=List.getElem?_of_mem hq
 rw [(hl i q hi).cur]
 cases l with
 | nil=>simp at hi
 | cons z r=>rw [show (z :: r).headD noQ=z from rfl,(hl 0 z rfl).cur];simp
theorem cm_cur {l:List QC} (hl:∀ i q,l[i]? = some q→isCm i q) {q:QC} (hq:q∈l):q.cur=curH l:=by
 have:=hq
 rw [← cm_cmpbl hl] at this
 unfold cmpbl at this
 rw [List.mem_filter] at this
 simpa using this.2
theorem maj_yard {l:List QC} (hl:∀ i q,l[i]? = some q→isCm i q) (h1:1≤l.length) (h4:l.length≤4) (hm:∀ i q,l[i]? = some q→i < l.length / 2+1→q.price=p77):yardQ l=p77:=by
 unfold yardQ
 rw [cm_cmpbl hl]
 have l7:ltP p77 p77=false:=by kernel_rfl
 match l,hl,h1,h4,hm with
 | [a],hl,_,_,hm =>
  rw [List.map_cons,hm 0 a rfl (by simp)];rfl
 | [a,b],hl,_,_,hm =>
  rw [List.map_cons,List.map_cons,hm 0 a rfl (by simp),hm 1 b rfl (by simp)]
  simp only [List.map_nil,sortR,List.foldl,insR,l7,Bool.false_eq_true,if_false];rfl
 | [a,b,c],hl,_,_,hm =>
  rw [List.map_cons,List.map_cons,List.map_cons,hm 0 a rfl (by simp),hm 1 b rfl (by simp)]
  obtain ⟨x,hx,x1,x2⟩:=(hl 2 c rfl).pr
  have l8:=lt77 x1 x2
  rw [hx]
  generalize (mkQ x 1).1=A at *
  generalize p77=B at *
  simp only [List.map_nil,sortR,List.foldl,insR,l7,l8,Bool.false_eq_true,if_false];simp [midR]
 | [a,b,c,d],hl,_,_,hm =>
  rw [List.map_cons,List.map_cons,List.map_cons,List.map_cons,hm 0 a rfl (by simp),hm 1 b rfl (by simp),hm 2 c rfl (by simp)]
  obtain ⟨x,hx,x1,x2⟩:=(hl 3 d rfl).pr
  have l8:=lt77 x1 x2
  rw [hx]
  generalize (mkQ x 1).1=A at *
  generalize p77=B at *
  simp only [List.map_nil,sortR,List.foldl,insR,l7,l8,Bool.false_eq_true,if_false];simp [midR]
 | a :: b :: c :: d :: e :: r,_,_,h4,_=>simp at h4
theorem maj_ch {l:List QC} (hl:∀ i q,l[i]? = some q→isCm i q) (h1:1≤l.length) (h4:l.length≤4) (hm:∀ i q,l[i]? = some q→i < l.length / 2+1→q.price=p77):(selCh l (mkQ 0 1).1).price=p77∧(selBad l (mkQ 0 1).1).length≤l.length - (l.length / 2+1):=by
 have hy:=maj_yard hl h1 h4 hm
 have hg:∀ i q,l[i]? = some q→i < l.length / 2+1→isGood (curH l) (yardQ l) (mkQ 0 1).1 q=true:=fun i q hi h=>maj_good _ (cm_cur hl (List.mem_of_getElem? hi)) (hm i q hi h) hy rfl
 constructor
 ·unfold selCh
  obtain ⟨q,hq⟩:∃ q,l[0]? = some q:=⟨_,List.getElem?_eq_getElem (by omega)⟩
  cases l with
  | nil=>simp at hq
  | cons z r =>
   rw [List.find?_cons,hg 0 z rfl (by omega)]
   exact hm 0 z rfl (by omega)
 ·unfold selBad
  rw [List.length_map]
  generalize curH l=C at *
  generalize yardQ l=Y at *
  have e:l=l.take (l.length / 2+1)++l.drop (l.length / 2+1):=(List.take_append_drop _ _).symm
  have h2:(l.take (l.length / 2+1)).filter (fun q=>!isGood C Y (mkQ 0 1).1 q)=[]:=by
   rw [List.filter_eq_nil_iff]
   intro q hq
   obtain ⟨i,hi⟩:=List.getElem?_of_mem hq
   have hlt:i < l.length / 2+1:=by
    have:=(List.getElem?_eq_some_iff.1 hi).1
    simp at this;omega
   rw [List.getElem?_take_of_lt hlt] at hi
   rw [hg i q hi hlt];simp
  have h3:(l.filter (fun q=>!isGood C Y (mkQ 0 1).1 q)).length=((l.drop (l.length / 2+1)).filter (fun q=>!isGood C Y (mkQ 0 1).1 q)).length:=by
   conv=>lhs;rw [e]
   rw [List.filter_append,h2,List.nil_append]
  rw [h3]
  have:=List.length_filter_le (fun q=>!isGood C Y (mkQ 0 1).1 q) (l.drop (l.length / 2+1))
  rw [List.length_drop] at this
  exact this
theorem cmpP_in {n:Nat} {tol:RQ} (h:tol.In):(cmpP n tol).In:=⟨h,fun y hy=>by
 have:y∈src4:=List.mem_of_mem_take hy
 simp [src4] at this;rcases this with h | h | h | h<;>rw [h]<;>decide,by show (-9223372036854775808:Int)≤3∧(3:Int)≤9223372036854775807;decide⟩
theorem tol3_in {tol:RQ} (h:tol∈tol3):tol.In:=by
 simp only [tol3,List.mem_cons,List.not_mem_nil,or_false] at h
 rcases h with rfl | rfl | rfl<;>exact mkQ_in _ _
theorem selectorMajority_f {v:Value} {zs:List Int} (w:World) (hv:Tp (envC Tryz.prog tt Tryz.f8.ntmps w [] []).toEnv v zs):Calls Tryz.prog 8 #[v] w fun e w'=>e=.returned (.bool true)∧Below w.heap.size w w':=by
 refine sx_atX [] tt_ok mixed at8 [v] _ w rfl ?_
 have hv0:=hv
 obtain ⟨a,cap,rfl,-⟩:=hv0
 refine ⟨_,fill_tape a zs.length cap rfl,rfl,?_⟩
 generalize hvv:Value.slice a zs.length cap=v at *
 refine .inr (.inr (.inr ⟨[(1000,12)],[3000,9101],[_],[_],_,comparable_z rfl hv (k:=0) (by omega),rfl,⟨rfl,trivial⟩,rfl,trivial,?_⟩))
 rintro x U ⟨l,tol,y,z,n,k1,h1,h2,hn1,hn4,hl,hls,ht,hy,hz,rfl,rfl⟩
 refine ⟨rfl,?_⟩
 have hcm:∀ i q,l[i]? = some q→isCm i q:=fun i q h=>(hls i q h).cm
 have M0:=made_of (n:=0) (d:=1) (by decide) (by decide) (by decide) (by decide)
 have M7:=made_of (n:=77) (d:=1) (by decide) (by decide) (by decide) (by decide)
 have PF:=(cmpP n tol).fits (v:=z) (by obtain ⟨a1,c1,rfl⟩:=hz.len;rfl)
 have PS:=PL.settol (cmpP n tol) z (mkQ 0 1).1
 rw [show ({ (cmpP n tol) with tol:=(mkQ 0 1).1 }:PL)=cmpP n (mkQ 0 1).1 from rfl] at PS
 have PF2:=(cmpP n (mkQ 0 1).1).fits (v:=z) (by obtain ⟨a1,c1,rfl⟩:=hz.len;rfl)
 generalize (cmpP n tol).A z=PA at *
 rcases hy with ⟨hq,hq2⟩ | ⟨gy,yc,hq⟩
 ·omega
 subst hq
 refine ⟨PF,.inl ⟨_,M0,?_⟩⟩
 refine ⟨by decide,RQ.A_fits _,_,PS,?_⟩
 refine ⟨_,fun w' _=>run_len_sl Tryz.underlying22 w',?_⟩
 obtain ⟨mm,hmm⟩:∃ mm:Nat,mm=n / 2+1:=⟨_,rfl⟩
 have eM:IntKind.i64.wrap (IntKind.i64.wrap (((n:Nat):Int).tdiv 2)+1)=(mm:Int):=by
  rw [Int.tdiv_eq_ediv_of_nonneg (by omega),i64_in (show -9223372036854775808≤((n:Nat):Int) / 2∧((n:Nat):Int) / 2≤9223372036854775807 by omega),i64_in (by omega)];omega
 refine ⟨by decide,?_⟩
 refine ⟨fun q f m=>∃ (i:Nat) (l2:List QC),q=mm - i∧i≤mm∧l2.length=n∧(∀ j q,l2[j]? = some q→isCm j q∧(j < i→q.price=p77))∧f=[(4,SV.c (.slice (some ⟨gy,0,none⟩) n yc)),(5,SV.ptr 5 0),(6,SV.c (.int .i64 (mm:Nat))),(7,SV.c (.int .i64 (i:Nat)))]∧m=[(5,Blk.row 31 68 ((cmpP n (mkQ 0 1).1).A z)),(3000,Blk.own (.slice (some ⟨gy,0,none⟩) n yc) 40 72 n (cat QC.A l2)),(9101,Blk.own z 9 1 n (cat strA (cmpP n tol).srcs))],mm,⟨_,_,⟨0,l,rfl,by omega,hl,fun j q h=>⟨hcm j q h,fun h=>absurd h (by omega)⟩,rfl,rfl⟩,⟨rfl,rfl,c_int eM,rfl,trivial⟩,⟨rfl,.inl rfl,.inl rfl,trivial⟩,rfl⟩,?_⟩
 rintro q f m ⟨i,l2,rfl,hi,hl2,hls2,rfl,rfl⟩
 refine ⟨fun h=>?_,fun h=>?_⟩
 ·have h:i < mm:=by have:=of_decide_eq_true h;omega
  have hin2:i < n:=by omega
  obtain ⟨q0,hq0⟩:∃ q,l2[i]? = some q:=⟨_,List.getElem?_eq_getElem (by omega)⟩
  refine .inl ⟨_,M7,by omega,by omega,?_⟩
  have j1:i*72+4+66≤(cat QC.A l2).size:=by
   rw [Go.SX.cat_size QC.size]
   have:i*72+72≤l2.length*72:=by
    have:=Nat.mul_le_mul_right 72 (show i+1≤l2.length by omega)
    omega
   omega
  have eo:offAt 0 ((i:Nat):Int) ti40.size+4=i*72+4:=by rw [off72]
  have st:splice (cat QC.A l2) (i*72+4) (mkQ 77 1).1.A.toList=cat QC.A (l2.set i { q0 with price:=(mkQ 77 1).1 }):=cat_splice QC.size hq0 (by rw [show (mkQ 77 1).1.A.toList.length=66 from RQ.A_size _];decide) (QC.setpri q0 _)
  refine ⟨3000,gy,_,n,_,_,_,_,rfl,rfl,by rw [eo];exact j1,RQ.A_fits _,cat QC.A (l2.set i { q0 with price:=(mkQ 77 1).1 }),by rw [eo];exact st,?_⟩
  refine ⟨mm - (i+1),_,_,by omega,⟨i+1,l2.set i { q0 with price:=(mkQ 77 1).1 },rfl,by omega,by rw [List.length_set];exact hl2,?_,rfl,rfl⟩,⟨rfl,rfl,rfl,c_int (i64_succ (by omega)),trivial⟩,⟨rfl,.inl rfl,.inl rfl,trivial⟩,rfl⟩
  intro j q hj
  by_cases e:j=i
  ·subst e
   rw [List.getElem?_set_self (by omega)] at hj
   cases hj
   have c:=(hls2 j q0 hq0).1
   exact ⟨⟨c.src,c.ins,c.cur,c.d1,c.d2,c.kn,c.vo,77,rfl,by omega,by omega⟩,fun _=>rfl⟩
  ·rw [List.getElem?_set_ne (by omega)] at hj
   exact ⟨(hls2 j q hj).1,fun h=>(hls2 j q hj).2 (by omega)⟩
 ·have h:i=mm:=by have:=of_decide_eq_false h;omega
  subst h
  have hl3:∀ j q,l2[j]? = some q→isCm j q:=fun j q h=>(hls2 j q h).1
  have hin:∀ q∈l2,q.In:=fun q hq=>by
   obtain ⟨j,hj⟩:=List.getElem?_of_mem hq
   exact (hl3 j q hj).inn
  have t0:(mkQ 0 1).1∈tol3:=by simp [tol3]
  obtain ⟨e1,e2⟩:=cm_cands hl3 hl2 hn1 hn4 t0
  obtain ⟨e3,e4⟩:=maj_ch hl3 (by omega) (by omega) (fun j q hj hlt=>(hls2 j q hj).2 (by omega))
  have hz2:n=(cmpP n (mkQ 0 1).1).srcs.length:=by
   show n=(src4.take n).length
   rw [List.length_take];show n=min n 4;omega
  have X1:=select_own (E:=(envC Tryz.prog tt Tryz.f8.ntmps w [] []).toEnv) rfl (x:=.slice (some ⟨gy,0,none⟩) n yc) (y:=z) (xs:=l2) (p:=cmpP n (mkQ 0 1).1) (nx:=n) (ny:=n) hl2.symm hz2 (by omega) (by omega) hin (cmpP_in (mkQ_in _ _)) 99 acme 9497
  refine .inr (.inr (.inr ⟨[(9200,3000)],[9000],[_,_,_,_,_],[_,_],_,X1,rfl,⟨.inl rfl,.inl rfl,trivial⟩,rfl,trivial,?_⟩))
  rintro r1 U1 ⟨U0,⟨s1,n1,hn1',rfl,hs1,rfl⟩,rfl⟩
  refine ⟨rfl,?_⟩
  rw [show (cmpP n (mkQ 0 1).1).tol=(mkQ 0 1).1 from rfl,e1] at hn1' ⊢
  rw [e2]
  obtain ⟨sa1,sc1,rfl⟩:=hs1.len
  have CF1:=(selCh l2 (mkQ 0 1).1).fits (a:=sa1) (n:=n1) (c:=sc1)
  have C14:=(selCh l2 (mkQ 0 1).1).g4 (.slice sa1 n1 sc1)
  have C13:=CH.g3 (selCh l2 (mkQ 0 1).1) (.slice sa1 n1 sc1)
  have hr1:(selCh l2 (mkQ 0 1).1).price.A=(mkQ 77 1).1.A:=by rw [e3];rfl
  rw [hr1] at C13
  generalize (selCh l2 (mkQ 0 1).1).A (.slice sa1 n1 sc1)=CA1 at *
  refine ⟨CF1,.inl ⟨_,known_f,?_⟩⟩
  refine ⟨fun _=>?_,fun h=>absurd h (by decide)⟩
  refine ⟨fun _=>?_,fun h=>absurd h (by decide)⟩
  refine ⟨by decide,_,C13,?_⟩
  refine .inl ⟨_,M7,?_⟩
  refine ⟨_,eqs_ratio rfl (mkQ_in _ _),fun _=>?_,fun c=>absurd c (by decide)⟩
  refine ⟨_,C14,_,fun w' _=>run_len_sl Tryz.underlying23 w',_,fun w' _=>run_len_sl Tryz.underlying22 w',?_⟩
  have e5:decide ((n1:Int)≤IntKind.i64.wrap ((n:Int) - (i:Int)))=true:=by
   rw [i64_in (by omega)]
   exact decide_eq_true (by omega)
  exact ⟨by kernel_rfl,by rw [e5];rfl,trivial⟩
def atF (src ins:List UInt8) (day:Int) (q:QC):Bool:=decide (q.src=src) && (decide (q.ins=ins) && decide (q.day=day))
def atO (xs:List QC) (k:Int) (src ins:List UInt8) (day:Int):Option QC:=(visQs xs k).find? (atF src ins day)
theorem at_r {E:Env} (hE:E.P=Tryz.prog) {v:Value} {k:Int} {xs:List QC} (hv:Lst E v 72 xs.length (cat QC.A xs)) (hn:xs.length≤1000000000000) (hin:∀ y∈xs,y.In) (src ins:List UInt8) (day:Int):OwnC E 36 [SV.c v,SV.c (.int .i64 k),SV.c (.string (S src)),SV.c (.string (S ins)),SV.c (.int .i64 day)] [] (fun x U=>x=.tuple #[.agg ((atO xs k src ins day).getD noQ).A,.bool (atO xs k src ins day).isSome,.int .i64 (chkQ xs)]∧U=[]):=by
 refine sx_ownC [] tt_ok mixed at36 E hE [SV.c v,SV.c (.int .i64 k),SV.c (.string (S src)),SV.c (.string (S ins)),SV.c (.int .i64 day)] [] _ rfl rfl fun w X β hT=>?_
 have hv':=hv.of_old hT
 have V1:=vis_qr (k:=k) rfl hv' hn hin
 obtain ⟨a,cap,rfl,hc,h4⟩:=hv'.shape
 refine .inr (.inr (.inr ⟨[],[3000],[_,_],[],_,V1,rfl,trivial,rfl,trivial,?_⟩))
 rintro x U ⟨s,n,hnn,rfl,hs,rfl⟩
 refine ⟨rfl,?_⟩
 have hvl:(visQs xs k).length≤1000000000000:=by
  unfold visQs
  split
  ·exact Nat.le_trans (List.length_filterMap_le _ _) (Nat.le_trans (visNQ_len xs k) hn)
  ·simp
 have hve:chkQ xs≠0→visQs xs k=[]:=fun h=>by unfold visQs;rw [if_neg h]
 refine ⟨fun h=>?_,fun h=>?_⟩
 ·have h:chkQ xs≠0:=by intro e;rw [e] at h;exact absurd h (by decide)
  have e:atO xs k src ins day=none:=by unfold atO;rw [hve h];rfl
  refine ⟨(noQ).A,noQ_A ▸ rfl,?_⟩
  exact ⟨noQ.fits,[],[],⟨by rw [e];rfl,rfl⟩,trivial,rfl⟩
 ·have hck:chkQ xs=0:=by
    by_cases e:chkQ xs=0
    ·exact e
    ·exact absurd ((show (chkQ xs != 0)=true by simp [e]).symm.trans h) (by decide)
  unfold atO
  generalize hL:visQs xs k=L at *
  generalize hCK:chkQ xs=CK at *
  refine ⟨fun q f m=>∃ (i:Nat),q=n - i∧i≤n∧(∀ (j:Nat) (y:QC),j < i→L[j]? = some y→atF src ins day y=false)∧f=[(2,SV.c (.string (S src))),(3,SV.c (.string (S ins))),(4,SV.c (.int .i64 day)),(10,SV.ptr 10 0),(13,SV.c s),(15,SV.c (.int .i64 (i:Nat)))]∧m=[(10,Blk.row 40 72 noQ.A),(3000,Blk.own s 40 72 n (cat QC.A L))],n,⟨_,_,⟨0,by omega,by omega,fun j y h=>by omega,rfl,rfl⟩,⟨rfl,rfl,rfl,rfl,rfl,rfl,trivial⟩,⟨congrArg (fun A=>some (Blk.row 40 72 A)) noQ_A.symm,.inl rfl,trivial⟩,rfl⟩,?_⟩
  rintro q f m ⟨i,rfl,hi,hok,rfl,rfl⟩
  obtain ⟨sa,sc,rfl⟩:=hs.len
  refine ⟨_,fun w' _=>run_len_sl Tryz.underlying22 w',fun h=>?_,fun h=>?_⟩
  ·have h:i < n:=by have:=of_decide_eq_true h;omega
   rcases hs with ⟨hq,hq2⟩ | ⟨gx,xc2,hq⟩
   ·omega
   cases hq
   obtain ⟨y,hy⟩:∃ y,L[i]? = some y:=⟨_,List.getElem?_eq_getElem (by omega)⟩
   have g0:(cat QC.A L)[i*72+0]? = some (.string (S y.src)):=by rw [cat_get QC.size L i y 0 hy (by decide)];exact y.g0
   have g1:(cat QC.A L)[i*72+1]? = some (.string (S y.ins)):=by rw [cat_get QC.size L i y 1 hy (by decide)];exact y.g1
   have g3:(cat QC.A L)[i*72+3]? = some (.int .i64 y.day):=by rw [cat_get QC.size L i y 3 hy (by decide)];exact y.g3
   have gA:=cat_extract QC.size hy
   have yF:=y.fits
   have jb:i*72+72≤(cat QC.A L).size:=by
    rw [Go.SX.cat_size QC.size]
    have:=Nat.mul_le_mul_right 72 (show i+1≤L.length by omega)
    omega
   have s0:((S y.src).toList == (S src).toList)=decide (y.src=src):=S_beq _ _
   have s1:((S y.ins).toList == (S ins).toList)=decide (y.ins=ins):=S_beq _ _
   have nx:atF src ins day y=false→∀ (j:Nat) (z:QC),j < i+1→L[j]? = some z→atF src ins day z=false:=fun hf j z hj hz=>by
    rcases Nat.lt_or_ge j i with h9 | h9
    ·exact hok j z h9 hz
    ·have:j=i:=by omega
     subst this
     rw [hy] at hz;cases hz
     exact hf
   refine ⟨by omega,by omega,.inr ⟨3000,gx,_,n,_,_,_,_,rfl,rfl,.string (S y.src),(by rw [off72];exact g0),fun c1=>?_,fun c1=>?_⟩⟩
   ·refine ⟨by omega,by omega,.inr ⟨3000,gx,_,n,_,_,_,_,rfl,rfl,.string (S y.ins),(by rw [off72];exact g1),fun c2=>?_,fun c2=>?_⟩⟩
    ·refine ⟨by omega,by omega,.inr ⟨3000,gx,_,n,_,_,_,_,rfl,rfl,.int .i64 y.day,(by rw [off72];exact g3),fun c3=>?_,fun c3=>?_⟩⟩
     ·have f0:L.find? (atF src ins day)=some y:=by
        have hl:L=L.take i++y :: L.drop (i+1):=by rw [← drop_at hy,List.take_append_drop]
        have p1:(L.take i).find? (atF src ins day)=none:=by
         rw [List.find?_eq_none]
         intro z hz
         obtain ⟨j,hj⟩:=List.getElem?_of_mem hz
         have hji:j < i:=by
          have:=(List.getElem?_eq_some_iff.1 hj).1
          simp at this;omega
         rw [List.getElem?_take_of_lt hji] at hj
         rw [hok j z hji hj];simp
        have p2:atF src ins day y=true:=by
         unfold atF
         rw [← s0,c1,← s1,c2,show decide (y.day=day)=(y.day == day) from by simp [BEq.beq],c3];rfl
        rw [hl,List.find?_append,p1,List.find?_cons,p2];rfl
      refine ⟨by omega,by omega,.inr ⟨3000,gx,_,n,_,_,_,_,rfl,rfl,by rw [off72];exact jb,y.A,(by rw [off72];exact gA),yF,?_⟩⟩
      exact ⟨[],[],⟨by rw [f0,hck];rfl,rfl⟩,trivial,rfl⟩
     ·have c3:(y.day == day)=false:=c3
      exact ⟨n - (i+1),_,_,by omega,⟨i+1,rfl,by omega,nx (by unfold atF;rw [show decide (y.day=day)=(y.day == day) from by simp [BEq.beq],c3];simp),rfl,rfl⟩,⟨rfl,rfl,rfl,rfl,rfl,c_int (i64_succ (by omega)),trivial⟩,⟨rfl,.inl rfl,trivial⟩,rfl⟩
    ·have c2:((S y.ins).toList == (S ins).toList)=false:=c2
     refine ⟨fun h=>absurd h (by decide),fun _=>?_⟩
     exact ⟨n - (i+1),_,_,by omega,⟨i+1,rfl,by omega,nx (by unfold atF;rw [← s1,c2];simp),rfl,rfl⟩,⟨rfl,rfl,rfl,rfl,rfl,c_int (i64_succ (by omega)),trivial⟩,⟨rfl,.inl rfl,trivial⟩,rfl⟩
   ·have c1:((S y.src).toList == (S src).toList)=false:=c1
    refine ⟨fun h=>absurd h (by decide),fun _=>⟨fun h=>absurd h (by decide),fun _=>?_⟩⟩
    exact ⟨n - (i+1),_,_,by omega,⟨i+1,rfl,by omega,nx (by unfold atF;rw [← s0,c1];simp),rfl,rfl⟩,⟨rfl,rfl,rfl,rfl,rfl,c_int (i64_succ (by omega)),trivial⟩,⟨rfl,.inl rfl,trivial⟩,rfl⟩
  ·have h:i=n:=by have:=of_decide_eq_false h;omega
   subst h
   have e:L.find? (atF src ins day)=none:=by
    rw [List.find?_eq_none]
    intro y hy
    obtain ⟨j,hj⟩:=List.getElem?_of_mem hy
    rw [hok j y (by have:=(List.getElem?_eq_some_iff.1 hj).1;omega) hj];simp
   refine ⟨noQ.A,noQ_A ▸ rfl,noQ.fits,[],[],⟨by rw [e,hck];rfl,rfl⟩,trivial,rfl⟩
theorem at_own {E:Env} (hE:E.P=Tryz.prog) {x:Value} {k:Int} {xs:List QC} {nx:Nat} (hx:nx=xs.length) (hn:nx≤1000000000000) (hin:∀ y∈xs,y.In) (src ins:List UInt8) (day:Int):OwnC E 36 [SV.c x,SV.c (.int .i64 k),SV.c (.string (S src)),SV.c (.string (S ins)),SV.c (.int .i64 day)] [(9200,Blk.own x 40 72 nx (cat QC.A xs))] (fun r U=>r=.tuple #[.agg ((atO xs k src ins day).getD noQ).A,.bool (atO xs k src ins day).isSome,.int .i64 (chkQ xs)]∧U=[(9200,Blk.own x 40 72 nx (cat QC.A xs))]):=by
 subst hx
 refine (OwnC.with_own (k:=9200) (v:=x) (e:=40) (sz:=72) (n:=xs.length) (A:=cat QC.A xs) (pre:=[]) rfl rfl (Go.SX.cat_all QC.all1 xs) (by rw [hE];exact at36.enters) (fun E0 h hl1=>at_r (h.trans hE) hl1 hn hin src ins day) (fun x U h=>by rw [h.2];rfl)).mono ?_
 rintro r U ⟨U0,⟨h1,rfl⟩,rfl⟩
 exact ⟨h1,rfl⟩
end Go.Proofs.YtinojijgeabfnaaGreatDoor
