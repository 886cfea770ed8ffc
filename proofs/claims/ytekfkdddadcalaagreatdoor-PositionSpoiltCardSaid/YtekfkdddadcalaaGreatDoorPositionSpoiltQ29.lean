/- books of entries, the reference: valid, marks, Check, Visibl; no condition. -/
import Derived.Test.YtekfkdddadcalaaGreatDoorPositionSpoiltQ28
set_option maxRecDepth 100000
set_option maxHeartbeats 4000000
namespace Go.Proofs.YtekfkdddadcalaaGreatDoor
open Go Go.RowKit Go.SX
theorem Ga (n:Int):ax Tryz.prog 99 [SV.c (.int .i64 n)] (.bool (!inB n (-1000000000000000) 1000000000000000)):=by
 refine aj af ah Mx _ _ rfl rfl fun w=>?_
 refine ⟨fun h=>?_,fun h=>?_⟩
 ·have h:=ae (show decide (n > 1000000000000000)=false from h)
  refine ⟨bv ?_,trivial⟩
  unfold inB
  rw [decide_eq_true (show n<=1000000000000000 by omega),Bool.and_true]
  by_cases c:n < -1000000000000000
  ·rw [decide_eq_true c,decide_eq_false (by omega)];rfl
  ·rw [decide_eq_false c,decide_eq_true (by omega)];rfl
 ·have h:=ab (show decide (n > 1000000000000000)=true from h)
  refine ⟨bv ?_,trivial⟩
  unfold inB
  rw [decide_eq_false (show ¬ n<=1000000000000000 by omega),Bool.and_false];rfl
theorem A6 {a:EC} (ha:a.In):ax Tryz.prog 76 [SV.c (.agg a.A)] (.bool (aV a)):=by
 refine aj af ah MS _ _ rfl rfl fun w=>?_
 have no:iL a=false->dW [.bool false]=.bool (aV a):=fun h=>by rw [aV,h];rfl
 have len:∀ (E:Env),E.P=Tryz.prog->∀ (ty:TypeId) (l:List UInt8) (cs:Array Bool) (w:World),OldW E w->(builtin .len #[9] ty cs #[.string (S l)]).run E.P w=.ok (.value (.int .i64 (l.length:Nat))) w:=fun E hE ty l cs w _=>by rw [hE];exact aw Tryz.underlying9 w
 refine ⟨a.size,_,a.g1,_,len _ rfl _ _ _,fun h1=>⟨_,a.g1,_,len _ rfl _ _ _,fun h2=>⟨_,a.g8,fun h3=>⟨_,a.g8,fun h4=>?_,fun h4=>?_⟩,fun h3=>?_⟩,fun h2=>?_⟩,fun h1=>?_⟩
 ·have h4:=ab (show decide (a.known > 2147483647)=true from h4)
  refine ⟨no ?_,trivial⟩
  unfold iL inB;rw [decide_eq_false (show ¬ a.known<=2147483647 by omega)];simp
 ·have h1:=ae (show decide (((a.key.length:Nat):Int) < 1)=false from h1)
  have h2:=ae (show decide (((a.key.length:Nat):Int) > 64)=false from h2)
  have h3:=ae (show decide (a.known < 1)=false from h3)
  have h4:=ae (show decide (a.known > 2147483647)=false from h4)
  have hh:iL a=true:=by unfold iL inB;rw [decide_eq_true (by omega),decide_eq_true (by omega),decide_eq_true (by omega),decide_eq_true (by omega)];rfl
  have va:aV a=(if a.void then a.beq (.nil a.key a.known) else dh a && dD a):=by rw [aV,hh,Bool.true_and]
  rw [va]
  refine ⟨_,a.g9,fun h5=>?_,fun h5=>?_⟩
  ·have h5:a.void=true:=h5
   rw [if_pos h5]
   exact ⟨_,a.g1,_,a.g8,_,f4 a.key a.known rfl,_,rp rfl a (.nil a.key a.known),rfl,trivial⟩
  ·have h5:¬ (a.void=true):=by intro e;rw [e] at h5;cases h5
   rw [if_neg h5]
   have nob:dh a=false->dW [.bool false]=.bool (dh a && dD a):=fun h=>by rw [h];rfl
   have hc:=Dt a.cur ha.cur
   have hi:=sm a.ins ha.ins
   refine ⟨_,a.g2,.inl ⟨_,x6 _,fun q1=>⟨_,a.g3,.inl ⟨_,x6 _,fun q2=>⟨_,a.g3,_,a.g2,fun q3=>⟨_,a.g6,.inl ⟨_,Ga _,fun q4=>⟨_,a.g7,.inl ⟨_,hc,fun q5=>?_,fun q5=>?_⟩⟩,fun q4=>?_⟩⟩,fun q3=>?_⟩,fun q2=>?_⟩⟩,fun q1=>?_⟩⟩
   ·have q5:dL a.cur=false:=bnt q5
    refine ⟨nob ?_,trivial⟩
    unfold dh;rw [q5];simp
   ·have q5:dL a.cur=true:=bR q5
    have q1:=Bool.or_eq_false_iff.mp (show (decide (a.day < 0) || decide (a.day > 73048))=false from q1)
    have q2:=Bool.or_eq_false_iff.mp (show (decide (a.settle < 0) || decide (a.settle > 73048))=false from q2)
    have p1:=ae q1.1
    have p2:=ae q2.2
    have q3:=ae (show decide (a.settle < a.day)=false from q3)
    have q4:inB a.amt (-1000000000000000) 1000000000000000=true:=bR q4
    have hb:dh a=true:=by
     unfold dh;rw [q4,q5,decide_eq_true (show a.settle<=73048 by omega)];unfold inB;rw [decide_eq_true (show 0<=a.day by omega),decide_eq_true (show a.day<=a.settle by omega)];rfl
    rw [hb,Bool.true_and]
    have ens:((S a.ins).toList == (S []).toList)=decide (a.ins=[]):=dN _ _
    refine ⟨_,a.g0,fun k1=>⟨_,a.g4,.inl ⟨_,hi,fun e1=>⟨_,a.g5,fun e2=>⟨_,a.g5,fun e3=>⟨_,a.g5,bv ?_,trivial⟩,fun e3=>⟨bv ?_,trivial⟩⟩,fun e2=>⟨nofun,fun _=>⟨bv ?_,trivial⟩⟩⟩,fun e1=>⟨nofun,fun _=>⟨nofun,fun _=>⟨bv ?_,trivial⟩⟩⟩⟩⟩,fun k1=>⟨fun k2=>⟨_,a.g4,fun e1=>⟨_,a.g5,bv ?_,trivial⟩,fun e1=>⟨bv ?_,trivial⟩⟩,fun k2=>⟨bv ?_,trivial⟩⟩⟩
    ·have k1:a.kind=1:=by simpa using k1
     have e1:cC a.ins=true:=e1
     have e2:(a.qty != 0)=true:=e2
     have e3:decide (a.qty<=1000000000000000)=true:=e3
     unfold dD inB;rw [if_pos k1,e1,show (a.qty == 0)=false by simpa using e2,e3,Bool.and_true];rfl
    ·have k1:a.kind=1:=by simpa using k1
     have e3:decide (a.qty<=1000000000000000)=false:=e3
     unfold dD inB;rw [if_pos k1,e3];simp
    ·have k1:a.kind=1:=by simpa using k1
     have e2:(a.qty != 0)=false:=e2
     unfold dD;rw [if_pos k1,show (a.qty == 0)=true by simpa using e2];simp
    ·have k1:a.kind=1:=by simpa using k1
     have e1:cC a.ins=false:=e1
     unfold dD;rw [if_pos k1,e1];rfl
    ·have k1:¬ a.kind=1:=by intro e;rw [e] at k1;simp at k1
     have k2:a.kind=2:=by simpa using k2
     have e1:=ens.symm.trans e1
     unfold dD;rw [if_neg k1,if_pos k2,e1];rfl
    ·have k1:¬ a.kind=1:=by intro e;rw [e] at k1;simp at k1
     have k2:a.kind=2:=by simpa using k2
     have e1:=ens.symm.trans e1
     unfold dD;rw [if_neg k1,if_pos k2,e1];rfl
    ·have k1:¬ a.kind=1:=by intro e;rw [e] at k1;simp at k1
     have k2:¬ a.kind=2:=by intro e;rw [e] at k2;simp at k2
     unfold dD;rw [if_neg k1,if_neg k2]
   ·have q4:inB a.amt (-1000000000000000) 1000000000000000=false:=bnt q4
    refine ⟨fun _=>⟨nob ?_,trivial⟩,nofun⟩
    unfold dh;rw [q4];simp
   ·have q3:=ab (show decide (a.settle < a.day)=true from q3)
    refine ⟨nofun,fun _=>⟨fun _=>⟨nob ?_,trivial⟩,nofun⟩⟩
    unfold dh inB;rw [decide_eq_false (show ¬ a.day<=a.settle by omega)];simp
   ·have q2:(decide (a.settle < 0) || decide (a.settle > 73048))=true:=q2
    have q1:=Bool.or_eq_false_iff.mp (show (decide (a.day < 0) || decide (a.day > 73048))=false from q1)
    have p1:=ae q1.1
    refine ⟨nofun,fun _=>⟨nofun,fun _=>⟨fun _=>⟨nob ?_,trivial⟩,nofun⟩⟩⟩
    unfold dh inB
    rcases Bool.or_eq_true_iff.mp q2 with q2 | q2
    ·have q2:=ab q2
     rw [decide_eq_false (show ¬ a.day<=a.settle by omega)];simp
    ·have q2:=ab q2
     rw [decide_eq_false (show ¬ a.settle<=73048 by omega)];simp
   ·have q1:(decide (a.day < 0) || decide (a.day > 73048))=true:=q1
    refine ⟨nofun,fun _=>⟨nofun,fun _=>⟨nofun,fun _=>⟨fun _=>⟨nob ?_,trivial⟩,nofun⟩⟩⟩⟩
    unfold dh inB
    rcases Bool.or_eq_true_iff.mp q1 with q1 | q1
    ·have q1:=ab q1
     rw [decide_eq_false (show ¬ 0<=a.day by omega)];simp
    ·have q1:=ab q1
     by_cases c:a.day<=a.settle
     ·rw [decide_eq_false (show ¬ a.settle<=73048 by omega)];simp
     ·rw [decide_eq_false c];simp
 ·have h3:=ab (show decide (a.known < 1)=true from h3)
  refine ⟨fun _=>⟨no ?_,trivial⟩,nofun⟩
  unfold iL inB;rw [decide_eq_false (show ¬ 1<=a.known by omega)];simp
 ·have h2:=ab (show decide (((a.key.length:Nat):Int) > 64)=true from h2)
  refine ⟨nofun,fun _=>⟨fun _=>⟨no ?_,trivial⟩,nofun⟩⟩
  unfold iL inB;rw [decide_eq_false (show ¬ ((a.key.length:Nat):Int)<=64 by omega)];simp
 ·have h1:=ab (show decide (((a.key.length:Nat):Int) < 1)=true from h1)
  refine ⟨nofun,fun _=>⟨nofun,fun _=>⟨fun _=>⟨no ?_,trivial⟩,nofun⟩⟩⟩
  unfold iL inB;rw [decide_eq_false (show ¬ (1:Int)<=((a.key.length:Nat):Int) by omega)];simp
theorem pw {E:Env} (hE:E.P=Tryz.prog) {v:Value} {xs:List EC} (hv:Lst E v 10 xs.length (cat EC.A xs)) (hn:xs.length<=2000000000000):OwnC E 65 [SV.c v] [] (AT 2000 143 3 xs.length (cat MK.A (xs.map mkE))):=by
 refine av [] af ah M4 E hE [SV.c v] [] _ rfl rfl fun w X β hT=>?_
 obtain ⟨a,cap,rfl,hc,h4⟩:=(hv.of_old hT).shape
 refine ⟨fun q f m=>∃ (i:Nat) (x:Value),q=xs.length - i/\i<=xs.length/\IsL x i/\f=[(0,SV.c (.slice a xs.length cap)),(3,SV.c x),(4,SV.c (.int .i64 (i:Nat)))]/\m=[(2000,Blk.own x 143 3 i (cat MK.A ((xs.take i).map mkE)))],xs.length,⟨_,_,⟨0,.slice none 0 0,by omega,by omega,.nil,rfl,rfl⟩,⟨rfl,rfl,rfl,trivial⟩,⟨.inr ⟨rfl,rfl,rfl⟩,trivial⟩,rfl⟩,?_⟩
 rintro q f m ⟨i,x,rfl,hi,hx,rfl,rfl⟩
 refine ⟨_,fun w' _=>am Tryz.underlying26 w',fun h=>?_,fun h=>?_⟩
 ·have h:i < xs.length:=by have:=ab h;omega
  obtain ⟨b,o,rfl,h5⟩:=h4 (by omega)
  obtain ⟨y,hy⟩:∃ y,xs[i]? = some y:=⟨_,List.getElem?_eq_getElem h⟩
  have hE':VOk (aR Tryz.prog tt Tryz.f65.ntmps w X (aA [] β)):=af
  have L1:=cU hE' h5 EC.size hy y.g1 (ty:=9) (ti:=ti9) rfl rfl (p:=o+(i:Int).toNat*10+1) rfl
  have L2:=cU hE' h5 EC.size hy y.g8 (ty:=3) (ti:=ti3) rfl rfl (p:=o+(i:Int).toNat*10+8) rfl
  have L3:=cU hE' h5 EC.size hy y.g9 (ty:=4) (ti:=ti4) rfl rfl (p:=o+(i:Int).toNat*10+9) rfl
  refine ⟨by omega,by omega,.inl ⟨_,L1,by omega,by omega,.inl ⟨_,L2,by omega,by omega,.inl ⟨_,L3,_,jP (mkE y) rfl,?_⟩⟩⟩⟩
  refine .inl ⟨by decide,by decide,_,iM (mkE y),rfl,by decide,2000,i,_,.inl rfl,by decide,(mkE y).one,rfl,_,(mkE y).ext3,?_⟩
  obtain ⟨q,hq,hb⟩:=jN
  refine ⟨by omega,by unfold maxLen;omega,⟨q,hq,by rw [hb];omega⟩,by change _=true;kernel_rfl,fun g2 cap2=>⟨by kernel_rfl,?_⟩⟩
  exact ⟨xs.length - (i+1),_,_,by omega,⟨i+1,_,rfl,by omega,.some,rfl,rfl⟩,⟨rfl,rfl,ag (au (by omega)),trivial⟩,⟨.inl (aC (mE mkE MK.A hy)),trivial⟩,rfl⟩
 ·have h:i=xs.length:=by have:=ae h;omega
  subst h
  rw [List.take_length]
  exact ⟨[(2000,Blk.own x 143 3 xs.length (cat MK.A (xs.map mkE)))],[],⟨hx,rfl⟩,⟨.inl rfl,trivial⟩,rfl⟩
theorem qc {E:Env} (hE:E.P=Tryz.prog) {v:Value} {xs:List EC} (hv:Lst E v 10 xs.length (cat EC.A xs)) (hn:xs.length<=2000000000000) (hin:∀ y∈xs,y.In):OwnC E 34 [SV.c v] [] (fun x U=>x=.int .i64 (cP xs)/\U=[]):=by
 refine av [] af ah Ns E hE [SV.c v] [] _ rfl rfl fun w X β hT=>?_
 have hv':=hv.of_old hT
 have M1:=pw rfl hv' hn
 obtain ⟨a,cap,rfl,hc,h4⟩:=hv'.shape
 refine ⟨fun q f m=>∃ (i:Nat),q=xs.length - i/\i<=xs.length/\(∀ (j:Nat) (y:EC),j < i->xs[j]? = some y->aV y=true)/\f=[(0,SV.c (.slice a xs.length cap)),(3,SV.c (.int .i64 (i:Nat)))]/\m=[],xs.length,⟨_,_,⟨0,by omega,by omega,fun j y h=>by omega,rfl,rfl⟩,⟨rfl,rfl,trivial⟩,trivial,rfl⟩,?_⟩
 rintro q f m ⟨i,rfl,hi,hok,rfl,rfl⟩
 refine ⟨_,fun w' _=>am Tryz.underlying26 w',fun h=>?_,fun h=>?_⟩
 ·have h:i < xs.length:=by have:=ab h;omega
  obtain ⟨b,o,rfl,h5⟩:=h4 (by omega)
  obtain ⟨y,hy⟩:∃ y,xs[i]? = some y:=⟨_,List.getElem?_eq_getElem h⟩
  have hE':VOk (aR Tryz.prog tt Tryz.f34.ntmps w X (aA [] β)):=af
  have L1:=bF hE' h5 EC.size hy (ty:=31) (ti:=dE) rfl rfl rfl (p:=o+(i:Int).toNat*10) rfl
  have V1:=A6 (hin y (List.mem_of_getElem? hy))
  generalize hY:y.A=YA at L1 V1
  refine ⟨by omega,by omega,.inl ⟨_,L1,.inl ⟨_,V1,fun c1=>?_,fun c1=>?_⟩⟩⟩
  ·have c1:(!aV y)=true:=c1
   have c1:aV y=false:=by simpa using c1
   exact ⟨[],[],⟨by unfold cP;rw [vP hy c1];rfl,rfl⟩,trivial,rfl⟩
  ·have c1:(!aV y)=false:=c1
   have c1:aV y=true:=by simpa using c1
   refine ⟨xs.length - (i+1),_,_,by omega,⟨i+1,rfl,by omega,fun j z hj hz=>?_,rfl,rfl⟩,⟨rfl,ag (au (by omega)),trivial⟩,trivial,rfl⟩
   rcases Nat.lt_or_ge j i with h9 | h9
   ·exact hok j z h9 hz
   ·have:j=i:=by omega
    subst this
    rw [hy] at hz;cases hz
    exact c1
 ·have h:i=xs.length:=by have:=ae h;omega
  subst h
  refine .inr (.inr (.inr ⟨[],[2000],[_],[],_,M1,rfl,trivial,rfl,trivial,?_⟩))
  rintro x U ⟨hx,rfl⟩
  refine ⟨rfl,?_⟩
  have C1:=qb (E:=(aR Tryz.prog tt Tryz.f34.ntmps w X (aA [] β)).toEnv) rfl (x:=x) (xs:=xs.map mkE) (n:=xs.length) (by simp)
  refine .inr (.inr (.inl ⟨[],[_],[_],_,[_],C1,rfl,⟨.inl rfl,trivial⟩,rfl,rfl,?_⟩))
  have e1:cP xs=dq (xs.map mkE):=by unfold cP;rw [if_pos (rL fun j y hy=>hok j y (List.getElem?_eq_some_iff.1 hy).1 hy)]
  exact ⟨[],[],⟨by rw [e1];rfl,rfl⟩,trivial,rfl⟩
theorem tw {E:Env} (hE:E.P=Tryz.prog) {v:Value} {k:Int} {xs:List EC} (hv:Lst E v 10 xs.length (cat EC.A xs)) (hn:xs.length<=2000000000000) (hin:∀ y∈xs,y.In):OwnC E 31 [SV.c v,SV.c (.int .i64 k)] [] (Gm xs k):=by
 refine av [] af ah Nv E hE [SV.c v,SV.c (.int .i64 k)] [] _ rfl rfl fun w X β hT=>?_
 have hv':=hv.of_old hT
 have C1:=qc rfl hv' hn hin
 have M1:=pw rfl hv' hn
 refine .inr (.inr (.inl ⟨[],[_],[],_,[],C1,rfl,trivial,rfl,rfl,fun h=>?_,fun h=>?_⟩))
 ·have h:(cP xs != 0)=true:=h
  have h:cP xs≠0:=by simpa using h
  have e1:d9 xs k=[]:=by rw [d9,if_neg h]
  exact ⟨[(3000,Blk.own (.slice none 0 0) 31 10 0 #[])],[],⟨_,0,by rw [e1];rfl,rfl,.nil,by rw [e1];rfl⟩,⟨.inr ⟨rfl,rfl,rfl⟩,trivial⟩,rfl⟩
 have h:(cP xs != 0)=false:=h
 have h0:cP xs=0:=by simpa using h
 obtain ⟨h1,h4k⟩:=nz h0
 have e1:ja (xs.map mkE) k=(gV xs k).map (fun i:Nat=>(i:Int)):=by rw [ja,if_pos h1];rfl
 have e2:d9 xs k=(gV xs k).filterMap (fun i=>xs[i]?):=by rw [d9,if_pos h0]
 have hmem:∀ i∈gV xs k,i < xs.length:=fun i h=>mJ h
 have hlen:=mK xs k
 generalize gV xs k=l at e1 e2 hmem hlen
 refine .inr (.inr (.inr ⟨[],[2000],[_],[],_,M1,rfl,trivial,rfl,trivial,?_⟩))
 rintro x U ⟨hx,rfl⟩
 refine ⟨rfl,?_⟩
 have C2:=tv (E:=(aR Tryz.prog tt Tryz.f31.ntmps w X (aA [] β)).toEnv) rfl (x:=x) (xs:=xs.map mkE) (n:=xs.length) (k:=k) (by simp) (by omega)
 refine .inr (.inr (.inr ⟨[],[1000],[_,_],[_],_,C2,rfl,⟨.inl rfl,trivial⟩,rfl,trivial,?_⟩))
 rintro r U ⟨U0,⟨s,n,hsn,rfl,hs,rfl⟩,rfl⟩
 rw [e1] at hsn ⊢
 rw [h1]
 refine ⟨rfl,?_⟩
 obtain ⟨sa,sc,rfl⟩:=hs.len
 have hnl:n=l.length:=by rw [hsn,List.length_map]
 obtain ⟨a,cap,rfl,hc,h4⟩:=hv'.shape
 refine ⟨fun q f m=>∃ (j:Nat) (y:Value) (N:Nat),q=l.length - j/\j<=l.length/\N=j/\IsL y N/\f=[(0,SV.c (.slice a xs.length cap)),(7,SV.c (.slice sa n sc)),(9,SV.c y),(10,SV.c (.int .i64 (j:Nat)))]/\m=[(3000,Blk.own y 31 10 N (cat EC.A ((l.take j).filterMap (fun i=>xs[i]?)))),(1000,Blk.own (.slice sa n sc) 3 1 n (bd (l.map fun i:Nat=>(i:Int))))],l.length,⟨_,_,⟨0,.slice none 0 0,0,by omega,by omega,rfl,.nil,rfl,rfl⟩,⟨rfl,rfl,rfl,rfl,trivial⟩,⟨.inr ⟨rfl,rfl,rfl⟩,.inl rfl,trivial⟩,rfl⟩,?_⟩
 rintro q f m ⟨j,y,N,rfl,hj,hN,hy,rfl,rfl⟩
 refine ⟨_,fun w' _=>am Tryz.underlying22 w',fun h=>?_,fun h=>?_⟩
 ·have h:j < n:=by have:=ab h;omega
  obtain ⟨i,hi⟩:∃ i,l[j]? = some i:=⟨_,List.getElem?_eq_getElem (show j < l.length by omega)⟩
  have hil:=hmem i (List.mem_of_getElem? hi)
  obtain ⟨z,hz⟩:∃ z,xs[i]? = some z:=⟨_,List.getElem?_eq_getElem hil⟩
  obtain ⟨b,o,rfl,h5⟩:=h4 (by omega)
  have hE':VOk (aR Tryz.prog tt Tryz.f31.ntmps w X (aA [] β)):=af
  have L1:=bF hE' h5 EC.size hz (ty:=31) (ti:=dE) rfl rfl rfl (p:=o+((i:Nat):Int).toNat*10) rfl
  rcases hs with ⟨hs1,hs2⟩ | ⟨g0,c0,hs1⟩
  ·omega
  cases hs1
  refine ⟨by omega,by omega,.inr ⟨1000,g0,_,n,_,_,_,_,rfl,rfl,_,(by rw [uy];exact oy hi),?_⟩⟩
  have F1:=nr z
  have F2:=z.fits.one
  have F3:=z.ext10
  have F4:z.A.size=1*10:=z.size
  have F5:cat EC.A ((l.take j).filterMap (fun i=>xs[i]?))++z.A=cat EC.A ((l.take (j+1)).filterMap (fun i=>xs[i]?)):=by rw [tE hi hz,cat_append,bp]
  generalize hY:z.A=ZA at L1 F1 F2 F3 F4 F5
  refine ⟨by omega,by omega,.inl ⟨_,L1,.inl ⟨by decide,by decide,_,F1,F4,by decide,3000,N,_,.inl rfl,by decide,F2,F4,_,F3,?_⟩⟩⟩
  obtain ⟨q,hq,hb⟩:=pH
  refine ⟨by omega,by unfold maxLen;omega,⟨q,hq,by rw [hb];omega⟩,trivial,fun g2 cap2=>?_⟩
  exact ⟨l.length - (j+1),_,_,by omega,⟨j+1,_,N+1,rfl,by omega,by omega,.some,rfl,rfl⟩,⟨rfl,rfl,rfl,ag (au (by omega)),trivial⟩,⟨.inl (aC F5),.inl rfl,trivial⟩,rfl⟩
 ·have h:j=l.length:=by have:=ae h;omega
  subst h
  rw [List.take_length]
  have e3:=oB hmem
  exact ⟨[(3000,Blk.own y 31 10 N (cat EC.A (l.filterMap (fun i=>xs[i]?))))],[],⟨y,N,by rw [e2,e3];exact hN,by rw [h0];rfl,hy,by rw [e2]⟩,⟨.inl rfl,trivial⟩,rfl⟩

def pfL (g:Led):Led×Int:=if mq g=0 then (g,0) else (.zero,mq g)
def PfQ (g:Led) (vh vc vp:Value) (day:Int) (r:Value) (U:az):Prop:=∃ xh xc xp,IsL xh (pfL g).1.h.length/\IsL xc (pfL g).1.c.length/\IsL xp (pfL g).1.p.length/\r=.tuple #[.agg #[xh,xc,xp],.int .i64 (pfL g).2]/\U=[(9501,Blk.own vh 136 2 (g.h).length (cat ao (g.h))),(9504,Blk.own vc 183 3 (g.c).length (cat ai (g.c))),(9505,Blk.own vp 183 3 (g.p).length (cat ai (g.p))),(9500,Blk.row 93 7 (LdA vh vc vp day)),(9506,Blk.own xh 66 2 (pfL g).1.h.length (cat ao (pfL g).1.h)),(9507,Blk.own xc 49 3 (pfL g).1.c.length (cat ai (pfL g).1.c)),(9508,Blk.own xp 49 3 (pfL g).1.p.length (cat ai (pfL g).1.p))]
theorem PfQ.bad {g:Led} {vh vc vp:Value} {day e:Int} (h:pfL g=(.zero,e)):PfQ g vh vc vp day (.tuple #[.agg #[.slice none 0 0,.slice none 0 0,.slice none 0 0],.int .i64 e]) [(9501,Blk.own vh 136 2 (g.h).length (cat ao (g.h))),(9504,Blk.own vc 183 3 (g.c).length (cat ai (g.c))),(9505,Blk.own vp 183 3 (g.p).length (cat ai (g.p))),(9500,Blk.row 93 7 (LdA vh vc vp day)),(9506,Blk.own (.slice none 0 0) 66 2 0 #[]),(9507,Blk.own (.slice none 0 0) 49 3 0 #[]),(9508,Blk.own (.slice none 0 0) 49 3 0 #[])]:=by
 refine ⟨.slice none 0 0,.slice none 0 0,.slice none 0 0,by rw [h];exact .nil,by rw [h];exact .nil,by rw [h];exact .nil,by rw [h],by rw [h];rfl⟩
theorem bu:Fits #[.slice none 0 0,.slice none 0 0,.slice none 0 0] 3:=⟨rfl,by simp [Value.oneCell']⟩
theorem mo {a b c:Value} (h1:a.oneCell'=true) (h2:b.oneCell'=true) (h3:c.oneCell'=true):Fits #[a,b,c] 3:=⟨rfl,by simp [h1,h2,h3]⟩
theorem pV (x:Bs×Int) {pl:List (Nat×Nat)} (hpl:pl=[(0,1),(1,1)]):Instr.fill (fun k=>pl[k]?) rW.zero [(0,.string (S x.1)),(1,.int .i64 x.2)]=some (ao x):=by
 subst hpl;rfl
theorem eZ (x:Bs×Int):Instr.fill (fun k=>some (k*rW.size,rW.size)) (madeCells rW.zero (1*rW.size)) [(0,.agg (ao x))]=some (ao x):=by kernel_rfl
theorem mc:∃ q,Tryz.prog.info? 66=some q/\q.bytes=24:=jM (by kernel_rfl)
theorem ui {E:Env} (hE:E.P=Tryz.prog) {g:Led} {vh vc vp:Value} {day:Int} (hh:IsL vh g.h.length) (hc:IsL vc g.c.length) (hp:IsL vp g.p.length) (hl:g.h.length<=10000000000/\g.c.length<=10000000000/\g.p.length<=10000000000):OwnC E 47 [SV.ptr 9500 0] [(9501,Blk.own vh 136 2 (g.h).length (cat ao (g.h))),(9504,Blk.own vc 183 3 (g.c).length (cat ai (g.c))),(9505,Blk.own vp 183 3 (g.p).length (cat ai (g.p))),(9500,Blk.row 93 7 (LdA vh vc vp day))] (PfQ g vh vc vp day):=by
 refine av [3] af ah Nf E hE [SV.ptr 9500 0] [(9501,Blk.own vh 136 2 (g.h).length (cat ao (g.h))),(9504,Blk.own vc 183 3 (g.c).length (cat ai (g.c))),(9505,Blk.own vp 183 3 (g.p).length (cat ai (g.p))),(9500,Blk.row 93 7 (LdA vh vc vp day))] _ rfl rfl fun w X β hT=>?_
 have hE':(aR Tryz.prog tt Tryz.f47.ntmps w X (aA [(9501,Blk.own vh 136 2 (g.h).length (cat ao (g.h))),(9504,Blk.own vc 183 3 (g.c).length (cat ai (g.c))),(9505,Blk.own vp 183 3 (g.p).length (cat ai (g.p))),(9500,Blk.row 93 7 (LdA vh vc vp day))] β)).toEnv.P=Tryz.prog:=rfl
 have BC:=qk hE' (C:=g.c) hc rfl (by omega)
 have BP:=qk hE' (C:=g.p) hp rfl (by omega)
 obtain ⟨ha,hcap,rfl⟩:=hh.len
 obtain ⟨ca,ccap,rfl⟩:=hc.len
 refine ⟨fun f mm=>¬ (g.h.length > 64\/g.c.length > 8)/\f=[(0,SV.ptr 9500 0),(2,SV.ptr 2 0)]/\mm=[(2,Blk.row 40 3 #[.slice none 0 0,.slice none 0 0,.slice none 0 0]),(9501,Blk.own (.slice ha g.h.length hcap) 136 2 (g.h).length (cat ao (g.h))),(9504,Blk.own (.slice ca g.c.length ccap) 183 3 (g.c).length (cat ai (g.c))),(9505,Blk.own vp 183 3 (g.p).length (cat ai (g.p))),(9500,Blk.row 93 7 (LdA (.slice ha g.h.length hcap) (.slice ca g.c.length ccap) vp day))],?_,?_⟩
 ·have bad:g.h.length > 64\/g.c.length > 8->pfL g=(.zero,123):=fun h=>by
    have:mq g=123:=by unfold mq;rw [if_pos h]
    unfold pfL;rw [this];rfl
  refine ⟨_,rfl,_,fun w' _=>am Tryz.underlying85 w',fun c=>?_,fun c=>?_⟩
  ·have c:=ae c
   refine ⟨_,rfl,_,fun w' _=>am Tryz.underlying89 w',fun c2=>?_,fun c2=>?_⟩
   ·have c2:=ab c2
    refine ⟨_,rfl,bu,?_⟩
    exact ⟨_,[],PfQ.bad (bad (.inr (by omega))),⟨.inl rfl,.inl rfl,.inl rfl,rfl,.inr ⟨rfl,rfl,rfl⟩,.inr ⟨rfl,rfl,rfl⟩,.inr ⟨rfl,rfl,rfl⟩,trivial⟩,rfl⟩
   ·have c2:=ae c2
    exact ⟨_,_,⟨by omega,rfl,rfl⟩,⟨rfl,rfl,trivial⟩,⟨rfl,.inl rfl,.inl rfl,.inl rfl,rfl,trivial⟩,rfl⟩
  ·have c:=ab (show decide ((g.h.length:Int) > 64)=true from c)
   have c:(g.h.length:Int) > 64:=c
   refine ⟨fun _=>?_,nofun⟩
   refine ⟨_,rfl,bu,?_⟩
   exact ⟨_,[],PfQ.bad (bad (.inl (by omega))),⟨.inl rfl,.inl rfl,.inl rfl,rfl,.inr ⟨rfl,rfl,rfl⟩,.inr ⟨rfl,rfl,rfl⟩,.inr ⟨rfl,rfl,rfl⟩,trivial⟩,rfl⟩
 ·rintro f1 m1 ⟨hmany,rfl,rfl⟩
  refine ⟨_,rfl,_,fun w' _=>am Tryz.underlying85 w',?_⟩
  refine ⟨fun q f m=>∃ (i:Nat) (s:Value),q=g.h.length - i/\i<=g.h.length/\IsL s i/\f=[(0,SV.ptr 9500 0),(2,SV.ptr 2 0),(4,SV.ptr 4 0),(30,SV.c (.slice ha g.h.length hcap)),(31,SV.c (.int .i64 (g.h.length:Nat))),(32,SV.c (.int .i64 (i:Nat)))]/\m=[(2,Blk.row 40 3 #[.slice none 0 0,.slice none 0 0,.slice none 0 0]),(4,Blk.row 40 3 #[s,.slice none 0 0,.slice none 0 0]),(9506,Blk.own s 66 2 i (cat ao (g.h.take i))),(9501,Blk.own (.slice ha g.h.length hcap) 136 2 (g.h).length (cat ao (g.h))),(9504,Blk.own (.slice ca g.c.length ccap) 183 3 (g.c).length (cat ai (g.c))),(9505,Blk.own vp 183 3 (g.p).length (cat ai (g.p))),(9500,Blk.row 93 7 (LdA (.slice ha g.h.length hcap) (.slice ca g.c.length ccap) vp day))],g.h.length,⟨_,_,⟨0,.slice none 0 0,rfl,by omega,.nil,rfl,rfl⟩,⟨rfl,rfl,rfl,rfl,rfl,rfl,trivial⟩,⟨rfl,rfl,.inr ⟨rfl,rfl,rfl⟩,.inl rfl,.inl rfl,.inl rfl,rfl,trivial⟩,rfl⟩,?_⟩
  rintro q f m ⟨i,s,rfl,hi,hs,rfl,rfl⟩
  refine ⟨fun h=>?_,fun h=>?_⟩
  ·have h:i < g.h.length:=by have:=ab h;omega
   rcases hh with ⟨hs1,hs2⟩ | ⟨g0,c0,hs1⟩
   ·omega
   cases hs1
   obtain ⟨y,hy⟩:∃ y,g.h[i]? = some y:=⟨_,List.getElem?_eq_getElem (by omega)⟩
   have L1:=bc aM hy
   have hsz:(cat ao g.h).size=g.h.length*2:=Go.SX.cat_size aM _
   have X1:(ao y).extract 0 (0+1*2)=ao y:=by simp [ao]
   obtain ⟨q,hq,hb⟩:=mc
   refine ⟨by omega,by omega,.inr ⟨9501,g0,_,g.h.length,_,_,_,_,rfl,rfl,(by rw [wG,hsz];show i*2+2<=g.h.length*2;omega),ao y,(by rw [wG];exact L1),bW y,?_⟩⟩
   refine ⟨_,rfl,_,rfl,_,rfl,_,pV y rfl,.inl ⟨by decide,by decide,_,eZ y,rfl,by decide,9506,i,_,.inl rfl,by decide,(bW y).one,rfl,_,X1,?_⟩⟩
   refine ⟨by omega,by unfold maxLen;omega,⟨q,hq,by rw [hb];omega⟩,trivial,fun g2 cap2=>?_⟩
   exact ⟨by decide,rfl,#[.slice (some ⟨g2,0,none⟩) (i+1) cap2,.slice none 0 0,.slice none 0 0],rfl,g.h.length - (i+1),_,_,by omega,⟨i+1,.slice (some ⟨g2,0,none⟩) (i+1) cap2,rfl,by omega,.some,rfl,rfl⟩,⟨rfl,rfl,rfl,rfl,rfl,ag (au (by omega)),trivial⟩,⟨rfl,rfl,.inl (aC (qd ao hy)),.inl rfl,.inl rfl,.inl rfl,rfl,trivial⟩,rfl⟩
  ·have h:i=g.h.length:=by have:=ae h;omega
   subst h
   have hmE:mq g=if c9 g.c && c9 g.p then 0 else 33:=by unfold mq;rw [if_neg hmany];rfl
   refine ⟨by decide,_,(rfl:_=#[fnW 44,.slice ca g.c.length ccap]),?_⟩
   refine .inr (.inr (.inr ⟨[(9501,9504),(9506,9507)],[9507],[_],[_],_,BC,rfl,⟨.inl rfl,trivial⟩,rfl,trivial,?_⟩))
   rintro r U ⟨xc,hxc,rfl,rfl⟩
   refine ⟨rfl,by decide,bg hxc,#[s,xc,.slice none 0 0],rfl,?_⟩
   refine ⟨by decide,_,(rfl:_=#[fnW 44,vp]),?_⟩
   refine .inr (.inr (.inr ⟨[(9501,9505),(9506,9508)],[9508],[_],[_],_,BP,rfl,⟨.inl rfl,trivial⟩,rfl,trivial,?_⟩))
   rintro r U ⟨xp,hxp,rfl,rfl⟩
   refine ⟨rfl,by decide,bg hxp,#[s,xc,xp],rfl,?_⟩
   have bad:(c9 g.c && c9 g.p)=false->pfL g=(.zero,33):=fun h=>by
    have:mq g=33:=by rw [hmE,h];rfl
    unfold pfL;rw [this];rfl
   refine ⟨fun c=>?_,fun c=>?_⟩
   ·have c:(!c9 g.c)=false:=c
    have c:c9 g.c=true:=by simpa using c
    refine ⟨fun c2=>?_,fun c2=>?_⟩
    ·have c2:(!c9 g.p)=true:=c2
     have c2:c9 g.p=false:=by simpa using c2
     refine ⟨_,rfl,bu,?_⟩
     exact ⟨_,[],PfQ.bad (bad (by rw [c2,Bool.and_false])),⟨.inl rfl,.inl rfl,.inl rfl,rfl,.inr ⟨rfl,rfl,rfl⟩,.inr ⟨rfl,rfl,rfl⟩,.inr ⟨rfl,rfl,rfl⟩,trivial⟩,rfl⟩
    ·have c2:(!c9 g.p)=false:=c2
     have c2:c9 g.p=true:=by simpa using c2
     have hP:pfL g=(g,0):=by
      have:mq g=0:=by rw [hmE,c,c2];rfl
      unfold pfL;rw [this];rfl
     have Q:PfQ g (.slice ha g.h.length hcap) (.slice ca g.c.length ccap) vp day (.tuple #[.agg #[s,xc,xp],.int .i64 0]) [(9501,Blk.own (.slice ha g.h.length hcap) 136 2 (g.h).length (cat ao (g.h))),(9504,Blk.own (.slice ca g.c.length ccap) 183 3 (g.c).length (cat ai (g.c))),(9505,Blk.own vp 183 3 (g.p).length (cat ai (g.p))),(9500,Blk.row 93 7 (LdA (.slice ha g.h.length hcap) (.slice ca g.c.length ccap) vp day)),(9506,Blk.own s 66 2 g.h.length (cat ao g.h)),(9507,Blk.own xc 49 3 g.c.length (cat ai g.c)),(9508,Blk.own xp 49 3 g.p.length (cat ai g.p))]:=⟨s,xc,xp,by rw [hP];exact hs,by rw [hP];exact hxc,by rw [hP];exact hxp,by rw [hP],by rw [hP]⟩
     exact ⟨mo (bg hs) (bg hxc) (bg hxp),_,[],Q,⟨.inl rfl,.inl rfl,.inl rfl,rfl,.inl (aC (by rw [List.take_length])),.inl rfl,.inl rfl,trivial⟩,rfl⟩
   ·have c:(!c9 g.c)=true:=by simpa using c
    have c:c9 g.c=false:=by simpa using c
    refine ⟨fun _=>?_,nofun⟩
    refine ⟨_,rfl,bu,?_⟩
    exact ⟨_,[],PfQ.bad (bad (by rw [c,Bool.false_and])),⟨.inl rfl,.inl rfl,.inl rfl,rfl,.inr ⟨rfl,rfl,rfl⟩,.inr ⟨rfl,rfl,rfl⟩,.inr ⟨rfl,rfl,rfl⟩,trivial⟩,rfl⟩
theorem fR {α:Type} {l:List α} {i:Nat} {x:α} (h:l[i]? = some x):l.take (i+1)=l.take i++[x]:=by
 rw [List.take_add_one,h];rfl
theorem G9 {E:Env} (hE:E.P=Tryz.prog) {v vc vp:Value} {xs:List (Bs×Int)} {k:Bs} (hv:Lst E v 2 xs.length (cat ao xs)) (hn:xs.length<=1000000000000):OwnC E 63 [SV.c (.agg #[v,vc,vp]),SV.c (.string (S k))] [] (fun x U=>x=.int .i64 (ay xs k)/\U=[]):=by
 refine av [] af ah Ja E hE [SV.c (.agg #[v,vc,vp]),SV.c (.string (S k))] [] _ rfl rfl fun w X β hT=>?_
 obtain ⟨a,cap,rfl,hc,h4⟩:=(hv.of_old hT).shape
 refine ⟨rfl,fun q f m=>∃ (i:Nat),q=xs.length - i/\i<=xs.length/\(∀ x∈xs.take i,x.1≠k)/\f=[(1,SV.c (.string (S k))),(2,SV.ptr 2 0),(5,SV.c (.int .i64 (i:Nat)))]/\m=[(2,Blk.row 40 3 #[.slice a xs.length cap,vc,vp])],xs.length,⟨_,_,⟨0,by omega,by omega,fun x h=>by simp at h,rfl,rfl⟩,⟨rfl,rfl,rfl,trivial⟩,⟨rfl,trivial⟩,rfl⟩,?_⟩
 rintro q f m ⟨i,rfl,hi,hk,rfl,rfl⟩
 refine ⟨_,rfl,_,fun w' _=>am Tryz.underlying37 w',fun h=>?_,fun h=>?_⟩
 ·have h:i < xs.length:=by have:=ab h;omega
  obtain ⟨b,o,rfl,h5⟩:=h4 (by omega)
  obtain ⟨y,hy⟩:∃ y,xs[i]? = some y:=⟨_,List.getElem?_eq_getElem h⟩
  have hE':VOk (aR Tryz.prog tt Tryz.f63.ntmps w X (aA [] β)):=af
  have L1:=cU hE' h5 aM hy (j:=0) (v:=.string (S y.1)) rfl (ty:=9) (ti:=ti9) rfl rfl (p:=o+(i:Int).toNat*2+0) rfl
  have L2:=cU hE' h5 aM hy (j:=1) (v:=.int .i64 y.2) rfl (ty:=3) (ti:=ti3) rfl rfl (p:=o+(i:Int).toNat*2+1) rfl
  refine ⟨_,rfl,by omega,by omega,.inl ⟨_,L1,fun c=>?_,fun c=>?_⟩⟩
  ·have c:y.1=k:=by have c:=(dN y.1 k).symm.trans c;simpa using c
   refine ⟨_,rfl,by omega,by omega,.inl ⟨_,L2,?_⟩⟩
   have e:ay xs k=y.2:=by
    have e1:xs=xs.take i++y :: xs.drop (i+1):=by rw [<- cd hy,List.take_append_drop]
    rw [e1,dZ hk,<- c];exact cO (k:=y.1) (n:=y.2)
   exact ⟨[],[],⟨by rw [e];rfl,rfl⟩,trivial,rfl⟩
  ·have c:¬ y.1=k:=by have c:=(dN y.1 k).symm.trans c;simpa using c
   have hk':∀ x∈xs.take (i+1),x.1≠k:=fun x hx=>by
    rw [fR hy] at hx
    rcases List.mem_append.1 hx with hx | hx
    ·exact hk x hx
    ·rw [List.mem_singleton.1 hx];exact c
   exact ⟨xs.length - (i+1),_,_,by omega,⟨i+1,rfl,by omega,hk',rfl,rfl⟩,⟨rfl,rfl,ag (au (by omega)),trivial⟩,⟨rfl,trivial⟩,rfl⟩
 ·have h:i=xs.length:=by have:=ae h;omega
  subst h
  rw [List.take_length] at hk
  exact ⟨[],[],⟨by rw [di hk];rfl,rfl⟩,trivial,rfl⟩
theorem tm (l:List UInt8):(S l).toList=l:=by simp [S]
theorem G4 {E:Env} (a b:List UInt8):bD E (Op.stringOp .lss (S a) (S b)) (.bool (ltB a b)):=fun w _=>by
 have e:Op.bytesLess (S a).toList (S b).toList=ltB a b:=by rw [iU,tm,tm]
 rw [<- e];rfl
theorem Hc {E:Env} (a b:List UInt8):bD E (Op.stringOp .geq (S a) (S b)) (.bool (!ltB a b)):=fun w _=>by
 have e:Op.bytesLess (S a).toList (S b).toList=ltB a b:=by rw [iU,tm,tm]
 rw [<- e];rfl
theorem vN (a b:Ky×Int):ax Tryz.prog 100 [SV.c (.agg (ai a)),SV.c (.agg (ai b))] (.bool (bx a.1 b.1)):=by
 refine aj af ah Lw _ _ rfl rfl fun w=>?_
 refine ⟨rfl,rfl,_,rfl,_,rfl,_,G4 _ _,fun h1=>⟨_,rfl,_,rfl,fun h2=>⟨_,rfl,_,rfl,bv ?_,trivial⟩,fun h2=>⟨bv ?_,trivial⟩⟩,fun h1=>?_⟩
 ·have h1:ltB a.1.1 b.1.1=false:=h1
  have h2:a.1.1=b.1.1:=by have h2:=(dN _ _).symm.trans h2;simpa using h2
  unfold bx;rw [h1,h2,dP];rfl
 ·have h1:ltB a.1.1 b.1.1=false:=h1
  have h2:¬ a.1.1=b.1.1:=by have h2:=(dN _ _).symm.trans h2;simpa using h2
  unfold bx;rw [h1]
  by_cases c:ltB b.1.1 a.1.1=true
  ·rw [c];rfl
  ·exact absurd (fH _ _ h1 (by simpa using c)) h2
 ·have h1:ltB a.1.1 b.1.1=true:=h1
  refine ⟨bv ?_,trivial⟩
  unfold bx;rw [h1];rfl
def lG (k:Bs) (n:Int) (s:List (Bs×Int)×Bool) (x:Bs×Int):List (Bs×Int)×Bool :=
 let o:=if !s.2 && !ltB x.1 k then s.1++[(k,n)] else s.1
 (if x.1=k then o else o++[x],s.2 || !ltB x.1 k)
def jk (l:List (Bs×Int)) (k:Bs) (n:Int):List (Bs×Int)×Bool:=l.foldl (lG k n) ([],false)
def dt (l:List (Bs×Int)) (k:Bs) (n:Int):List (Bs×Int):=if (jk l k n).2 then (jk l k n).1 else (jk l k n).1++[(k,n)]
theorem uf {l:List (Bs×Int)} {k:Bs} {n:Int} {i:Nat} {x:Bs×Int} (h:l[i]? = some x):jk (l.take (i+1)) k n=lG k n (jk (l.take i) k n) x:=by
 unfold jk;rw [fR h,List.foldl_append];rfl
theorem BU (k:Bs) (n:Int) (s:List (Bs×Int)×Bool) (x:Bs×Int):(lG k n s x).1.length+(if (lG k n s x).2 then 0 else 1)<=s.1.length+(if s.2 then 0 else 1)+1:=by
 unfold lG
 rcases s with ⟨o,d⟩
 cases d<;>by_cases h:ltB x.1 k=true<;>by_cases e:x.1=k<;>simp [h,e,dP]
theorem o5 (l:List (Bs×Int)) (k:Bs) (n:Int):∀ i,(jk (l.take i) k n).1.length+(if (jk (l.take i) k n).2 then 0 else 1)<=i+1
 | 0=>by simp [jk]
 | i+1=>by
  rcases h:l[i]? with _ | x
  ·have h0:=o5 l k n i
   rw [List.getElem?_eq_none_iff] at h
   rw [List.take_of_length_le h] at h0
   rw [List.take_of_length_le (by omega)]
   omega
  ·rw [uf h]
   have h0:=o5 l k n i
   have h1:=BU k n (jk (l.take i) k n) x
   omega
theorem jl (l:List (Bs×Int)) (k:Bs) (n:Int):(dt l k n).length<=l.length+1:=by
 have h:=o5 l k n l.length
 rw [List.take_length] at h
 unfold dt
 cases e:(jk l k n).2 with
 | true=>rw [if_pos rfl];rw [e] at h;simpa using h
 | false=>rw [if_neg (by simp)];rw [e] at h;simpa using h
theorem IG {E:Env} (hE:E.P=Tryz.prog) {v:Value} {xs:List (Bs×Int)} {k:Bs} {n:Int} (hv:Lst E v 2 xs.length (cat ao xs)) (hn:xs.length<=1000000000000):OwnC E 106 [SV.c v,SV.c (.string (S k)),SV.c (.int .i64 n)] [] (AT 9600 66 2 (dt xs k n).length (cat ao (dt xs k n))):=by
 refine av [] af ah Gg E hE [SV.c v,SV.c (.string (S k)),SV.c (.int .i64 n)] [] _ rfl rfl fun w X β hT=>?_
 obtain ⟨a,cap,rfl,hc,h4⟩:=(hv.of_old hT).shape
 refine ⟨fun q f m=>∃ (i:Nat) (x:Value) (N:Nat) (o:List (Bs×Int)) (d:Bool),q=xs.length - i/\i<=xs.length/\jk (xs.take i) k n=(o,d)/\N=o.length/\N+(if d then 0 else 1)<=i+1/\IsL x N/\f=[(0,SV.c (.slice a xs.length cap)),(1,SV.c (.string (S k))),(2,SV.c (.int .i64 n)),(7,SV.c x),(8,SV.c (.bool d)),(9,SV.c (.int .i64 (i:Nat)))]/\m=[(9600,Blk.own x 66 2 N (cat ao o))],xs.length,⟨_,_,⟨0,.slice none 0 0,0,[],false,by omega,by omega,rfl,rfl,by simp,.nil,rfl,rfl⟩,⟨rfl,rfl,rfl,rfl,rfl,rfl,trivial⟩,⟨.inr ⟨rfl,rfl,rfl⟩,trivial⟩,rfl⟩,?_⟩
 rintro q f m ⟨i,x,N,o,d,rfl,hi,hw,hN,hb,hx,rfl,rfl⟩
 refine ⟨_,fun w' _=>am Tryz.underlying37 w',fun h=>?_,fun h=>?_⟩
 ·have h:i < xs.length:=by have:=ab h;omega
  obtain ⟨b,of_,rfl,h5⟩:=h4 (by omega)
  obtain ⟨y,hy⟩:∃ y,xs[i]? = some y:=⟨_,List.getElem?_eq_getElem h⟩
  have hE':VOk (aR Tryz.prog tt Tryz.f106.ntmps w X (aA [] β)):=af
  have L1:=cU hE' h5 aM hy (j:=0) (v:=.string (S y.1)) rfl (ty:=9) (ti:=ti9) rfl rfl (p:=of_+(i:Int).toNat*2+0) rfl
  have L2:=bF hE' h5 aM hy (ty:=66) (ti:=rW) rfl rfl rfl (p:=of_+(i:Int).toNat*2) rfl
  have hw1:=uf (k:=k) (n:=n) hy
  rw [hw] at hw1
  have X1:(ao y).extract 0 (0+1*2)=ao y:=by simp [ao]
  have X2:(ao (k,n)).extract 0 (0+1*2)=ao (k,n):=by simp [ao]
  obtain ⟨q,hq,hqb⟩:=mc
  have hmax:N+2<=1000000000002:=by cases d<;>simp at hb<;>omega
  have ne1:∀ {b:Bool},(!((S y.1).toList == (S k).toList))=b->decide (y.1=k)=!b:=fun h=>by rw [<- h,dN,Bool.not_not]
  refine ⟨fun hd=>⟨by omega,by omega,.inl ⟨_,L1,_,Hc _ _,fun hg=>?_,fun hg=>?_⟩⟩,fun hd=>?_⟩
  ·have hd:d=false:=by simpa using hd
   subst hd
   have hg:ltB y.1 k=false:=by simpa using hg
   refine ⟨_,pV (k,n) rfl,.inl ⟨by decide,by decide,_,eZ (k,n),rfl,by decide,9600,N,_,.inl rfl,by decide,(bW _).one,rfl,_,X2,?_⟩⟩
   refine ⟨by omega,by unfold maxLen;omega,⟨q,hq,by rw [hqb];omega⟩,trivial,fun g2 cap2=>?_⟩
   refine ⟨by omega,by omega,.inl ⟨_,L1,fun e1=>?_,fun e1=>?_⟩⟩
   ·have e1:¬ y.1=k:=by simpa using ne1 e1
    refine ⟨by omega,by omega,.inl ⟨_,L2,.inl ⟨by decide,by decide,_,eZ y,rfl,by decide,9600,(N+1),_,.inl rfl,by decide,(bW _).one,rfl,_,X1,?_⟩⟩⟩
    refine ⟨by omega,by unfold maxLen;omega,⟨q,hq,by rw [hqb];omega⟩,trivial,fun g3 cap3=>?_⟩
    have hw2:jk (xs.take (i+1)) k n=(o++[(k,n)]++[y],true):=by rw [hw1];unfold lG;simp [e1,hg]
    exact ⟨xs.length - (i+1),_,_,by omega,⟨i+1,_,(N+1+1),o++[(k,n)]++[y],true,rfl,by omega,hw2,by simp;omega,by simp at hb ⊢;omega,.some,rfl,rfl⟩,⟨rfl,rfl,rfl,rfl,rfl,ag (au (by omega)),trivial⟩,⟨.inl (aC (by rw [cat_append,cat_append,bp,bp])),trivial⟩,rfl⟩
   ·have e1:y.1=k:=by simpa using ne1 e1
    have hw2:jk (xs.take (i+1)) k n=(o++[(k,n)],true):=by rw [hw1];unfold lG;simp [e1,e1 ▸ hg]
    exact ⟨xs.length - (i+1),_,_,by omega,⟨i+1,_,(N+1),o++[(k,n)],true,rfl,by omega,hw2,by simp;omega,by simp at hb ⊢;omega,.some,rfl,rfl⟩,⟨rfl,rfl,rfl,rfl,rfl,ag (au (by omega)),trivial⟩,⟨.inl (aC (by rw [cat_append,bp])),trivial⟩,rfl⟩
  ·have hd:d=false:=by simpa using hd
   subst hd
   have hg:ltB y.1 k=true:=by simpa using hg
   refine ⟨by omega,by omega,.inl ⟨_,L1,fun e1=>?_,fun e1=>?_⟩⟩
   ·have e1:¬ y.1=k:=by simpa using ne1 e1
    refine ⟨by omega,by omega,.inl ⟨_,L2,.inl ⟨by decide,by decide,_,eZ y,rfl,by decide,9600,N,_,.inl rfl,by decide,(bW _).one,rfl,_,X1,?_⟩⟩⟩
    refine ⟨by omega,by unfold maxLen;omega,⟨q,hq,by rw [hqb];omega⟩,trivial,fun g3 cap3=>?_⟩
    have hw2:jk (xs.take (i+1)) k n=(o++[y],false):=by rw [hw1];unfold lG;simp [e1,hg]
    exact ⟨xs.length - (i+1),_,_,by omega,⟨i+1,_,(N+1),o++[y],false,rfl,by omega,hw2,by simp;omega,by simp at hb ⊢;omega,.some,rfl,rfl⟩,⟨rfl,rfl,rfl,rfl,rfl,ag (au (by omega)),trivial⟩,⟨.inl (aC (by rw [cat_append,bp])),trivial⟩,rfl⟩
   ·have e1:y.1=k:=by simpa using ne1 e1
    rw [e1,dP] at hg;cases hg
  ·have hd:d=true:=by simpa using hd
   subst hd
   refine ⟨nofun,fun _=>?_⟩
   refine ⟨by omega,by omega,.inl ⟨_,L1,fun e1=>?_,fun e1=>?_⟩⟩
   ·have e1:¬ y.1=k:=by simpa using ne1 e1
    refine ⟨by omega,by omega,.inl ⟨_,L2,.inl ⟨by decide,by decide,_,eZ y,rfl,by decide,9600,N,_,.inl rfl,by decide,(bW _).one,rfl,_,X1,?_⟩⟩⟩
    refine ⟨by omega,by unfold maxLen;omega,⟨q,hq,by rw [hqb];omega⟩,trivial,fun g3 cap3=>?_⟩
    have hw2:jk (xs.take (i+1)) k n=(o++[y],true):=by rw [hw1];unfold lG;simp [e1,Bool.true_or]
    exact ⟨xs.length - (i+1),_,_,by omega,⟨i+1,_,(N+1),o++[y],true,rfl,by omega,hw2,by simp;omega,by simp at hb ⊢;omega,.some,rfl,rfl⟩,⟨rfl,rfl,rfl,rfl,rfl,ag (au (by omega)),trivial⟩,⟨.inl (aC (by rw [cat_append,bp])),trivial⟩,rfl⟩
   ·have e1:y.1=k:=by simpa using ne1 e1
    have hw2:jk (xs.take (i+1)) k n=(o,true):=by rw [hw1];unfold lG;simp [e1,Bool.true_or]
    exact ⟨xs.length - (i+1),_,_,by omega,⟨i+1,_,N,o,true,rfl,by omega,hw2,hN,by simp at hb ⊢;omega,hx,rfl,rfl⟩,⟨rfl,rfl,rfl,rfl,rfl,ag (au (by omega)),trivial⟩,⟨.inl rfl,trivial⟩,rfl⟩
 ·have h:i=xs.length:=by have:=ae h;omega
  subst h
  rw [List.take_length] at hw
  obtain ⟨q,hq,hqb⟩:=mc
  have X2:(ao (k,n)).extract 0 (0+1*2)=ao (k,n):=by simp [ao]
  refine ⟨fun hd=>?_,fun hd=>?_⟩
  ·have hd:d=false:=by simpa using hd
   subst hd
   have e:dt xs k n=o++[(k,n)]:=by unfold dt;rw [hw];rfl
   have hb:N+1<=xs.length+1:=by simpa using hb
   rw [e]
   refine ⟨_,pV (k,n) rfl,.inl ⟨by decide,by decide,_,eZ (k,n),rfl,by decide,9600,N,_,.inl rfl,by decide,(bW _).one,rfl,_,X2,?_⟩⟩
   refine ⟨by omega,by unfold maxLen;omega,⟨q,hq,by rw [hqb];omega⟩,trivial,fun g2 cap2=>?_⟩
   have en:(o++[(k,n)]).length=N+1:=by rw [hN];simp
   have eA:cat ao o++ao (k,n)=cat ao (o++[(k,n)]):=by rw [cat_append,bp]
   rw [en,<- eA]
   exact ⟨[(9600,Blk.own _ 66 2 (N+1) (cat ao o++ao (k,n)))],[],⟨.some,rfl⟩,⟨.inl rfl,trivial⟩,rfl⟩
  ·have hd:d=true:=by simpa using hd
   subst hd
   have e:dt xs k n=o:=by unfold dt;rw [hw];rfl
   rw [e,<- hN]
   exact ⟨[(9600,Blk.own x 66 2 N (cat ao o))],[],⟨hx,rfl⟩,⟨.inl rfl,trivial⟩,rfl⟩
def lR (k:Ky) (s:List (Ky×Int)×Bool×Int) (y:Ky×Int):List (Ky×Int)×Bool×Int :=
 if !s.2.1 && bx k y.1 then (s.1++[(k,s.2.2),y],true,s.2.2)
 else if !s.2.1 && !bx y.1 k then (s.1++[(k,w64 (s.2.2+y.2))],true,w64 (s.2.2+y.2))
 else (s.1++[y],s.2.1,s.2.2)
def jo (l:List (Ky×Int)) (k:Ky) (n:Int):List (Ky×Int)×Bool×Int:=l.foldl (lR k) ([],false,n)
def cN (l:List (Ky×Int)) (k:Ky) (n:Int):List (Ky×Int):=if (jo l k n).2.1 then (jo l k n).1 else (jo l k n).1++[(k,(jo l k n).2.2)]
theorem uo {l:List (Ky×Int)} {k:Ky} {n:Int} {i:Nat} {x:Ky×Int} (h:l[i]? = some x):jo (l.take (i+1)) k n=lR k (jo (l.take i) k n) x:=by
 unfold jo;rw [fR h,List.foldl_append];rfl
theorem B6 (k:Ky) (s:List (Ky×Int)×Bool×Int) (x:Ky×Int):(lR k s x).1.length+(if (lR k s x).2.1 then 0 else 1)<=s.1.length+(if s.2.1 then 0 else 1)+1:=by
 unfold lR
 rcases s with ⟨o,d,m⟩
 cases d<;>by_cases h:bx k x.1=true<;>by_cases e:bx x.1 k=true<;>simp [h,e]
theorem pd (l:List (Ky×Int)) (k:Ky) (n:Int):∀ i,(jo (l.take i) k n).1.length+(if (jo (l.take i) k n).2.1 then 0 else 1)<=i+1
 | 0=>by simp [jo]
 | i+1=>by
  rcases h:l[i]? with _ | x
  ·have h0:=pd l k n i
   rw [List.getElem?_eq_none_iff] at h
   rw [List.take_of_length_le h] at h0
   rw [List.take_of_length_le (by omega)]
   omega
  ·rw [uo h]
   have h0:=pd l k n i
   have h1:=B6 k (jo (l.take i) k n) x
   omega
theorem lS (l:List (Ky×Int)) (k:Ky) (n:Int):(cN l k n).length<=l.length+1:=by
 have h:=pd l k n l.length
 rw [List.take_length] at h
 unfold cN
 cases e:(jo l k n).2.1 with
 | true=>rw [if_pos rfl];rw [e] at h;simpa using h
 | false=>rw [if_neg (by simp)];rw [e] at h;simpa using h
theorem Al (x y:Ky×Int):Instr.fill (fun k=>some (k*ln.size,ln.size)) (madeCells ln.zero (2*ln.size)) [(0,.agg (ai x)),(1,.agg (ai y))]=some (ai x++ai y):=by kernel_rfl
theorem Fs {α:Type} (f:α->Array Value) (x y:α):cat f [x,y]=f x++f y:=by
 rw [show [x,y]=[x]++[y] from rfl,cat_append,bp,bp]
theorem II {E:Env} (hE:E.P=Tryz.prog) {v:Value} {xs:List (Ky×Int)} {k:Ky} {n:Int} (hv:Lst E v 3 xs.length (cat ai xs)) (hn:xs.length<=1000000000000):OwnC E 107 [SV.c v,SV.c (.agg (ai (k,n)))] [] (AT 9601 49 3 (cN xs k n).length (cat ai (cN xs k n))):=by
 refine av [] af ah Gf E hE [SV.c v,SV.c (.agg (ai (k,n)))] [] _ rfl rfl fun w X β hT=>?_
 obtain ⟨a,cap,rfl,hc,h4⟩:=(hv.of_old hT).shape
 refine ⟨rfl,fun q f m=>∃ (i:Nat) (x:Value) (N:Nat) (o:List (Ky×Int)) (d:Bool) (z:Int),q=xs.length - i/\i<=xs.length/\jo (xs.take i) k n=(o,d,z)/\N=o.length/\N+(if d then 0 else 1)<=i+1/\IsL x N/\f=[(0,SV.c (.slice a xs.length cap)),(3,SV.ptr 3 0),(5,SV.c x),(6,SV.c (.bool d)),(7,SV.c (.int .i64 (i:Nat)))]/\m=[(3,Blk.row 49 3 (ai (k,z))),(9601,Blk.own x 49 3 N (cat ai o))],xs.length,⟨_,_,⟨0,.slice none 0 0,0,[],false,n,by omega,by omega,rfl,rfl,by simp,.nil,rfl,rfl⟩,⟨rfl,rfl,rfl,rfl,rfl,trivial⟩,⟨rfl,.inr ⟨rfl,rfl,rfl⟩,trivial⟩,rfl⟩,?_⟩
 rintro q f m ⟨i,x,N,o,d,z,rfl,hi,hw,hN,hb,hx,rfl,rfl⟩
 refine ⟨_,fun w' _=>am Tryz.underlying38 w',fun h=>?_,fun h=>?_⟩
 ·have h:i < xs.length:=by have:=ab h;omega
  obtain ⟨b,of_,rfl,h5⟩:=h4 (by omega)
  obtain ⟨y,hy⟩:∃ y,xs[i]? = some y:=⟨_,List.getElem?_eq_getElem h⟩
  have hE':VOk (aR Tryz.prog tt Tryz.f107.ntmps w X (aA [] β)):=af
  have L1:=cU hE' h5 aS hy (j:=2) (v:=.int .i64 y.2) rfl (ty:=3) (ti:=ti3) rfl rfl (p:=of_+(i:Int).toNat*3+2) rfl
  have L2:=bF hE' h5 aS hy (ty:=49) (ti:=ln) rfl rfl rfl (p:=of_+(i:Int).toNat*3) rfl
  have hw1:=uo (k:=k) (n:=n) hy
  rw [hw] at hw1
  have X1:(ai y).extract 0 (0+1*3)=ai y:=by simp [ai]
  obtain ⟨q,hq,hqb⟩:=me
  have hmax:N+2<=1000000000002:=by cases d<;>simp at hb<;>omega
  have B1:=vN (k,z) y
  have B2:=vN y (k,z)
  refine ⟨fun hd=>?_,fun hd=>?_⟩
  ·have hd:d=false:=by simpa using hd
   subst hd
   refine ⟨by omega,by omega,.inl ⟨_,L2,.inl ⟨_,B1,by kernel_rfl,fun c=>?_,fun c=>?_⟩⟩⟩
   ·have c:bx k y.1=true:=c
    have hw2:jo (xs.take (i+1)) k n=(o++[(k,z),y],true,z):=by rw [hw1];unfold lR;simp [c]
    have X3:(ai (k,z)++ai y).extract 0 (0+2*3)=ai (k,z)++ai y:=by simp [ai]
    have O3:(ai (k,z)++ai y).all (·.oneCell')=true:=by simp [ai,Value.oneCell']
    refine ⟨by omega,by omega,.inl ⟨_,L2,.inl ⟨by decide,by decide,_,Al (k,z) y,rfl,by decide,9601,N,_,.inl rfl,by decide,O3,rfl,_,X3,?_⟩⟩⟩
    refine ⟨by omega,by unfold maxLen;omega,⟨q,hq,by rw [hqb];omega⟩,by change _=true;kernel_rfl,fun g2 cap2=>⟨by kernel_rfl,?_⟩⟩
    exact ⟨xs.length - (i+1),_,_,by omega,⟨i+1,_,(N+2),o++[(k,z),y],true,z,rfl,by omega,hw2,by simp;omega,by simp at hb ⊢;omega,.some,rfl,rfl⟩,⟨rfl,rfl,rfl,rfl,ag (au (by omega)),trivial⟩,⟨rfl,.inl (aC (by rw [cat_append,Fs])),trivial⟩,rfl⟩
   ·have c:bx k y.1=false:=c
    refine ⟨fun _=>⟨by omega,by omega,.inl ⟨_,L2,.inl ⟨_,B2,by kernel_rfl,fun c2=>?_,fun c2=>?_⟩⟩⟩,fun h=>absurd h (by decide)⟩
    ·have c2:bx y.1 k=false:=by have c2:(!bx y.1 k)=true:=c2;simpa using c2
     have hw2:jo (xs.take (i+1)) k n=(o++[(k,w64 (z+y.2))],true,w64 (z+y.2)):=by rw [hw1];unfold lR;simp [c,c2]
     have X4:(ai (k,w64 (z+y.2))).extract 0 (0+1*3)=ai (k,w64 (z+y.2)):=by simp [ai]
     refine ⟨_,rfl,by omega,by omega,.inl ⟨_,L1,by decide,rfl,ai (k,w64 (z+y.2)),rfl,by kernel_rfl,?_⟩⟩
     refine .inl ⟨by decide,by decide,_,fN (k,w64 (z+y.2)),rfl,by decide,9601,N,_,.inl rfl,by decide,(cv _).one,rfl,_,X4,?_⟩
     refine ⟨by omega,by unfold maxLen;omega,⟨q,hq,by rw [hqb];omega⟩,trivial,fun g2 cap2=>?_⟩
     exact ⟨xs.length - (i+1),_,_,by omega,⟨i+1,_,(N+1),o++[(k,w64 (z+y.2))],true,w64 (z+y.2),rfl,by omega,hw2,by simp;omega,by simp at hb ⊢;omega,.some,rfl,rfl⟩,⟨rfl,rfl,rfl,rfl,ag (au (by omega)),trivial⟩,⟨rfl,.inl (aC (by rw [cat_append,bp])),trivial⟩,rfl⟩
    ·have c2:bx y.1 k=true:=by have c2:(!bx y.1 k)=false:=c2;simpa using c2
     have hw2:jo (xs.take (i+1)) k n=(o++[y],false,z):=by rw [hw1];unfold lR;simp [c,c2]
     refine ⟨by omega,by omega,.inl ⟨_,L2,.inl ⟨by decide,by decide,_,fN y,rfl,by decide,9601,N,_,.inl rfl,by decide,(cv _).one,rfl,_,X1,?_⟩⟩⟩
     refine ⟨by omega,by unfold maxLen;omega,⟨q,hq,by rw [hqb];omega⟩,trivial,fun g2 cap2=>?_⟩
     exact ⟨xs.length - (i+1),_,_,by omega,⟨i+1,_,(N+1),o++[y],false,z,rfl,by omega,hw2,by simp;omega,by simp at hb ⊢;omega,.some,rfl,rfl⟩,⟨rfl,rfl,rfl,rfl,ag (au (by omega)),trivial⟩,⟨rfl,.inl (aC (by rw [cat_append,bp])),trivial⟩,rfl⟩
  ·have hd:d=true:=by simpa using hd
   subst hd
   have hw2:jo (xs.take (i+1)) k n=(o++[y],true,z):=by rw [hw1];unfold lR;simp
   refine ⟨by kernel_rfl,nofun,fun _=>⟨nofun,fun _=>⟨by kernel_rfl,nofun,fun _=>?_⟩⟩⟩
   refine ⟨by omega,by omega,.inl ⟨_,L2,.inl ⟨by decide,by decide,_,fN y,rfl,by decide,9601,N,_,.inl rfl,by decide,(cv _).one,rfl,_,X1,?_⟩⟩⟩
   refine ⟨by omega,by unfold maxLen;omega,⟨q,hq,by rw [hqb];omega⟩,trivial,fun g2 cap2=>?_⟩
   exact ⟨xs.length - (i+1),_,_,by omega,⟨i+1,_,(N+1),o++[y],true,z,rfl,by omega,hw2,by simp;omega,by simp at hb ⊢;omega,.some,rfl,rfl⟩,⟨rfl,rfl,rfl,rfl,ag (au (by omega)),trivial⟩,⟨rfl,.inl (aC (by rw [cat_append,bp])),trivial⟩,rfl⟩
 ·have h:i=xs.length:=by have:=ae h;omega
  subst h
  rw [List.take_length] at hw
  obtain ⟨q,hq,hqb⟩:=me
  refine ⟨fun hd=>?_,fun hd=>?_⟩
  ·have hd:d=false:=by simpa using hd
   subst hd
   have e:cN xs k n=o++[(k,z)]:=by unfold cN;rw [hw];rfl
   have hb:N+1<=xs.length+1:=by simpa using hb
   have en:(o++[(k,z)]).length=N+1:=by rw [hN];simp
   have eA:cat ai o++ai (k,z)=cat ai (o++[(k,z)]):=by rw [cat_append,bp]
   have X2:(ai (k,z)).extract 0 (0+1*3)=ai (k,z):=by simp [ai]
   rw [e,en,<- eA]
   refine .inl ⟨by decide,by decide,_,fN (k,z),rfl,by decide,9601,N,_,.inl rfl,by decide,(cv _).one,rfl,_,X2,?_⟩
   refine ⟨by omega,by unfold maxLen;omega,⟨q,hq,by rw [hqb];omega⟩,trivial,fun g2 cap2=>?_⟩
   exact ⟨[(9601,Blk.own _ 49 3 (N+1) (cat ai o++ai (k,z)))],[],⟨.some,rfl⟩,⟨.inl rfl,trivial⟩,rfl⟩
  ·have hd:d=true:=by simpa using hd
   subst hd
   have e:cN xs k n=o:=by unfold cN;rw [hw];rfl
   rw [e,<- hN]
   exact ⟨[(9601,Blk.own x 49 3 N (cat ai o))],[],⟨hx,rfl⟩,⟨.inl rfl,trivial⟩,rfl⟩
theorem uz {κ:Type} {l:List (κ×Int)} {i:Nat} {y:κ×Int} (h:l[i]? = some y):nzf (l.take (i+1))=if y.2=0 then nzf (l.take i) else nzf (l.take i)++[y]:=by
 rw [fR h];unfold nzf;rw [List.filter_append]
 by_cases e:y.2=0
 ·rw [if_pos e];simp [e]
 ·rw [if_neg e];simp [e]
theorem EJ {κ:Type} (l:List (κ×Int)) (i:Nat):(nzf (l.take i)).length<=i:=by
 have h1:(nzf (l.take i)).length<=(l.take i).length:=List.length_filter_le _ _
 have h2:(l.take i).length<=i:=by rw [List.length_take];omega
 omega
theorem DL (C:List (Ky×Int)) (y:Ky×Int):c9 (C++[y])=(c9 C && inB y.2 (-1000000000000000) 1000000000000000):=by unfold c9;rw [List.all_append];simp
theorem I2 {E:Env} (hE:E.P=Tryz.prog) {v:Value} {xs:List (Ky×Int)} (hv:Lst E v 3 xs.length (cat ai xs)) (hn:xs.length<=1000000000000):OwnC E 108 [SV.c v] [] (fun r U=>∃ s n,n=(nzf xs).length/\IsL s n/\r=.tuple #[s,.bool (c9 (nzf xs))]/\U=[(9602,Blk.own s 49 3 n (cat ai (nzf xs)))]):=by
 refine av [] af ah Ge E hE [SV.c v] [] _ rfl rfl fun w X β hT=>?_
 obtain ⟨a,cap,rfl,hc,h4⟩:=(hv.of_old hT).shape
 refine ⟨fun q f m=>∃ (i:Nat) (x:Value) (N:Nat) (o:List (Ky×Int)),q=xs.length - i/\i<=xs.length/\nzf (xs.take i)=o/\N=o.length/\N<=i/\IsL x N/\f=[(0,SV.c (.slice a xs.length cap)),(4,SV.c x),(5,SV.c (.bool (c9 o))),(6,SV.c (.int .i64 (i:Nat)))]/\m=[(9602,Blk.own x 49 3 N (cat ai o))],xs.length,⟨_,_,⟨0,.slice none 0 0,0,[],by omega,by omega,rfl,rfl,by omega,.nil,rfl,rfl⟩,⟨rfl,rfl,rfl,rfl,trivial⟩,⟨.inr ⟨rfl,rfl,rfl⟩,trivial⟩,rfl⟩,?_⟩
 rintro q f m ⟨i,x,N,o,rfl,hi,hw,hN,hb,hx,rfl,rfl⟩
 refine ⟨_,fun w' _=>am Tryz.underlying38 w',fun h=>?_,fun h=>?_⟩
 ·have h:i < xs.length:=by have:=ab h;omega
  obtain ⟨b,of_,rfl,h5⟩:=h4 (by omega)
  obtain ⟨y,hy⟩:∃ y,xs[i]? = some y:=⟨_,List.getElem?_eq_getElem h⟩
  have hE':VOk (aR Tryz.prog tt Tryz.f108.ntmps w X (aA [] β)):=af
  have L1:=cU hE' h5 aS hy (j:=2) (v:=.int .i64 y.2) rfl (ty:=3) (ti:=ti3) rfl rfl (p:=of_+(i:Int).toNat*3+2) rfl
  have L2:=bF hE' h5 aS hy (ty:=49) (ti:=ln) rfl rfl rfl (p:=of_+(i:Int).toNat*3) rfl
  have hw1:=uz hy
  rw [hw] at hw1
  have X1:(ai y).extract 0 (0+1*3)=ai y:=by simp [ai]
  obtain ⟨q,hq,hqb⟩:=me
  have F1:=Ga y.2
  refine ⟨by omega,by omega,.inl ⟨_,L1,fun c=>?_,fun c=>?_⟩⟩
  ·have c:¬ y.2=0:=by have c:(y.2 != 0)=true:=c;simpa using c
   rw [if_neg c] at hw1
   have hg:=DL o y
   refine ⟨by omega,by omega,.inl ⟨_,L2,.inl ⟨by decide,by decide,_,fN y,rfl,by decide,9602,N,_,.inl rfl,by decide,(cv _).one,rfl,_,X1,?_⟩⟩⟩
   refine ⟨by omega,by unfold maxLen;omega,⟨q,hq,by rw [hqb];omega⟩,trivial,fun g2 cap2=>?_⟩
   refine ⟨fun d=>⟨by omega,by omega,.inl ⟨_,L1,.inl ⟨_,F1,?_⟩⟩⟩,fun d=>?_⟩
   ·have d:c9 o=true:=d
    exact ⟨xs.length - (i+1),_,_,by omega,⟨i+1,_,(N+1),o++[y],rfl,by omega,hw1,by simp;omega,by omega,.some,rfl,rfl⟩,⟨rfl,rfl,iT (by rw [hg,d,Bool.not_not,Bool.true_and]),ag (au (by omega)),trivial⟩,⟨.inl (aC (by rw [cat_append,bp])),trivial⟩,rfl⟩
   ·have d:c9 o=false:=d
    exact ⟨xs.length - (i+1),_,_,by omega,⟨i+1,_,(N+1),o++[y],rfl,by omega,hw1,by simp;omega,by omega,.some,rfl,rfl⟩,⟨rfl,rfl,iT (by rw [hg,d,Bool.false_and]),ag (au (by omega)),trivial⟩,⟨.inl (aC (by rw [cat_append,bp])),trivial⟩,rfl⟩
  ·have c:y.2=0:=by have c:(y.2 != 0)=false:=c;simpa using c
   rw [if_pos c] at hw1
   exact ⟨xs.length - (i+1),_,_,by omega,⟨i+1,_,N,o,rfl,by omega,hw1,hN,by omega,hx,rfl,rfl⟩,⟨rfl,rfl,rfl,ag (au (by omega)),trivial⟩,⟨.inl rfl,trivial⟩,rfl⟩
 ·have h:i=xs.length:=by have:=ae h;omega
  subst h
  rw [List.take_length] at hw
  exact ⟨[(9602,Blk.own x 49 3 N (cat ai o))],[],⟨x,N,by rw [hw];exact hN,hx,by rw [hw];rfl,by rw [hw]⟩,⟨.inl rfl,trivial⟩,rfl⟩
def mV (k:Bs) (n:Int):List (Bs×Int)->Bool->List (Bs×Int)
 | [],d=>if d then [] else [(k,n)]
 | x :: r,d=>(if !d && !ltB x.1 k then [(k,n)] else [])++((if x.1=k then [] else [x])++mV k n r (d || !ltB x.1 k))
theorem qR (k:Bs) (n:Int):∀ (l:List (Bs×Int)) (o:List (Bs×Int)) (d:Bool),(let s:=l.foldl (lG k n) (o,d);if s.2 then s.1 else s.1++[(k,n)])=o++mV k n l d
 | [],o,d=>by cases d<;>simp [mV]
 | x :: r,o,d=>by
  rw [List.foldl_cons]
  have h:=qR k n r (lG k n (o,d) x).1 (lG k n (o,d) x).2
  refine Eq.trans h ?_
  rw [mV]
  unfold lG
  cases d<;>by_cases h:ltB x.1 k=true<;>by_cases e:x.1=k<;>simp [h,e,dP]
theorem Ej (l:List (Bs×Int)) (k:Bs) (n:Int):dt l k n=mV k n l false:=by
 have h:=qR k n l [] false
 rw [List.nil_append] at h
 exact h
theorem mU (k:Bs) (n:Int):∀ {l:List (Bs×Int)},(∀ x∈l,ltB k x.1=true)->mV k n l true=l
 | [],_=>rfl
 | x :: r,h=>by
  have hx:=h x (by simp)
  have e:¬ x.1=k:=fun e=>by rw [e,dP] at hx;cases hx
  have hr:=mU k n (l:=r) fun y hy=>h y (List.mem_cons_of_mem _ hy)
  rw [mV,Bool.true_or,hr]
  simp [e]
theorem o6 {l:List (Bs×Int)} (hs:SrtA ltB l) (k:Bs) (n:Int):Upd ltB l k n (dt l k n):=by
 rw [Ej]
 have key:∀ (s p:List (Bs×Int)),SrtA ltB (p++s)->(∀ x∈p,ltB x.1 k=true)->Upd ltB (p++s) k n (p++mV k n s false):=by
  intro s
  induction s with
  | nil=>exact fun p hs hp=>Upd.ins cJ hs hp (by simp) n
  | cons x r ih =>
   intro p hs hp
   obtain ⟨h1,h2,h3⟩:=hs.parts
   by_cases c:ltB x.1 k=true
   ·have e:¬ x.1=k:=fun e=>by rw [e,dP] at c;cases c
    have h:=ih (p++[x]) (by rw [List.append_assoc];exact hs) (fun y hy=>by
     rcases List.mem_append.1 hy with hy | hy
     ·exact hp y hy
     ·rw [List.mem_singleton.1 hy];exact c)
    rw [List.append_assoc,List.append_assoc] at h
    rw [mV];simpa [c,e] using h
   ·have c:ltB x.1 k=false:=by simpa using c
    by_cases e:x.1=k
    ·have hr:mV k n r true=r:=mU k n fun y hy=>by rw [<- e];exact h2 y hy
     have hu:=Upd.set (n:=x.2) cJ hs n
     rw [mV,c,Bool.not_false,Bool.or_true,hr]
     obtain ⟨x1,x2⟩:=x
     have e:x1=k:=e
     subst e
     simpa using hu
    ·have c2:ltB k x.1=true:=by
       cases c2:ltB k x.1 with
       | true=>rfl
       | false=>exact absurd (fH _ _ c c2) e
     have hr:mV k n r true=r:=mU k n fun y hy=>kV _ _ _ c2 (h2 y hy)
     rw [mV,c,Bool.not_false,Bool.or_true,hr]
     have hu:=Upd.ins cJ hs hp (fun y hy=>by
      rcases List.mem_cons.1 hy with rfl | hy
      ·exact c2
      ·exact kV _ _ _ c2 (h2 y hy)) n
     simpa [e] using hu
 exact key l [] hs (by simp)
def m7 (k:Ky):List (Ky×Int)->Bool->Int->List (Ky×Int)
 | [],d,z=>if d then [] else [(k,z)]
 | x :: r,d,z=>if !d && bx k x.1 then (k,z) :: x :: m7 k r true z
  else if !d && !bx x.1 k then (k,w64 (z+x.2)) :: m7 k r true (w64 (z+x.2))
  else x :: m7 k r d z
theorem qS (k:Ky):∀ (l:List (Ky×Int)) (o:List (Ky×Int)) (d:Bool) (z:Int),(let s:=l.foldl (lR k) (o,d,z);if s.2.1 then s.1 else s.1++[(k,s.2.2)])=o++m7 k l d z
 | [],o,d,z=>by cases d<;>simp [m7]
 | x :: r,o,d,z=>by
  rw [List.foldl_cons]
  have h:=qS k r (lR k (o,d,z) x).1 (lR k (o,d,z) x).2.1 (lR k (o,d,z) x).2.2
  refine Eq.trans h ?_
  rw [m7]
  unfold lR
  cases d<;>by_cases h:bx k x.1=true<;>by_cases e:bx x.1 k=true<;>simp [h,e]
theorem Et (l:List (Ky×Int)) (k:Ky) (n:Int):cN l k n=m7 k l false n:=by
 have h:=qS k l [] false n
 rw [List.nil_append] at h
 exact h
theorem m6 (k:Ky):∀ (l:List (Ky×Int)) (z:Int),m7 k l true z=l
 | [],_=>rfl
 | x :: r,z=>by rw [m7,m6 k r z];simp
theorem B7 {l:List (Ky×Int)} (hs:SrtA bx l) (k:Ky) {n:Int} (hn:w64 n=n):Upd bx l k (w64 (ay l k+n)) (cN l k n):=by
 rw [Et]
 have key:∀ (s p:List (Ky×Int)),SrtA bx (p++s)->(∀ x∈p,bx x.1 k=true)->Upd bx (p++s) k (w64 (ay (p++s) k+n)) (p++m7 k s false n):=by
  intro s
  induction s with
  | nil =>
   intro p hs hp
   have hg:ay (p++[]) k=0:=di fun x hx=>by
    rw [List.append_nil] at hx;exact bB.ne (hp x hx)
   rw [hg,Int.zero_add,hn]
   exact Upd.ins bB hs hp (by simp) n
  | cons x r ih =>
   intro p hs hp
   obtain ⟨h1,h2,h3⟩:=hs.parts
   by_cases c2:bx k x.1=true
   ·have hall:∀ y∈x :: r,bx k y.1=true:=fun y hy=>by
      rcases List.mem_cons.1 hy with rfl | hy
      ·exact c2
      ·exact bB.tr _ _ _ c2 (h2 y hy)
    have hg:ay (p++x :: r) k=0:=di fun y hy=>by
     rcases List.mem_append.1 hy with hy | hy
     ·exact bB.ne (hp y hy)
     ·exact (bB.ne (hall y hy)).symm
    rw [hg,Int.zero_add,hn,m7,c2,m6]
    exact Upd.ins bB hs hp hall n
   ·have c2:bx k x.1=false:=by simpa using c2
    by_cases c:bx x.1 k=true
    ·have h:=ih (p++[x]) (by rw [List.append_assoc];exact hs) (fun y hy=>by
       rcases List.mem_append.1 hy with hy | hy
       ·exact hp y hy
       ·rw [List.mem_singleton.1 hy];exact c)
     rw [List.append_assoc,List.append_assoc] at h
     rw [m7,c,c2];simpa using h
    ·have c:bx x.1 k=false:=by simpa using c
     have e:x.1=k:=bB.tri _ _ c c2
     obtain ⟨x1,x2⟩:=x
     have e:x1=k:=e
     subst e
     have hg:ay (p++(x1,x2) :: r) x1=x2:=by
      rw [dZ fun y hy=>bB.ne (hp y hy),cO]
     rw [hg,m7,c,Int.add_comm x2 n]
     have hu:=Upd.set bB hs (w64 (n+x2))
     simpa [m6] using hu
 exact key l [] hs (by simp)
theorem G8 {E:Env} (hE:E.P=Tryz.prog) {v vc vp:Value} {xs:List (Bs×Int)} {k:Bs} (hv:Lst E v 2 xs.length (cat ao xs)) (hn:xs.length<=1000000000000):OwnC E 19 [SV.c (.agg #[v,vc,vp]),SV.c (.string (S k))] [] (fun x U=>x=.int .i64 (ay xs k)/\U=[]):=by
 refine av [] af ah Ki E hE [SV.c (.agg #[v,vc,vp]),SV.c (.string (S k))] [] _ rfl rfl fun w X β hT=>?_
 obtain ⟨a,cap,rfl,hc,h4⟩:=(hv.of_old hT).shape
 refine ⟨rfl,_,rfl,_,fun w' _=>am Tryz.underlying37 w',?_⟩
 refine ⟨fun q f m=>∃ (i:Nat),q=xs.length - i/\i<=xs.length/\(∀ x∈xs.take i,x.1≠k)/\f=[(1,SV.c (.string (S k))),(8,SV.c (.slice a xs.length cap)),(9,SV.c (.int .i64 (xs.length:Nat))),(10,SV.c (.int .i64 (i:Nat)))]/\m=[],xs.length,⟨_,_,⟨0,rfl,by omega,fun x h=>by simp at h,rfl,rfl⟩,⟨rfl,rfl,rfl,rfl,trivial⟩,trivial,rfl⟩,?_⟩
 rintro q f m ⟨i,rfl,hi,hk,rfl,rfl⟩
 refine ⟨fun h=>?_,fun h=>?_⟩
 ·have h:i < xs.length:=by have:=ab h;omega
  obtain ⟨b,o,rfl,h5⟩:=h4 (by omega)
  obtain ⟨y,hy⟩:∃ y,xs[i]? = some y:=⟨_,List.getElem?_eq_getElem h⟩
  have hE':VOk (aR Tryz.prog tt Tryz.f19.ntmps w X (aA [] β)):=af
  have L2:=bF hE' h5 aM hy (ty:=66) (ti:=rW) rfl rfl rfl (p:=o+(i:Int).toNat*2) rfl
  refine ⟨by omega,by omega,.inl ⟨_,L2,bW y,_,rfl,fun c=>?_,fun c=>?_⟩⟩
  ·have c:y.1=k:=by have c:=(dN y.1 k).symm.trans c;simpa using c
   have e:ay xs k=y.2:=by
    have e1:xs=xs.take i++y :: xs.drop (i+1):=by rw [<- cd hy,List.take_append_drop]
    rw [e1,dZ hk,<- c];exact cO (k:=y.1) (n:=y.2)
   exact ⟨_,rfl,[],[],⟨by rw [e];rfl,rfl⟩,trivial,rfl⟩
  ·have c:¬ y.1=k:=by have c:=(dN y.1 k).symm.trans c;simpa using c
   have hk':∀ x∈xs.take (i+1),x.1≠k:=fun x hx=>by
    rw [fR hy] at hx
    rcases List.mem_append.1 hx with hx | hx
    ·exact hk x hx
    ·rw [List.mem_singleton.1 hx];exact c
   exact ⟨xs.length - (i+1),_,_,by omega,⟨i+1,rfl,by omega,hk',rfl,rfl⟩,⟨rfl,rfl,rfl,ag (au (by omega)),trivial⟩,trivial,rfl⟩
 ·have h:i=xs.length:=by have:=ae h;omega
  subst h
  rw [List.take_length] at hk
  exact ⟨[],[],⟨by rw [di hk];rfl,rfl⟩,trivial,rfl⟩
theorem oT (x:Bs×Int):(ao x).all (·.oneCell')=true:=(bW x).one
theorem tJ (x:Ky×Int):(ai x).all (·.oneCell')=true:=(cv x).one
theorem sG {E:Env} (hE:E.P=Tryz.prog) {x vc vp:Value} {H:List (Bs×Int)} {k:Bs} {n:Nat} (hn:n=H.length) (hb:n<=1000000000000):OwnC E 63 [SV.c (.agg #[x,vc,vp]),SV.c (.string (S k))] [(9610,Blk.own x 66 2 n (cat ao H))] (fun y U=>y=.int .i64 (ay H k)/\U=[(9610,Blk.own x 66 2 n (cat ao H))]):=by
 subst hn
 refine (OwnC.with_own (k:=9610) (v:=x) (e:=66) (sz:=2) (n:=H.length) (A:=cat ao H) (pre:=[]) rfl rfl (cat_all oT H) (by rw [hE];exact Ja.enters) (fun E0 h hl=>G9 (h.trans hE) hl hb) (fun x U h=>by rw [h.2];rfl)).mono ?_
 rintro y U ⟨U0,⟨h1,h2⟩,h3⟩
 exact ⟨h1,by rw [h3,h2]⟩
def Gp (k0:Key) (x:Value) (e:TypeId) (sz n:Nat) (A:Array Value) (k1:Key) (n1:Nat) (A1:Array Value) (y:Value) (U:az):Prop:=IsL y n1/\U=[(k0,Blk.own x e sz n A),(k1,Blk.own y e sz n1 A1)]
theorem si {E:Env} (hE:E.P=Tryz.prog) {x:Value} {H:List (Bs×Int)} {k:Bs} {m:Int} {n:Nat} (hn:n=H.length) (hb:n<=1000000000000):OwnC E 106 [SV.c x,SV.c (.string (S k)),SV.c (.int .i64 m)] [(9610,Blk.own x 66 2 n (cat ao H))] (Gp 9610 x 66 2 n (cat ao H) 9600 (dt H k m).length (cat ao (dt H k m))):=by
 subst hn
 refine (OwnC.with_own (k:=9610) (v:=x) (e:=66) (sz:=2) (n:=H.length) (A:=cat ao H) (pre:=[]) rfl rfl (cat_all oT H) (by rw [hE];exact Gg.enters) (fun E0 h hl=>IG (h.trans hE) hl hb) (fun x U h=>by rw [h.2];rfl)).mono ?_
 rintro y U ⟨U0,⟨h1,h2⟩,h3⟩
 exact ⟨h1,by rw [h3,h2]⟩
theorem m5 {E:Env} (hE:E.P=Tryz.prog) {x:Value} {C:List (Ky×Int)} {k:Ky} {m:Int} {n:Nat} (hn:n=C.length) (hb:n<=1000000000000):OwnC E 107 [SV.c x,SV.c (.agg (ai (k,m)))] [(9611,Blk.own x 49 3 n (cat ai C))] (Gp 9611 x 49 3 n (cat ai C) 9601 (cN C k m).length (cat ai (cN C k m))):=by
 subst hn
 refine (OwnC.with_own (k:=9611) (v:=x) (e:=49) (sz:=3) (n:=C.length) (A:=cat ai C) (pre:=[]) rfl rfl (cat_all tJ C) (by rw [hE];exact Gf.enters) (fun E0 h hl=>II (h.trans hE) hl hb) (fun x U h=>by rw [h.2];rfl)).mono ?_
 rintro y U ⟨U0,⟨h1,h2⟩,h3⟩
 exact ⟨h1,by rw [h3,h2]⟩
theorem DD {E:Env} (hE:E.P=Tryz.prog) {x:Value} {C:List (Ky×Int)} {n:Nat} (hn:n=C.length) (hb:n<=1000000000000):OwnC E 108 [SV.c x] [(9611,Blk.own x 49 3 n (cat ai C))] (fun r U=>∃ s n1,n1=(nzf C).length/\IsL s n1/\r=.tuple #[s,.bool (c9 (nzf C))]/\U=[(9611,Blk.own x 49 3 n (cat ai C)),(9602,Blk.own s 49 3 n1 (cat ai (nzf C)))]):=by
 subst hn
 refine (OwnC.with_own (k:=9611) (v:=x) (e:=49) (sz:=3) (n:=C.length) (A:=cat ai C) (pre:=[]) rfl rfl (cat_all tJ C) (by rw [hE];exact Ge.enters) (fun E0 h hl=>I2 (h.trans hE) hl hb) (fun x U h=>by obtain ⟨s,n1,-,-,-,rfl⟩:=h;rfl)).mono ?_
 rintro y U ⟨U0,⟨s,n1,h1,h2,h3,h4⟩,h5⟩
 exact ⟨s,n1,h1,h2,h3,by rw [h5,h4]⟩
end Go.Proofs.YtekfkdddadcalaaGreatDoor
