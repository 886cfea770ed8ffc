/- rates of exchange: checks, ways. rates of exchange: the prog; no condition. -/
import Derived.Test.YtklehfchdoikeaaGreatDoorP27
set_option maxRecDepth 100000
set_option maxHeartbeats 4000000
namespace Go.Proofs.YtklehfchdoikeaaGreatDoor
open Go Go.RowKit Go.SX
theorem M9 {xs:List QC} {p:PL} {day:Int} {cs:List (List UInt8)} (h:cf xs≠0):fV xs p day cs=cf xs:=by unfold fV;rw [if_pos h]
theorem M8 {xs:List QC} {p:PL} {day:Int} {cs:List (List UInt8)} (h:cf xs=0) (h2:bc p=false):fV xs p day cs=150:=by
 unfold fV;rw [if_neg (fun h3=>h3 h),h2];rfl
theorem GO {xs:List QC} {p:PL} {day:Int} {cs:List (List UInt8)} (h:cf xs=0) (h2:bc p=true) (h3:day < 0\/day > 73048):fV xs p day cs=50:=by
 unfold fV;rw [if_neg (fun h3=>h3 h),if_pos h2,if_pos h3]
theorem M7 {xs:List QC} {p:PL} {day:Int} {cs:List (List UInt8)} (h:cf xs=0) (h2:bc p=true) (h3:¬ (day < 0\/day > 73048)):fV xs p day cs=if cs.all aF then 0 else 160:=by
 unfold fV;rw [if_neg (fun h3=>h3 h),if_pos h2,if_neg h3]
theorem NS {p:List UInt8->Bool} {cs:List (List UInt8)} (h:∀ (j:Nat) c,cs[j]? = some c->p c=true):cs.all p=true:=by
 rw [List.all_eq_true]
 intro x hx
 obtain ⟨j,hj⟩:=List.getElem?_of_mem hx
 exact h j x hj
theorem Lf {p:List UInt8->Bool} {cs:List (List UInt8)} {j:Nat} {c:List UInt8} (hj:cs[j]? = some c) (h:p c=false):cs.all p=false:=by
 rw [List.all_eq_false]
 exact ⟨c,List.mem_of_getElem? hj,by rw [h];simp⟩
theorem K0 {E:Env} (hE:E.P=Tryz.prog) {v vp vc:Value} {xs:List QC} {p:PL} (h:MkR E v vp xs p) (k day:Int) {cs:List (List UInt8)} (hc:Lst E vc 1 cs.length (cat bF cs)) (hn:cs.length<=100):OwnC E 89 [SV.c (.agg (dY v vp p k day)),SV.c vc] [] (fun x U=>x=.int .i64 (fV xs p day cs)/\U=[]):=by
 refine aD [] ai ak PN E hE [SV.c (.agg (dY v vp p k day)),SV.c vc] [] _ rfl rfl fun w X β hT=>?_
 have hr:=h.of_old hT
 have hc':=hc.of_old hT
 obtain ⟨ac,capc,rfl,hcc,h4⟩:=id hc'.shape
 have C1:=wJ rfl hr.l hr.n hr.inn
 have C2:=wK rfl hr.s hr.m hr.pin
 have M:=ji v vp p k day
 have M0:=GS v vp p k day
 have M1:=GQ v vp p k day
 have M3:=B8 v vp p k day
 generalize dY v vp p k day=MA at *
 refine ⟨M,_,M0,?_⟩
 refine .inr (.inr (.inl ⟨[],[_],[],_,[],C1,rfl,trivial,rfl,rfl,fun c=>?_,fun c=>?_⟩))
 ·have c:(cf xs != 0)=true:=c
  refine ⟨[],[],⟨?_,rfl⟩,trivial,rfl⟩
  rw [M9 (by simpa using c)];rfl
 ·have c:(cf xs != 0)=false:=c
  have c:cf xs=0:=by simpa using c
  refine ⟨by decide,_,M1,.inr (.inr (.inl ⟨[],[_],[],_,[],C2,rfl,trivial,rfl,rfl,fun c2=>?_,fun c2=>?_⟩))⟩
  ·have c2:((if bc p then (0:Int) else 150) != 0)=true:=c2
   have c2:bc p=false:=by cases e:bc p<;>simp [e] at c2 ⊢
   refine ⟨[],[],⟨?_,rfl⟩,trivial,rfl⟩
   rw [M8 c c2,c2];rfl
  ·have c2:((if bc p then (0:Int) else 150) != 0)=false:=c2
   have c2:bc p=true:=by cases e:bc p<;>simp [e] at c2 ⊢
   refine ⟨_,M3,fun d1=>?_,fun d1=>?_⟩
   ·have d1:=ag d1
    refine ⟨_,M3,fun d2=>?_,fun d2=>?_⟩
    ·have d2:=af (show decide (day > 73048)=true from d2)
     refine ⟨[],[],⟨?_,rfl⟩,trivial,rfl⟩
     rw [GO c c2 (.inr d2)];rfl
    ·have d2:=ag (show decide (day > 73048)=false from d2)
     have hm:=M7 (cs:=cs) c c2 (day:=day) (by omega)
     refine ⟨_,fun w' _=>ao Tryz.underlying27 w',?_⟩
     refine ⟨fun q f m=>∃ (i:Nat),q=cs.length - i/\i<=cs.length/\(∀ (j:Nat) c,j < i->cs[j]? = some c->aF c=true)/\f=[(29,SV.c (.slice ac cs.length capc)),(30,SV.c (.int .i64 (cs.length:Nat))),(31,SV.c (.int .i64 (i:Nat)))]/\m=[],cs.length,⟨_,_,⟨0,by omega,by omega,fun j c h=>by omega,rfl,rfl⟩,⟨rfl,rfl,rfl,trivial⟩,trivial,rfl⟩,?_⟩
     rintro q f m ⟨i,rfl,hi,hall,rfl,rfl⟩
     refine ⟨fun h=>?_,fun h=>?_⟩
     ·have h:i < cs.length:=by have:=af h;omega
      obtain ⟨b,o,rfl,h5⟩:=h4 (by omega)
      obtain ⟨y,hy⟩:∃ y,cs[i]? = some y:=⟨_,List.getElem?_eq_getElem h⟩
      have hE':VOk (aY Tryz.prog tt Tryz.f89.ntmps w X (aJ [] β)):=ai
      have L1:=jE hE' h5 dj hy (j:=0) (v:=.string (S y)) rfl (ty:=9) (ti:=ti9) rfl rfl (p:=aO o ((i:Nat):Int) ti9.size) (iC o i)
      refine ⟨by omega,by omega,.inl ⟨_,L1,.inl ⟨_,Nz y,fun g=>?_,fun g=>?_⟩⟩⟩
      ·have g:(!aF y)=true:=g
       refine ⟨[],[],⟨?_,rfl⟩,trivial,rfl⟩
       rw [hm,Lf hy (by simpa using g)];rfl
      ·have g:(!aF y)=false:=g
       have g:aF y=true:=by simpa using g
       exact ⟨cs.length - (i+1),_,_,by omega,⟨i+1,rfl,by omega,fun j z hj hz=>by
        rcases Nat.lt_or_ge j i with h9 | h9
        ·exact hall j z h9 hz
        ·have:j=i:=by omega
         subst this;rw [hy] at hz;cases hz;exact g,rfl,rfl⟩,⟨rfl,rfl,ar (ax (by omega)),trivial⟩,trivial,rfl⟩
     ·have h:i=cs.length:=by have:=ag h;omega
      subst h
      refine ⟨[],[],⟨?_,rfl⟩,trivial,rfl⟩
      rw [hm,NS fun j z hz=>hall j z (List.getElem?_eq_some_iff.1 hz).1 hz];rfl
   ·have d1:=af (show decide (day < 0)=true from d1)
    refine ⟨fun _=>?_,fun h=>absurd h (by decide)⟩
    refine ⟨[],[],⟨?_,rfl⟩,trivial,rfl⟩
    rw [GO c c2 (.inl d1)];rfl
theorem KV (l:List UInt8):ay Tryz.prog 59 [SV.c (.string (S l))] (.bool (aF l)):=by
 refine al ai ak Uu _ _ rfl rfl fun w=>?_
 have hx:∀ i:Nat,i < l.length->bH ((iP Tryz.prog tt Tryz.f59.ntmps w).toEnv) (Instr.index 9 (.string (S l)) (.int .i64 (i:Int))) (.int .u8 ((l.getD i 0).toNat:Nat)):=fun i h=>dO Tryz.underlying9 i rfl h
 rw [Il]
 refine ⟨_,fun w _=>aH Tryz.underlying9 w,fun h=>?_,fun h=>?_⟩
 ·have h:((l.length:Int) == 3)=true:=h
  have h:(l.length:Int)=3:=by simpa using h
  rw [decide_eq_true h,Bool.true_and]
  refine ⟨_,hx 0 (by omega),.inl ⟨_,qZ _,fun h0=>⟨_,hx 1 (by omega),.inl ⟨_,qZ _,fun h1=>⟨_,hx 2 (by omega),.inl ⟨_,qZ _,bv ?_,trivial⟩⟩,fun h1=>⟨bv ?_,trivial⟩⟩⟩,fun h0=>⟨nofun,fun _=>⟨bv ?_,trivial⟩⟩⟩⟩
  ·rw [show mi l 0=true from h0,show mi l 1=true from h1];rfl
  ·rw [show mi l 0=true from h0,show mi l 1=false from h1];rfl
  ·rw [show mi l 0=false from h0];rfl
 ·have h:((l.length:Int) == 3)=false:=h
  have h:¬ (l.length:Int)=3:=by simpa using h
  rw [decide_eq_false h,Bool.false_and]
  refine ⟨nofun,fun _=>⟨nofun,fun _=>⟨rfl,trivial⟩⟩⟩
theorem Ph:ay Tryz.prog 29 [] (.agg df.A):=by
 refine al ai ak UP _ _ rfl rfl fun w=>?_
 exact .inl ⟨_,Bn (n:=1) (by decide) (by decide),RQ.A_fits _,rfl,trivial⟩
theorem Iv {E:Env} (hE:E.P=Tryz.prog) {v vp:Value} {xs:List QC} {p:PL} (h:MkR E v vp xs p) (k day:Int) {cs:List (List UInt8)} {n:Nat} {vc:Value} (hn:n=cs.length) (hn2:n<=100):OwnC E 89 [SV.c (.agg (dY v vp p k day)),SV.c vc] [(9300,Blk.own vc 9 1 n (cat bF cs))] (fun x U=>x=.int .i64 (fV xs p day cs)/\U=[(9300,Blk.own vc 9 1 n (cat bF cs))]):=by
 subst hn
 refine (OwnC.with_own2 (k:=9300) (v:=vc) (e:=9) (sz:=1) (n:=cs.length) (A:=cat bF cs) (pre:=[]) (Q:=fun x U=>x=.int .i64 (fV xs p day cs)/\U=[]) rfl rfl (Go.SX.cat_all gP cs) (by rw [hE];exact PN.enters) (fun E0 h0 ho hl=>K0 (h0.trans hE) (h.of_old ho) k day hl hn2) (fun x U h=>by rw [h.2];rfl)).mono ?_
 rintro r U ⟨U0,⟨h1,rfl⟩,rfl⟩
 exact ⟨h1,rfl⟩
def ka (f:List UInt8->List UInt8->Option RQ):RQ->List (List UInt8)->Option RQ
 | r,a :: b :: cs=>match f a b with
  | some s=>ka f (bR r s).1 (b :: cs)
  | none=>none
 | r,_=>some r
theorem N4 {E:Env} (hE:E.P=Tryz.prog) {v vp vc:Value} {xs:List QC} {p:PL} (h:MkR E v vp xs p) (hv:v.oneCell'=true) (hvp:vp.oneCell'=true) (k day:Int) {cs:List (List UInt8)} (hc:Lst E vc 1 cs.length (cat bF cs)) (hn:cs.length<=100) (hn1:2<=cs.length) (hok:∀ c∈cs,aF c=true):OwnC E 91 [SV.c (.agg (dY v vp p k day)),SV.c vc] [] (fun x U=>x=JX (ka (fW xs k p day) df cs)/\U=[]):=by
 refine aD [] ai ak PM E hE [SV.c (.agg (dY v vp p k day)),SV.c vc] [] _ rfl rfl fun w X β hT=>?_
 have hr:=h.of_old hT
 have hc':=hc.of_old hT
 obtain ⟨ac,capc,rfl,hcc,h4⟩:=id hc'.shape
 obtain ⟨b,o,rfl,h5⟩:=h4 (by omega)
 have M:=ji v vp p k day
 have LG:=fun (a b:List UInt8) (ha:aF a=true) (hb:aF b=true)=>Pp (E:=(aY Tryz.prog tt Tryz.f91.ntmps w X (aJ [] β)).toEnv) rfl hr hv hvp k day ha hb
 generalize dY v vp p k day=MA at *
 refine ⟨M,.inl ⟨_,dK (n:=1) (by decide) (by decide),RQ.A_fits _,?_⟩⟩
 have hE':VOk (aY Tryz.prog tt Tryz.f91.ntmps w X (aJ [] β)):=ai
 have S1:=jc hE' Tryz.underlying27 (j:=ti9) rfl (a:=some ⟨b,o,none⟩) (n:=cs.length) (cap:=capc) (k:=.i64) 1 rfl (by omega)
 rw [if_neg (by omega)] at S1
 refine ⟨_,S1,_,fun w' _=>ao Tryz.underlying27 w',?_⟩
 refine ⟨fun q f m=>∃ (i:Nat) (r:RQ),q=cs.length - 1 - i/\i+1<=cs.length/\r.In/\ka (fW xs k p day) df cs=ka (fW xs k p day) r (cs.drop i)/\f=[(1,SV.c (.slice (some ⟨b,o,none⟩) cs.length capc)),(2,SV.ptr 2 0),(4,SV.ptr 4 0),(6,SV.ptr 6 0),(13,SV.c (.slice (some ⟨b,o+1,none⟩) (cs.length - 1) (capc - 1))),(14,SV.c (.int .i64 ((cs.length - 1:Nat):Int))),(15,SV.c (.int .i64 (i:Nat)))]/\m=[(2,Blk.row 136 71 MA),(4,Blk.row 33 66 cR.zero),(6,Blk.row 33 66 r.A)],cs.length - 1,⟨_,_,⟨0,df,rfl,by omega,wb,rfl,rfl,rfl⟩,⟨rfl,rfl,rfl,rfl,rfl,rfl,rfl,trivial⟩,⟨rfl,rfl,rfl,trivial⟩,rfl⟩,?_⟩
 rintro q f m ⟨i,r,rfl,hi,hrin,hway,rfl,rfl⟩
 have RF:=r.A_fits
 refine ⟨fun g=>?_,fun g=>?_⟩
 ·have g:i < cs.length - 1:=by have:=af g;omega
  obtain ⟨c,hci⟩:∃ y,cs[i]? = some y:=⟨_,List.getElem?_eq_getElem (by omega)⟩
  obtain ⟨c',hci'⟩:∃ y,cs[i+1]? = some y:=⟨_,List.getElem?_eq_getElem (by omega)⟩
  have L1:=jE hE' h5 dj hci (j:=0) (v:=.string (S c)) rfl (ty:=9) (ti:=ti9) rfl rfl (p:=aO o ((i:Nat):Int) ti9.size) (iC o i)
  have L2:=jE hE' h5 dj hci' (j:=0) (v:=.string (S c')) rfl (ty:=9) (ti:=ti9) rfl rfl (p:=aO (o+1) ((i:Nat):Int) ti9.size) (by rw [iC (o+1) i];omega)
  have hdrop:cs.drop i=c :: c' :: cs.drop (i+2):=by
   rw [lN hci,lN hci']
  have hdrop':cs.drop (i+1)=c' :: cs.drop (i+2):=by rw [lN hci']
  have hw2:ka (fW xs k p day) df cs=match fW xs k p day c c' with
   | some s=>ka (fW xs k p day) (bR r s).1 (c' :: cs.drop (i+2))
   | none=>none:=by rw [hway,hdrop];rfl
  have oc:=hok c (List.mem_of_getElem? hci)
  have oc':=hok c' (List.mem_of_getElem? hci')
  have G1:=LG c c' oc oc'
  refine ⟨by omega,by omega,.inl ⟨_,L2,by omega,by omega,.inl ⟨_,L1,?_⟩⟩⟩
  cases e:fW xs k p day c c' with
  | none =>
   rw [e] at hw2 G1
   have hw2:ka (fW xs k p day) df cs=none:=hw2
   refine .inr (.inr (.inl ⟨[],[_,_,_],[],_,[],G1,rfl,trivial,rfl,rfl,(RQ.of 0 0).A_fits,by kernel_rfl,fun c1=>?_,fun c1=>absurd (show true=false from c1) (by decide)⟩))
   refine ⟨_,rfl,(RQ.of 0 0).A_fits,[],[],⟨?_,rfl⟩,trivial,rfl⟩
   rw [hw2];rfl
  | some s =>
   rw [e] at hw2 G1
   have hw2:ka (fW xs k p day) df cs=ka (fW xs k p day) (bR r s).1 (c' :: cs.drop (i+2)):=hw2
   have hs:Leg s:=by
    unfold fW at e
    split at e
    ·cases e
    ·exact kW (fY oc) (fY oc') e
   refine .inr (.inr (.inl ⟨[],[_,_,_],[],_,[],G1,rfl,trivial,rfl,rfl,s.A_fits,by kernel_rfl,fun c1=>absurd (show false=true from c1) (by decide),fun c1=>?_⟩))
   refine .inl ⟨_,Aj hrin hs.in_,RQ.A_fits _,?_⟩
   refine ⟨cs.length - 1 - (i+1),_,_,by omega,⟨i+1,(bR r s).1,rfl,by omega,pK _ _,by rw [hdrop'];exact hw2,rfl,rfl⟩,⟨rfl,rfl,rfl,rfl,rfl,rfl,ar (ax (by omega)),trivial⟩,⟨rfl,rfl,rfl,trivial⟩,rfl⟩
 ·have g:i=cs.length - 1:=by have:=ag g;omega
  subst g
  obtain ⟨c,hci⟩:∃ y,cs[cs.length - 1]? = some y:=⟨_,List.getElem?_eq_getElem (by omega)⟩
  have hd:cs.drop (cs.length - 1)=[c]:=by
   rw [lN hci,List.drop_eq_nil_of_le (by omega)]
  have hway:ka (fW xs k p day) df cs=some r:=by rw [hway,hd];rfl
  refine ⟨RF,[],[],⟨?_,rfl⟩,trivial,rfl⟩
  rw [hway];rfl
theorem Fa {E:Env} (hE:E.P=Tryz.prog) {v vp vc:Value} {xs:List QC} {p:PL} (h:MkR E v vp xs p) (hv:v.oneCell'=true) (hvp:vp.oneCell'=true) (k day:Int) {cs:List (List UInt8)} {n:Nat} (hcn:n=cs.length) (hn:n<=100) (hn1:2<=n) (hok:∀ c∈cs,aF c=true):OwnC E 91 [SV.c (.agg (dY v vp p k day)),SV.c vc] [(9300,Blk.own vc 9 1 n (cat bF cs))] (fun x U=>x=JX (ka (fW xs k p day) df cs)/\U=[(9300,Blk.own vc 9 1 n (cat bF cs))]):=by
 subst hcn
 refine (OwnC.with_own2 (k:=9300) (v:=vc) (e:=9) (sz:=1) (n:=cs.length) (A:=cat bF cs) (pre:=[]) (Q:=fun x U=>x=JX (ka (fW xs k p day) df cs)/\U=[]) rfl rfl (Go.SX.cat_all gP cs) (by rw [hE];exact PM.enters) (fun E0 h0 ho hl=>N4 (h0.trans hE) (h.of_old ho) hv hvp k day hl hn hn1 hok) (fun x U h=>by rw [h.2];rfl)).mono ?_
 rintro r U ⟨U0,⟨h1,rfl⟩,rfl⟩
 exact ⟨h1,rfl⟩
theorem Eb (a b:List UInt8):Instr.fill (fun k=>some (k*ti9.size,ti9.size)) (madeCells ti9.zero (2*ti9.size)) [(0,.string (S a)),(1,.string (S b))]=some (cat bF [a,b]):=by kernel_rfl
theorem uT (a b c:List UInt8):Instr.fill (fun k=>some (k*ti9.size,ti9.size)) (madeCells ti9.zero (3*ti9.size)) [(0,.string (S a)),(1,.string (S b)),(2,.string (S c))]=some (cat bF [a,b,c]):=by kernel_rfl
theorem HV (b:Option Addr) (n d:Nat) (a:Option Addr) (m c:Nat) (p:PL) (k day:Int) {pl:List (Nat×Nat)} (hpl:pl=[(0,1),(1,68),(69,1),(70,1)]):Instr.fill (fun k=>pl[k]?) FD.zero [(0,.slice b n d),(1,.agg (p.A (.slice a m c))),(2,.int .i64 k),(3,.int .i64 day)]=some (dY (.slice b n d) (.slice a m c) p k day):=by
 subst hpl
 have:=ld (pl:=fun k=>[(0,1),(1,68),(69,1),(70,1)][k]?) (vs:=[.slice b n d,.agg (p.A (.slice a m c)),.int .i64 k,.int .i64 day]) (Z:=FD.zero) ⟨by simp [Value.cells],by simp [Value.cells,PL.size],by simp [Value.cells,PL.size],by simp [Value.cells,PL.size],trivial⟩ (by simp [ir,Value.cells,PL.size];rfl)
 rw [show ir [.slice b n d,.agg (p.A (.slice a m c)),.int .i64 k,.int .i64 day]=dY (.slice b n d) (.slice a m c) p k day by simp [ir,Value.cells,dY]] at this
 exact this
theorem Mq {f:List UInt8->List UInt8->Option RQ} {a b:List UInt8} (hok:∀ r,f a b=some r->r.ok=true):ka f df [a,b]=f a b:=by
 show (match f a b with | some s=>some (bR df s).1 | none=>none)=_
 cases e:f a b with
 | none=>rfl
 | some s=>show some (bR df s).1=_;rw [xV (hok s e)]
theorem Mp {f:List UInt8->List UInt8->Option RQ} {a b c:List UInt8} (hok:∀ r,f a b=some r->r.ok=true):ka f df [a,b,c]=match f a b,f b c with
    | some x,some y=>some (bR x y).1
    | _,_=>none:=by
 show (match f a b with | some s=>(match f b c with | some t=>some (bR (bR df s).1 t).1 | none=>none) | none=>none)=_
 cases e:f a b with
 | none=>rfl
 | some s =>
  show (match f b c with | some t=>some (bR (bR df s).1 t).1 | none=>none)=_
  rw [xV (hok s e)]
  cases f b c<;>rfl
theorem Cg {xs:List QC} {k:Int} {p:PL} {day:Int} {a b:List UInt8} (ha:aF a=true) (hb:aF b=true) {r:RQ} (h:fW xs k p day a b=some r):Leg r:=by
 unfold fW at h
 split at h
 ·cases h
 ·exact kW (fY ha) (fY hb) h
theorem wk {xs:List QC} {k:Int} {p:PL} {day:Int} {a b:List UInt8} (h:a≠b):fW xs k p day a b=iN xs k p day a b:=by unfold fW;rw [if_neg h]
theorem JJ {xs:List QC} {k:Int} {p:PL} {day:Int} {v a b:List UInt8} (h:fV xs p day [v,a,b]≠0):cv xs k p day v a b=(aG,fV xs p day [v,a,b]):=by unfold cv;rw [if_pos h]
theorem JI {xs:List QC} {k:Int} {p:PL} {day:Int} {v a b:List UInt8} (h:fV xs p day [v,a,b]=0) (h2:a=b):cv xs k p day v a b=(df,0):=by unfold cv;rw [if_neg (fun g=>g h),if_pos h2]
theorem JH {xs:List QC} {k:Int} {p:PL} {day:Int} {v a b:List UInt8} (h:fV xs p day [v,a,b]=0) (h2:a≠b) {r:RQ} (h3:iN xs k p day a b=some r):cv xs k p day v a b=(r,0):=by unfold cv;rw [if_neg (fun g=>g h),if_neg h2,h3]
theorem BP {xs:List QC} {k:Int} {p:PL} {day:Int} {v a b:List UInt8} (h:fV xs p day [v,a,b]=0) (h2:a≠b) (h3:iN xs k p day a b=none) (h4:v=a\/v=b):cv xs k p day v a b=(aG,161):=by unfold cv;rw [if_neg (fun g=>g h),if_neg h2,h3];simp only [];rw [if_pos h4]
theorem JG {xs:List QC} {k:Int} {p:PL} {day:Int} {v a b:List UInt8} (h:fV xs p day [v,a,b]=0) (h2:a≠b) (h3:iN xs k p day a b=none) (h4:¬ (v=a\/v=b)):cv xs k p day v a b=(match iN xs k p day a v,iN xs k p day v b with
    | some x,some y=>bR x y
    | _,_=>(aG,161)):=by unfold cv;rw [if_neg (fun g=>g h),if_neg h2,h3];simp only [];exact if_neg h4
theorem xA (n:Int):cW [.agg cR.zero,.int .i64 n]=j7 (aG,n):=by kernel_rfl
theorem NX {E:Env} (hE:E.P=Tryz.prog) {v vp:Value} {xs:List QC} {p:PL} (h:MkR E v vp xs p) (k day:Int) {u a b:List UInt8}:OwnC E 34 [SV.c v,SV.c (.agg (p.A vp)),SV.c (.int .i64 k),SV.c (.string (S u)),SV.c (.string (S a)),SV.c (.string (S b)),SV.c (.int .i64 day)] [] (fun x U=>x=j7 (cv xs k p day u a b)/\U=[]):=by
 refine aD [] ai ak UN E hE [SV.c v,SV.c (.agg (p.A vp)),SV.c (.int .i64 k),SV.c (.string (S u)),SV.c (.string (S a)),SV.c (.string (S b)),SV.c (.int .i64 day)] [] _ rfl rfl fun w X β hT=>?_
 have hr:=h.of_old hT
 obtain ⟨ap,capp,rfl,hcp,-⟩:=id hr.s.shape
 obtain ⟨av,capv,rfl,hcv,-⟩:=id hr.l.shape
 have F1:=p.size (.slice ap p.srcs.length capp)
 have FM:=HV av xs.length capv ap p.srcs.length capp p k day (pl:=[(0,1),(1,68),(69,1),(70,1)]) rfl
 have MF:=DK (v:=.slice av xs.length capv) (vp:=.slice ap p.srcs.length capp) p k day rfl rfl
 have CK:=fun (g:Nat)=>Iv (E:=(aY Tryz.prog tt Tryz.f34.ntmps w X (aJ [] β)).toEnv) rfl hr k day (cs:=[u,a,b]) (n:=3) (vc:=.slice (some ⟨g,0,none⟩) 3 3) rfl (by decide)
 have W2:=fun (g:Nat) hok=>Fa (E:=(aY Tryz.prog tt Tryz.f34.ntmps w X (aJ [] β)).toEnv) rfl hr rfl rfl k day (cs:=[a,b]) (n:=2) (vc:=.slice (some ⟨g,0,none⟩) 2 2) rfl (by decide) (by decide) hok
 have W3:=fun (g:Nat) hok=>Fa (E:=(aY Tryz.prog tt Tryz.f34.ntmps w X (aJ [] β)).toEnv) rfl hr rfl rfl k day (cs:=[a,u,b]) (n:=3) (vc:=.slice (some ⟨g,0,none⟩) 3 3) rfl (by decide) (by decide) hok
 generalize dY (.slice av xs.length capv) (.slice ap p.srcs.length capp) p k day=MA at *
 generalize p.A (.slice ap p.srcs.length capp)=PA at *
 refine ⟨F1,MA,FM,MF,?_⟩
 refine .inr ⟨by decide,by decide,by decide,_,uT u a b,rfl,trivial,fun g=>?_⟩
 refine .inr (.inr (.inl ⟨[(9300,31)],[_,_],[_],_,[_],CK g,rfl,⟨.inl rfl,trivial⟩,rfl,rfl,fun c=>?_,fun c=>?_⟩))
 ·have c:(fV xs p day [u,a,b] != 0)=true:=c
  refine ⟨_,rfl,(RQ.of 0 0).A_fits,[],[],⟨?_,rfl⟩,trivial,rfl⟩
  rw [JJ (by simpa using c)];exact xA _
 ·have c:(fV xs p day [u,a,b] != 0)=false:=c
  have c:fV xs p day [u,a,b]=0:=by simpa using c
  obtain ⟨-,-,-,-,hall⟩:=B7 c
  have hu:=hall u (by simp)
  have ha:=hall a (by simp)
  have hb:=hall b (by simp)
  refine ⟨fun d=>?_,fun d=>?_⟩
  ·have d:=kP d
   refine .inl ⟨_,dK (n:=1) (by decide) (by decide),RQ.A_fits _,[],[],⟨?_,rfl⟩,trivial,rfl⟩
   rw [JI c d];rfl
  ·have d:=kO d
   refine .inr ⟨by decide,by decide,by decide,_,Eb a b,rfl,trivial,fun g2=>?_⟩
   have G2:=W2 g2 (by intro z hz;simp at hz;rcases hz with rfl | rfl;exact ha;exact hb)
   rw [Mq (fun r hr=>(Cg ha hb hr).ok),wk d] at G2
   cases e:iN xs k p day a b with
   | some r =>
    rw [e] at G2
    refine .inr (.inr (.inl ⟨[(9300,45)],[_,_],[_],_,[_],G2,rfl,⟨.inl rfl,trivial⟩,rfl,rfl,RQ.A_fits _,fun c1=>?_,fun c1=>absurd (show true=false from c1) (by decide)⟩))
    refine ⟨RQ.A_fits _,[],[],⟨?_,rfl⟩,trivial,rfl⟩
    rw [JH c d e];rfl
   | none =>
    rw [e] at G2
    refine .inr (.inr (.inl ⟨[(9300,45)],[_,_],[_],_,[_],G2,rfl,⟨.inl rfl,trivial⟩,rfl,rfl,RQ.A_fits _,fun c1=>absurd (show false=true from c1) (by decide),fun c1=>?_⟩))
    refine ⟨fun z1=>?_,fun z1=>?_⟩
    ·have z1:(!((S u).toList == (S a).toList))=true:=z1
     have z1:u≠a:=kO (by simpa using z1)
     refine ⟨fun z2=>?_,fun z2=>?_⟩
     ·have z2:(!((S u).toList == (S b).toList))=true:=z2
      have z2:u≠b:=kO (by simpa using z2)
      have hq:=JG c d e (by rintro (h | h);exact z1 h;exact z2 h)
      refine .inr ⟨by decide,by decide,by decide,_,uT a u b,rfl,trivial,fun g3=>?_⟩
      have G3:=W3 g3 (by intro z hz;simp at hz;rcases hz with rfl | rfl | rfl;exact ha;exact hu;exact hb)
      have W:=Mp (f:=fW xs k p day) (a:=a) (b:=u) (c:=b) (fun r hr=>(Cg ha hu hr).ok)
      rw [wk (fun h=>z1 h.symm),wk z2] at W
      cases e1:iN xs k p day a u with
      | none =>
       rw [e1] at W hq
       have W:ka (fW xs k p day) df [a,u,b]=none:=W
       rw [W] at G3
       have hq:cv xs k p day u a b=(aG,161):=hq
       refine .inr (.inr (.inl ⟨[(9300,64)],[_,_],[_],_,[_],G3,rfl,⟨.inl rfl,trivial⟩,rfl,rfl,RQ.A_fits _,fun c1=>absurd (show false=true from c1) (by decide),fun _=>?_⟩))
       refine ⟨_,rfl,(RQ.of 0 0).A_fits,[],[],⟨?_,rfl⟩,trivial,rfl⟩
       rw [hq];exact xA _
      | some x =>
       cases e2:iN xs k p day u b with
       | none =>
        rw [e1,e2] at W hq
        have W:ka (fW xs k p day) df [a,u,b]=none:=W
        rw [W] at G3
        have hq:cv xs k p day u a b=(aG,161):=hq
        refine .inr (.inr (.inl ⟨[(9300,64)],[_,_],[_],_,[_],G3,rfl,⟨.inl rfl,trivial⟩,rfl,rfl,RQ.A_fits _,fun c1=>absurd (show false=true from c1) (by decide),fun _=>?_⟩))
        refine ⟨_,rfl,(RQ.of 0 0).A_fits,[],[],⟨?_,rfl⟩,trivial,rfl⟩
        rw [hq];exact xA _
       | some y =>
        rw [e1,e2] at W hq
        have W:ka (fW xs k p day) df [a,u,b]=some (bR x y).1:=W
        have hq:cv xs k p day u a b=bR x y:=hq
        have lx:=kW (fY ha) (fY hu) e1
        have ly:=kW (fY hu) (fY hb) e2
        obtain ⟨t,m1,-,-,-,-⟩:=J3 lx ly
        rw [m1] at W hq
        rw [W] at G3
        refine .inr (.inr (.inl ⟨[(9300,64)],[_,_],[_],_,[_],G3,rfl,⟨.inl rfl,trivial⟩,rfl,rfl,RQ.A_fits _,fun _=>?_,fun c1=>absurd (show true=false from c1) (by decide)⟩))
        refine ⟨RQ.A_fits _,[],[],⟨?_,rfl⟩,trivial,rfl⟩
        rw [hq];rfl
     ·have z2:(!((S u).toList == (S b).toList))=false:=z2
      have z2:u=b:=kP (by simpa using z2)
      refine ⟨_,rfl,(RQ.of 0 0).A_fits,[],[],⟨?_,rfl⟩,trivial,rfl⟩
      rw [BP c d e (.inr z2)];exact xA _
    ·have z1:(!((S u).toList == (S a).toList))=false:=z1
     have z1:u=a:=kP (by simpa using z1)
     refine ⟨fun h=>absurd h (by decide),fun _=>?_⟩
     refine ⟨_,rfl,(RQ.of 0 0).A_fits,[],[],⟨?_,rfl⟩,trivial,rfl⟩
     rw [BP c d e (.inl z1)];exact xA _
theorem of_ok {n:Int} (hn:Bd 60 n):(RQ.of n 1).ok=true:=by
 rw [LJ hn]
 obtain ⟨r,e1,e2,e3,e4,e5⟩:=mq (y:=1) (by decide) hn (show Bd 1 1 from by unfold Bd;decide)
 rw [e1];exact e2
end Go.Proofs.YtklehfchdoikeaaGreatDoor
