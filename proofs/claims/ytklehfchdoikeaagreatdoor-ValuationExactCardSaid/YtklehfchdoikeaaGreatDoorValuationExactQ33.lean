/- chapter 20: prices and rates, the document. chapter 20: a li; no condition. -/
import Derived.Test.YtklehfchdoikeaaGreatDoorValuationExactQ32
set_option maxRecDepth 100000
set_option maxHeartbeats 4000000
namespace Go.Proofs.YtklehfchdoikeaaGreatDoor
open Go Go.RowKit Go.SX
def lT (v:VQ) (k:Bs):Value:=.tuple #[.agg (aY v (.h (k,0))).1.price.A,.string (S (aY v (.h (k,0))).2.1),.int .i64 (aY v (.h (k,0))).1.day,.int .i64 (aY v (.h (k,0))).2.2]
theorem vA {v:VQ} {k:Bs} {y:NeQ} (h:v.nst.find? (fun n=>decide (n.ins=k))=some y):lT v k=.tuple #[.agg y.price.A,.string (S y.cur),.int .i64 v.day,.int .i64 0]:=by
 simp only [lT,aY,h]
theorem vz {v:VQ} {k:Bs} (h:v.nst.find? (fun n=>decide (n.ins=k))=none):lT v k=.tuple #[.agg (cB (aZ v.qs v.known v.pol k v.day) v.pol.tol).price.A,.string (S (cB (aZ v.qs v.known v.pol k v.day) v.pol.tol).cur),.int .i64 (cB (aZ v.qs v.known v.pol k v.day) v.pol.tol).day,.int .i64 (iV v.qs v.known v.pol k v.day)]:=by
 simp only [lT,aY,h]
theorem DQ {E:Env} (hE:E.P=Tryz.prog) {v:VQ} {vh vc vp vq vs vn va:Value} {A:Array Value} (hA:VA v vh vc vp vq vs vn va A) (I:VIn E v vh vc vp vq vs vn va) (k:Bs):OwnC E 105 [SV.c (.agg A),SV.c (.string (S k))] [] (fun r U=>r=lT v k/\U=[]):=by
 refine aA [] ai ak Qb E hE [SV.c (.agg A),SV.c (.string (S k))] [] _ rfl rfl fun w X β hT=>?_
 have J:=I.of_old hT
 have hE2:(aT Tryz.prog tt Tryz.f105.ntmps w X (aF [] β)).toEnv.P=Tryz.prog:=rfl
 have S1:=nQ (k:=v.known) hE2 J.q.l J.q.n J.q.inn J.q.s J.q.m J.q.pin k v.day
 obtain ⟨hs,g0,g1,g2,g3,g4,g5,g6,g7,gp,gl,g76,g77⟩:=hA
 obtain ⟨an,cn,rfl,-,h4⟩:=J.n.shape
 have hf:=fun y=>vA (v:=v) (k:=k) (y:=y)
 have hg:=vz (v:=v) (k:=k)
 generalize lT v k=PR at *
 refine ⟨hs,?_⟩
 refine ⟨fun q f m=>∃ (i:Nat),q=v.nst.length - i/\i<=v.nst.length/\(∀ (j:Nat) y,j < i->v.nst[j]? = some y->¬ y.ins=k)/\f=[(1,SV.c (.string (S k))),(2,SV.ptr 2 0),(4,SV.ptr 4 0),(8,SV.c (.int .i64 (i:Nat)))]/\m=[(2,Blk.row 39 78 A),(4,Blk.row 33 66 bZ.zero)],v.nst.length,⟨_,_,⟨0,rfl,by omega,fun j y h=>by omega,rfl,rfl⟩,⟨rfl,rfl,rfl,rfl,trivial⟩,⟨rfl,rfl,trivial⟩,rfl⟩,?_⟩
 rintro q f m ⟨i,rfl,hi,hno,rfl,rfl⟩
 refine ⟨_,g76,_,fun w' _=>al Tryz.underlying36 w',fun h=>?_,fun h=>?_⟩
 ·have h:i < v.nst.length:=by have:=af h;omega
  obtain ⟨b,o,rfl,h5⟩:=h4 (by omega)
  obtain ⟨y,hy⟩:∃ y,v.nst[i]? = some y:=⟨_,List.getElem?_eq_getElem h⟩
  have hE':VOk (aT Tryz.prog tt Tryz.f105.ntmps w X (aF [] β)):=ai
  have eo:aL o ((i:Nat):Int) lQ.size=o+i*68:=lZ o i 68 (by decide)
  have L0:=aW hE' h5 NeQ.size hy y.g0 (ty:=9) (ti:=ti9) rfl rfl (p:=aL o ((i:Nat):Int) lQ.size+0) (by rw [eo])
  have L1:=aW hE' h5 NeQ.size hy y.g1 (ty:=9) (ti:=ti9) rfl rfl (p:=aL o ((i:Nat):Int) lQ.size+1) (by rw [eo])
  have L2:=zZ hE' h5 NeQ.size hy y.gprice (by decide) (ty:=33) (ti:=bZ) rfl rfl rfl (p:=aL o ((i:Nat):Int) lQ.size+2) (by rw [eo,Nat.add_assoc])
  have PF:=y.price.A_fits
  refine ⟨_,g76,by omega,by omega,.inl ⟨_,L0,fun c=>?_,fun c=>?_⟩⟩
  ·have c:y.ins=k:=by
     have c:decide (y.ins=k)=true:=by rw [<- dn];exact c
     exact af c
   have hf:=hf y (Ah hy c hno)
   refine ⟨_,g76,by omega,by omega,.inl ⟨_,L2,_,g76,by omega,by omega,.inl ⟨_,L1,_,g2,PF,by kernel_rfl,?_⟩⟩⟩
   exact ⟨[],[],⟨by rw [hf];rfl,rfl⟩,trivial,rfl⟩
  ·have c:¬ y.ins=k:=by
     have c:decide (y.ins=k)=false:=by rw [<- dn];exact c
     exact ag c
   refine ⟨v.nst.length - (i+1),_,_,by omega,⟨i+1,rfl,by omega,fun j z hj hz=>?_,rfl,rfl⟩,⟨rfl,rfl,rfl,am (ar (by have:=I.nb;omega)),trivial⟩,⟨rfl,rfl,trivial⟩,rfl⟩
   rcases Nat.lt_or_ge j i with h9 | h9
   ·exact hno j z h9 hz
   ·have:j=i:=by omega
    subst this
    rw [hy] at hz;cases hz
    exact c
 ·have h:i=v.nst.length:=by have:=ag h;omega
  subst h
  have hg:=hg (ou fun j y hy=>hno j y (List.getElem?_eq_some_iff.1 hy).1 hy)
  clear h4
  generalize v.pol.A vs=PA at *
  unfold yV at S1
  generalize cB (aZ v.qs v.known v.pol k v.day) v.pol.tol=C at *
  generalize iV v.qs v.known v.pol k v.day=SE at *
  generalize j9 (aZ v.qs v.known v.pol k v.day) v.pol.tol=SB at *
  refine ⟨_,g7,by decide,_,gl,_,g3,_,g2,?_⟩
  refine .inr (.inr (.inr ⟨[],[9000],[_,_,_,_,_],[],_,S1,rfl,trivial,rfl,trivial,?_⟩))
  rintro r1 U1 ⟨s1,n1,hn1,rfl,hs1,rfl⟩
  obtain ⟨sa1,sc1,rfl⟩:=hs1.len
  have CF:=CH.fits C (a:=sa1) (n:=n1) (c:=sc1)
  have C1:=CH.g1 C (.slice sa1 n1 sc1)
  have C2:=CH.g2 C (.slice sa1 n1 sc1)
  have C3:=CH.g3 C (.slice sa1 n1 sc1)
  have PF:=C.price.A_fits
  generalize C.A (.slice sa1 n1 sc1)=CA at *
  refine ⟨rfl,CF,by decide,_,C3,_,C1,_,C2,PF,by kernel_rfl,?_⟩
  exact ⟨[],[],⟨by rw [hg];rfl,rfl⟩,trivial,rfl⟩
theorem zC {E:Env} (hE:E.P=Tryz.prog) {v:VQ} {vh vc vp vq vs vn va:Value} {A:Array Value} (hA:VA v vh vc vp vq vs vn va A) (I:VIn E v vh vc vp vq vs vn va) (a:Bs):OwnC E 106 [SV.c (.agg A),SV.c (.string (S a))] [] (fun r U=>r=iW (bY v.qs v.known v.pol v.day v.piv a v.cur)/\U=[]):=by
 refine aA [] ai ak Qa E hE [SV.c (.agg A),SV.c (.string (S a))] [] _ rfl rfl fun w X β hT=>?_
 have J:=I.of_old hT
 have hE2:(aT Tryz.prog tt Tryz.f106.ntmps w X (aF [] β)).toEnv.P=Tryz.prog:=rfl
 have RT:=KO hE2 J.q v.known v.day (u:=v.piv) (a:=a) (b:=v.cur)
 obtain ⟨hs,g0,g1,g2,g3,g4,g5,g6,g7,gp,gl,g76,g77⟩:=hA
 generalize bY v.qs v.known v.pol v.day v.piv a v.cur=R at *
 obtain ⟨R,e⟩:=R
 have RF:=R.A_fits
 generalize v.pol.A vs=PA at *
 refine ⟨hs,_,g7,by decide,_,gl,_,g3,_,g1,_,g0,_,g2,?_⟩
 refine .inr (.inr (.inl ⟨[],[_,_,_,_,_,_,_],[],_,[],RT,rfl,trivial,rfl,rfl,RF,?_⟩))
 exact ⟨[],[],⟨rfl,rfl⟩,trivial,rfl⟩
abbrev shM (v:VQ) (y:Value) (ls:List LnQ):aE:=[(9700,Blk.row 42 5 #[.string (S v.cur),.int .i64 v.day,.int .i64 v.known,y,.int .i64 (bk ls)]),(9800,Blk.own y 77 137 ls.length (cat LnQ.A ls))]
def RefS (v:VQ) (R:Except Int (List LnQ)) (r:Value) (U:aE):Prop:=∃ (y:Value) (ls:List LnQ),IsL y ls.length/\U=shM v y ls/\match R with
 | .error e=>r=.int .i64 e/\e≠0
 | .ok l2=>r=.int .i64 0/\ls=l2
def rt (ls:List LnQ) (l:LnQ):Except Int (List LnQ):=if (dq l.qty l.price l.rate).2≠0 then .error (dq l.qty l.price l.rate).2 else .ok (ls++[{ l with amt:=(dq l.qty l.price l.rate).1 }])
structure LsOk (ls:List LnQ):Prop where
 n:ls.length<=511
 b:∀ x∈ls,-1000000000000000<=x.amt/\x.amt<=1000000000000000
theorem LsOk.tot {ls:List LnQ} (h:LsOk ls) : -511000000000000000<=bk ls/\bk ls<=511000000000000000:=by
 have:=pc ls h.b
 have:=h.n
 omega
theorem yT {E:Env} (hE:E.P=Tryz.prog) {v:VQ} {y:Value} {ls:List LnQ} (hy:IsL y ls.length) (ho:LsOk ls) {l:LnQ} (hq : -9223372036854775808<=l.qty/\l.qty<=9223372036854775807) (hp:l.price.In) (hr:l.rate.In):OwnC E 49 [SV.ptr 9700 0,SV.c (.agg l.A)] (shM v y ls) (RefS v (rt ls l)):=by
 refine aA [] ai ak RJ E hE [SV.ptr 9700 0,SV.c (.agg l.A)] (shM v y ls) _ rfl rfl fun w X β hT=>?_
 have G3:=l.g3
 have GP:=l.gprice
 have GR:=l.grate
 have QA:=l.setamt
 have LF:=l.fits
 have AM:=Gq hq hp hr
 have hbd:=nD l.qty l.price l.rate
 have a1:(dq l.qty l.price l.rate).2≠0->rt ls l=.error (dq l.qty l.price l.rate).2:=fun h=>by unfold rt;rw [if_pos h]
 have a2:(dq l.qty l.price l.rate).2=0->rt ls l=.ok (ls++[{ l with amt:=(dq l.qty l.price l.rate).1 }]):=fun h=>by unfold rt;rw [if_neg (fun g=>g h)]
 have htt:=ho.tot
 generalize dq l.qty l.price l.rate=AQ at *
 obtain ⟨n,e⟩:=AQ
 generalize rt ls l=AD at *
 have FL:=qV { l with amt:=n }
 have XL:=LnQ.ext137 { l with amt:=n }
 have OL:=LnQ.one { l with amt:=n }
 have hsz:(LnQ.A { l with amt:=n }).size=1*137:=LnQ.size _
 have SL:=xb (g:=LnQ.A) ls { l with amt:=n }
 have QA:=QA n
 generalize hLA:l.A=LA at *
 generalize hLC:LnQ.A { l with amt:=n }=LC at *
 obtain ⟨qi,hqi,hbi⟩:=Ae
 obtain ⟨ya,yc,rfl⟩:=hy.len
 have hw:IntKind.i64.wrap (bk ls+n)=bk (ls++[{ l with amt:=n }]):=by
  rw [nL]
  have hbd : -1000000000000000<=n/\n<=1000000000000000:=hbd
  exact i64_in (by omega)
 have hn:=ho.n
 unfold shM
 refine ⟨LF.size,_,G3,by decide,_,GP,by decide,_,GR,.inl ⟨_,AM,fun c=>?_,fun c=>?_⟩⟩
 ·have c:(e != 0)=true:=c
  have c:e≠0:=by simpa using c
  refine ⟨[(9700,Blk.row 42 5 #[.string (S v.cur),.int .i64 v.day,.int .i64 v.known,.slice ya ls.length yc,.int .i64 (bk ls)]),(9800,Blk.own (.slice ya ls.length yc) 77 137 ls.length (cat LnQ.A ls))],[],⟨_,ls,hy,rfl,?_⟩,⟨rfl,.inl rfl,trivial⟩,rfl⟩
  rw [a1 c]
  exact ⟨rfl,c⟩
 ·have c:(e != 0)=false:=c
  have c:e=0:=by simpa using c
  refine ⟨by decide,rfl,LC,QA,?_⟩
  refine ⟨_,rfl,.inl ⟨by decide,by decide,_,FL,hsz,by decide,9800,ls.length,_,.inl rfl,by decide,OL,hsz,_,XL,?_⟩⟩
  refine ⟨by omega,by unfold maxLen;omega,⟨qi,hqi,by rw [hbi];omega⟩,by change _=true;kernel_rfl,fun g2 cap2=>?_⟩
  refine ⟨by decide,rfl,#[.string (S v.cur),.int .i64 v.day,.int .i64 v.known,.slice (some ⟨g2,0,none⟩) (ls.length+1) cap2,.int .i64 (bk ls)],rfl,by kernel_rfl,?_⟩
  refine ⟨_,rfl,by decide,rfl,#[.string (S v.cur),.int .i64 v.day,.int .i64 v.known,.slice (some ⟨g2,0,none⟩) (ls.length+1) cap2,.int .i64 (IntKind.i64.wrap (bk ls+n))],rfl,?_⟩
  have e1:(ls++[({ l with amt:=n }:LnQ)]).length=ls.length+1:=by simp
  refine ⟨[(9700,Blk.row 42 5 #[.string (S v.cur),.int .i64 v.day,.int .i64 v.known,.slice (some ⟨g2,0,none⟩) (ls.length+1) cap2,.int .i64 (IntKind.i64.wrap (bk ls+n))]),(9800,Blk.own (.slice (some ⟨g2,0,none⟩) (ls.length+1) cap2) 77 137 (ls.length+1) (cat LnQ.A ls++LC))],[],⟨.slice (some ⟨g2,0,none⟩) (ls.length+1) cap2,ls++[{ l with amt:=n }],by rw [e1];exact .some,?_,?_⟩,⟨rfl,.inl rfl,trivial⟩,rfl⟩
  ·unfold shM
   rw [hw,e1,SL]
  ·rw [a2 c]
   exact ⟨rfl,rfl⟩
def p7 (v:VQ) (ls:List LnQ) (its:List ItQ):Except Int (List LnQ):=match cj v its with
 | .error e=>.error e
 | .ok z=>.ok (ls++z)
theorem ka {v:VQ} {ls:List LnQ} {its:List ItQ} {e:Int} (h:cj v its=.error e):p7 v ls its=.error e:=by unfold p7;rw [h]
theorem zw {v:VQ} {ls z:List LnQ} {its:List ItQ} (h:cj v its=.ok z):p7 v ls its=.ok (ls++z):=by unfold p7;rw [h]
theorem DF {v:VQ} {l:List ItQ} {z:List LnQ} (h:cj v l=.ok z):z.length=l.length:=(jj h).1
structure LsR (ls:List LnQ) (k:Nat):Prop where
 n:ls.length+k<=512
 b:∀ x∈ls,-1000000000000000<=x.amt/\x.amt<=1000000000000000
theorem LsR.ok {v:VQ} {ls z:List LnQ} {l:List ItQ} {i:Nat} (h:LsR ls l.length) (hr:cj v (l.take i)=.ok z) (hi:i < l.length):LsOk (ls++z):=by
 have h1:=DF hr
 rw [List.length_take] at h1
 have:=h.n
 refine ⟨by rw [List.length_append];omega,fun x hx=>?_⟩
 rcases List.mem_append.1 hx with hx | hx
 ·exact h.b x hx
 ·exact (jj hr).2 x hx
theorem BS (v:VQ) (x:Bs×Int):∃ (d:Int) (p:RQ) (fr:Bs) (e:Int),aY v (.h x)=(⟨1,x.1,d,x.2,p,aN,0⟩,fr,e)/\lT v x.1=.tuple #[.agg p.A,.string (S fr),.int .i64 d,.int .i64 e]:=by
 cases h:v.nst.find? (fun n=>decide (n.ins=x.1)) with
 | some y=>exact ⟨v.day,y.price,y.cur,0,by simp only [aY,h],by rw [vA h]⟩
 | none=>exact ⟨(cB (aZ v.qs v.known v.pol x.1 v.day) v.pol.tol).day,(cB (aZ v.qs v.known v.pol x.1 v.day) v.pol.tol).price,(cB (aZ v.qs v.known v.pol x.1 v.day) v.pol.tol).cur,iV v.qs v.known v.pol x.1 v.day,by simp only [aY,h],by rw [vz h]⟩
theorem rq {ls:List LnQ} {l:LnQ} {n e:Int} (h:dq l.qty l.price l.rate=(n,e)) (he:e≠0):rt ls l=.error e:=by unfold rt;rw [h];exact if_pos he
theorem uE {ls:List LnQ} {l:LnQ} {n:Int} (h:dq l.qty l.price l.rate=(n,0)):rt ls l=.ok (ls++[{ l with amt:=n }]):=by unfold rt;rw [h];exact if_neg (by simp)
theorem wb {E:Env} (hE:E.P=Tryz.prog) {v:VQ} {vh vc vp vq vs vn va:Value} {A:Array Value} (hA:VA v vh vc vp vq vs vn va A) (I:VIn E v vh vc vp vq vs vn va) (hc:cY v=true) {y:Value} {ls:List LnQ} (hy:IsL y ls.length) (ho:LsR ls v.g.h.length):OwnC E 46 [SV.ptr 9700 0,SV.c (.agg A)] (shM v y ls) (RefS v (p7 v ls (v.g.h.map .h))):=by
 refine aA [] ai ak RM E hE [SV.ptr 9700 0,SV.c (.agg A)] (shM v y ls) _ rfl rfl fun w X β hT=>?_
 have J:=I.of_old hT
 have hE2:(aT Tryz.prog tt Tryz.f46.ntmps w X (aF (shM v y ls) β)).toEnv.P=Tryz.prog:=rfl
 have PR:=fun k=>DQ hE2 hA J k
 have RT:=fun a=>zC hE2 hA J a
 have AD:=fun {y:Value} {ls:List LnQ} (hy:IsL y ls.length) (ho:LsOk ls) {l:LnQ} hq hp hr=>yT hE2 (v:=v) hy ho (l:=l) hq hp hr
 obtain ⟨hs,g0,g1,g2,g3,g4,g5,g6,g7,gp,gl,g76,g77⟩:=hA
 obtain ⟨ah,ch,rfl,-,h4⟩:=J.pf.h.shape
 have hlen:(v.g.h.map ItQ.h).length=v.g.h.length:=by simp
 have ho':LsR ls (v.g.h.map ItQ.h).length:=by rw [hlen];exact ho
 have hget:∀ {i:Nat} {x:Bs×Int},v.g.h[i]? = some x->(v.g.h.map ItQ.h)[i]? = some (.h x):=fun h=>by rw [List.getElem?_map,h];rfl
 have hmem:∀ x∈v.g.h,ItQ.h x∈bx v:=fun x hx=>by unfold bx;simp [hx]
 generalize v.g.h.map ItQ.h=IL at *
 refine ⟨hs,?_⟩
 refine ⟨fun q f m=>∃ (i:Nat) (y:Value) (z:List LnQ),q=v.g.h.length - i/\i<=v.g.h.length/\cj v (IL.take i)=.ok z/\IsL y (ls++z).length/\f=[(0,SV.ptr 9700 0),(3,SV.ptr 3 0),(5,SV.c (.int .i64 (i:Nat)))]/\m=(3,Blk.row 39 78 A) :: shM v y (ls++z),v.g.h.length,⟨_,_,⟨0,y,[],rfl,by omega,rfl,by simpa using hy,rfl,rfl⟩,⟨rfl,rfl,rfl,trivial⟩,?_,rfl⟩,?_⟩
 ·rw [List.append_nil]
  exact ⟨rfl,rfl,.inl rfl,trivial⟩
 rintro q f m ⟨i,y,z,rfl,hi,hrun,hy,rfl,rfl⟩
 refine ⟨_,g4,_,fun w' _=>al Tryz.underlying22 w',fun h=>?_,fun h=>?_⟩
 ·have h:i < v.g.h.length:=by have:=af h;omega
  obtain ⟨b,o,rfl,h5⟩:=h4 (by omega)
  obtain ⟨x,hx⟩:∃ y,v.g.h[i]? = some y:=⟨_,List.getElem?_eq_getElem h⟩
  have hit:=hget hx
  have him:=hmem x (List.mem_of_getElem? hx)
  have hE':VOk (aT Tryz.prog tt Tryz.f46.ntmps w X (aF (shM v y ls) β)):=ai
  have L1:=bd hE' h5 ie hx (ty:=59) (ti:=pV) rfl rfl rfl (p:=aL o ((i:Nat):Int) pV.size) (lZ o i 2 (by decide))
  obtain ⟨d,p,fr,e,hLQ,hPR⟩:=BS v x
  have hin:=pw hc J.q.inn J.nin him
  rw [hLQ] at hin
  obtain ⟨hpin,hq1,hq2⟩:=hin
  have hpin:p.In:=hpin
  have hq1 : -2000000000000000<=x.2:=hq1
  have hq2:x.2<=2000000000000000:=hq2
  have P1:=PR x.1
  rw [hPR] at P1
  have PF:=p.A_fits
  have hsum:=ho'.ok hrun (show i < IL.length by omega)
  refine ⟨_,g4,by omega,by omega,.inl ⟨_,L1,jd x,_,rfl,?_⟩⟩
  refine .inr (.inr (.inl ⟨[],[_,_],[],_,[],P1,rfl,trivial,rfl,rfl,PF,fun c=>?_,fun c=>?_⟩))
  ·have c:(e != 0)=true:=c
   have c:e≠0:=by simpa using c
   refine ⟨shM v y (ls++z),[],⟨y,ls++z,hy,rfl,?_⟩,⟨rfl,.inl rfl,trivial⟩,rfl⟩
   rw [ka (fa hit hrun (zp hLQ c))]
   exact ⟨rfl,c⟩
  have c:(e != 0)=false:=c
  have c:e=0:=by simpa using c
  subst c
  obtain ⟨R,e2,hR⟩:∃ R e2,bY v.qs v.known v.pol v.day v.piv fr v.cur=(R,e2):=⟨_,_,rfl⟩
  have hRin:R.In:=by have:=mQ (xs:=v.qs) (k:=v.known) (p:=v.pol) (day:=v.day) (u:=v.piv) (a:=fr) (b:=v.cur);rw [hR] at this;exact this
  have RT:=RT fr
  rw [hR] at RT
  have RF:=R.A_fits
  refine .inr (.inr (.inl ⟨[],[_,_],[],_,[],RT,rfl,trivial,rfl,rfl,RF,fun c2=>?_,fun c2=>?_⟩))
  ·have c2:(e2 != 0)=true:=c2
   have c2:e2≠0:=by simpa using c2
   refine ⟨shM v y (ls++z),[],⟨y,ls++z,hy,rfl,?_⟩,⟨rfl,.inl rfl,trivial⟩,rfl⟩
   rw [ka (fa hit hrun (tA hLQ hR c2))]
   exact ⟨rfl,c2⟩
  have c2:(e2 != 0)=false:=c2
  have c2:e2=0:=by simpa using c2
  subst c2
  obtain ⟨n,e3,hN⟩:∃ n e3,dq x.2 p R=(n,e3):=⟨_,_,rfl⟩
  have F6:=qU 1 d x.2 x.1 p R rfl
  have AD:=AD hy hsum (l:=⟨1,x.1,d,x.2,p,R,0⟩) (by show _<=x.2/\x.2<=_;omega) hpin hRin
  generalize hLA:LnQ.A ⟨1,x.1,d,x.2,p,R,0⟩=LA at *
  refine ⟨_,rfl,_,rfl,LA,F6,?_⟩
  refine .inr (.inr (.inr ⟨[],[],[_,_],shM v y (ls++z),_,AD,rfl,⟨rfl,.inl rfl,trivial⟩,rfl,trivial,?_⟩))
  rintro r U ⟨y2,ls2,hy2,rfl,hm⟩
  refine ⟨rfl,?_⟩
  by_cases c3:e3=0
  ·subst c3
   rw [uE hN] at hm
   obtain ⟨rfl,rfl⟩:=hm
   have hst:=ph hLQ hR hN
   have hrun2:=nT hit hrun hst
   refine ⟨fun h=>absurd h (by decide),fun _=>?_⟩
   exact ⟨v.g.h.length - (i+1),_,(3,Blk.row 39 78 A) :: shM v y2 ((ls++z)++[LnQ.mk 1 x.1 d x.2 p R n]),by omega,⟨i+1,y2,z++[LnQ.mk 1 x.1 d x.2 p R n],rfl,by omega,hrun2,by rw [<- List.append_assoc];exact hy2,rfl,by rw [<- List.append_assoc]⟩,⟨rfl,rfl,am (ar (by have:=ho.n;omega)),trivial⟩,⟨rfl,rfl,.inl rfl,trivial⟩,rfl⟩
  ·rw [rq hN c3] at hm
   obtain ⟨rfl,-⟩:=hm
   refine ⟨fun _=>?_,fun h=>?_⟩
   ·refine ⟨shM v y2 ls2,[],⟨y2,ls2,hy2,rfl,?_⟩,⟨rfl,.inl rfl,trivial⟩,rfl⟩
    rw [ka (fa hit hrun (pi hLQ hR hN c3))]
    exact ⟨rfl,c3⟩
   ·have h:(e3 != 0)=false:=h
    exact absurd (by simpa using h) c3
 ·have h:i=v.g.h.length:=by have:=ag (show decide (((i:Nat):Int) < ((v.g.h.length:Nat):Int))=false from h);omega
  have hl:IL.take i=IL:=List.take_of_length_le (by omega)
  rw [hl] at hrun
  refine ⟨shM v y (ls++z),[],⟨y,ls++z,hy,rfl,?_⟩,⟨rfl,.inl rfl,trivial⟩,rfl⟩
  rw [zw hrun]
  exact ⟨rfl,rfl⟩
theorem xm {E:Env} (hE:E.P=Tryz.prog) {v:VQ} {vh vc vp vq vs vn va vl:Value} {A:Array Value} (hA:VA v vh vc vp vq vs vn va A) (I:VIn E v vh vc vp vq vs vn va) (hc:cY v=true) {y:Value} {ls:List LnQ} {xs:List (Ky×Int)} {k:Int} (hv:Lst E vl 3 xs.length (cat fq xs)) (hmem:∀ x∈xs,ItQ.b x k∈bx v) (hy:IsL y ls.length) (ho:LsR ls xs.length):OwnC E 47 [SV.ptr 9700 0,SV.c (.agg A),SV.c (.int .i64 k),SV.c vl] (shM v y ls) (RefS v (p7 v ls (xs.map (.b · k)))):=by
 refine aA [10] ai ak RL E hE [SV.ptr 9700 0,SV.c (.agg A),SV.c (.int .i64 k),SV.c vl] (shM v y ls) _ rfl rfl fun w X β hT=>?_
 have J:=I.of_old hT
 have hE2:(aT Tryz.prog tt Tryz.f47.ntmps w X (aF (shM v y ls) β) [10]).toEnv.P=Tryz.prog:=rfl
 have RT:=fun a=>zC hE2 hA J a
 have C1:=F7
 have AD:=fun {y:Value} {ls:List LnQ} (hy:IsL y ls.length) (ho:LsOk ls) {l:LnQ} hq hp hr=>yT hE2 (v:=v) hy ho (l:=l) hq hp hr
 obtain ⟨hs,g0,g1,g2,g3,g4,g5,g6,g7,gp,gl,g76,g77⟩:=hA
 obtain ⟨ah,ch,rfl,-,h4⟩:=(hv.of_old hT).shape
 have hlen:(xs.map (ItQ.b · k)).length=xs.length:=by simp
 have ho':LsR ls (xs.map (ItQ.b · k)).length:=by rw [hlen];exact ho
 have hget:∀ {i:Nat} {x:Ky×Int},xs[i]? = some x->(xs.map (ItQ.b · k))[i]? = some (.b x k):=fun h=>by rw [List.getElem?_map,h];rfl
 generalize xs.map (ItQ.b · k)=IL at *
 refine ⟨hs,?_⟩
 refine ⟨fun q f m=>∃ (i:Nat) (y:Value) (z:List LnQ),q=xs.length - i/\i<=xs.length/\cj v (IL.take i)=.ok z/\IsL y (ls++z).length/\f=[(0,SV.ptr 9700 0),(2,SV.c (.int .i64 k)),(3,SV.c (.slice ah xs.length ch)),(5,SV.ptr 5 0),(9,SV.c (.int .i64 (i:Nat)))]/\m=(5,Blk.row 39 78 A) :: shM v y (ls++z),xs.length,⟨_,_,⟨0,y,[],rfl,by omega,rfl,by simpa using hy,rfl,rfl⟩,⟨rfl,rfl,rfl,rfl,rfl,trivial⟩,?_,rfl⟩,?_⟩
 ·rw [List.append_nil]
  exact ⟨rfl,rfl,.inl rfl,trivial⟩
 rintro q f m ⟨i,y,z,rfl,hi,hrun,hy,rfl,rfl⟩
 refine ⟨_,fun w' _=>al Tryz.underlying23 w',fun h=>?_,fun h=>?_⟩
 ·have h:i < xs.length:=by have:=af h;omega
  obtain ⟨b,o,rfl,h5⟩:=h4 (by omega)
  obtain ⟨x,hx⟩:∃ y,xs[i]? = some y:=⟨_,List.getElem?_eq_getElem h⟩
  have hit:=hget hx
  have him:=hmem x (List.mem_of_getElem? hx)
  have hE':VOk (aT Tryz.prog tt Tryz.f47.ntmps w X (aF (shM v y ls) β) [10]):=ai
  have eo:aL o ((i:Nat):Int) kR.size=o+i*3:=lZ o i 3 (by decide)
  have L0:=aW hE' h5 bC hx (j:=0) (v:=.string (S x.1.1)) rfl (ty:=9) (ti:=ti9) rfl rfl (p:=aL o ((i:Nat):Int) kR.size+0) (by rw [eo])
  have L1:=aW hE' h5 bC hx (j:=1) (v:=.int .i64 x.1.2) rfl (ty:=3) (ti:=ti3) rfl rfl (p:=aL o ((i:Nat):Int) kR.size+1) (by rw [eo])
  have L2:=aW hE' h5 bC hx (j:=2) (v:=.int .i64 x.2) rfl (ty:=3) (ti:=ti3) rfl rfl (p:=aL o ((i:Nat):Int) kR.size+2) (by rw [eo])
  have hLQ:aY v (.b x k)=(⟨k,x.1.1,if k=3 then x.1.2 else v.day,x.2,ck,aN,0⟩,x.1.1,0):=rfl
  have hin:=pw hc J.q.inn J.nin him
  rw [hLQ] at hin
  obtain ⟨-,hq1,hq2⟩:=hin
  have hq1 : -2000000000000000<=x.2:=hq1
  have hq2:x.2<=2000000000000000:=hq2
  have hsum:=ho'.ok hrun (show i < IL.length by omega)
  obtain ⟨R,e2,hR⟩:∃ R e2,bY v.qs v.known v.pol v.day v.piv x.1.1 v.cur=(R,e2):=⟨_,_,rfl⟩
  have hRin:R.In:=by have:=mQ (xs:=v.qs) (k:=v.known) (p:=v.pol) (day:=v.day) (u:=v.piv) (a:=x.1.1) (b:=v.cur);rw [hR] at this;exact this
  have RT:=RT x.1.1
  rw [hR] at RT
  have RF:=R.A_fits
  refine ⟨by omega,by omega,.inl ⟨_,L0,?_⟩⟩
  refine .inr (.inr (.inl ⟨[],[_,_],[],_,[],RT,rfl,trivial,rfl,rfl,RF,by kernel_rfl,fun c2=>?_,fun c2=>?_⟩))
  ·have c2:(e2 != 0)=true:=c2
   have c2:e2≠0:=by simpa using c2
   refine ⟨shM v y (ls++z),[],⟨y,ls++z,hy,rfl,?_⟩,⟨rfl,.inl rfl,trivial⟩,rfl⟩
   rw [ka (fa hit hrun (tA hLQ hR c2))]
   exact ⟨rfl,c2⟩
  have c2:(e2 != 0)=false:=c2
  have c2:e2=0:=by simpa using c2
  subst c2
  obtain ⟨n,e3,hN⟩:∃ n e3,dq x.2 ck R=(n,e3):=⟨_,_,rfl⟩
  obtain ⟨D,hD⟩:∃ D,D=if k=3 then x.1.2 else v.day:=⟨_,rfl⟩
  have F6:=qU k D x.2 x.1.1 ck R rfl
  have AD:=AD hy hsum (l:=LnQ.mk k x.1.1 D x.2 ck R 0) (by show _<=x.2/\x.2<=_;omega) nx hRin
  rw [<- hD] at hLQ
  refine ⟨_,g2,fun f m=>f=[(0,SV.ptr 9700 0),(2,SV.c (.int .i64 k)),(3,SV.c (.slice (some ⟨b,o,none⟩) xs.length ch)),(5,SV.ptr 5 0),(9,SV.c (.int .i64 (i:Nat))),(10,SV.ptr 10 0),(12,SV.c (.int .i64 D))]/\m=(5,Blk.row 39 78 A) :: (10,Blk.row 33 66 R.A) :: shM v y (ls++z),?_,?_⟩
  ·refine ⟨fun c=>?_,fun c=>?_⟩
   ·have c:k=3:=by have c:(k == 3)=true:=c;simpa using c
    refine ⟨by omega,by omega,.inl ⟨_,L1,?_⟩⟩
    exact ⟨_,_,⟨rfl,rfl⟩,⟨rfl,rfl,rfl,rfl,rfl,rfl,am (by rw [hD,if_pos c]),trivial⟩,⟨rfl,rfl,rfl,.inl rfl,trivial⟩,rfl⟩
   ·have c:¬ k=3:=by have c:(k == 3)=false:=c;simpa using c
    exact ⟨_,_,⟨rfl,rfl⟩,⟨rfl,rfl,rfl,rfl,rfl,rfl,am (by rw [hD,if_neg c]),trivial⟩,⟨rfl,rfl,rfl,.inl rfl,trivial⟩,rfl⟩
  rintro f1 m1 ⟨rfl,rfl⟩
  generalize hLA:LnQ.A (LnQ.mk k x.1.1 D x.2 ck R 0)=LA at *
  refine ⟨by omega,by omega,.inl ⟨_,L0,by omega,by omega,.inl ⟨_,L2,.inl ⟨_,C1,LA,F6,?_⟩⟩⟩⟩
  refine .inr (.inr (.inr ⟨[],[],[_,_],shM v y (ls++z),_,AD,rfl,⟨rfl,.inl rfl,trivial⟩,by kernel_rfl,by change _=true;kernel_rfl,?_⟩))
  rintro r U ⟨y2,ls2,hy2,rfl,hm⟩
  refine ⟨by kernel_rfl,?_⟩
  by_cases c3:e3=0
  ·subst c3
   rw [uE hN] at hm
   obtain ⟨rfl,rfl⟩:=hm
   have hst:=ph hLQ hR hN
   have hrun2:=nT hit hrun hst
   refine ⟨by kernel_rfl,fun h=>absurd h (by decide),fun _=>?_⟩
   exact ⟨xs.length - (i+1),_,(5,Blk.row 39 78 A) :: shM v y2 ((ls++z)++[LnQ.mk k x.1.1 D x.2 ck R n]),by omega,⟨i+1,y2,z++[LnQ.mk k x.1.1 D x.2 ck R n],rfl,by omega,hrun2,by rw [<- List.append_assoc];exact hy2,rfl,by rw [<- List.append_assoc]⟩,⟨rfl,rfl,rfl,rfl,am (ar (by have:=ho.n;omega)),trivial⟩,⟨rfl,rfl,.inl rfl,trivial⟩,rfl⟩
  ·rw [rq hN c3] at hm
   obtain ⟨rfl,-⟩:=hm
   refine ⟨by kernel_rfl,fun _=>?_,fun h=>?_⟩
   ·refine ⟨shM v y2 ls2,[],⟨y2,ls2,hy2,rfl,?_⟩,⟨rfl,.inl rfl,trivial⟩,rfl⟩
    rw [ka (fa hit hrun (pi hLQ hR hN c3))]
    exact ⟨rfl,c3⟩
   ·have h:(e3 != 0)=false:=h
    exact absurd (by simpa using h) c3
 ·have h:i=xs.length:=by have:=ag (show decide (((i:Nat):Int) < ((xs.length:Nat):Int))=false from h);omega
  have hl:IL.take i=IL:=List.take_of_length_le (by omega)
  rw [hl] at hrun
  refine ⟨shM v y (ls++z),[],⟨y,ls++z,hy,rfl,?_⟩,⟨rfl,.inl rfl,trivial⟩,rfl⟩
  rw [zw hrun]
  exact ⟨rfl,rfl⟩
theorem Fk {v:VQ} (hc:cY v=true):bY v.qs v.known v.pol v.day v.piv v.cur v.cur=(cS,0):=by
 obtain ⟨h1,h2,h3,-,-,h5,h6,-⟩:=eY hc
 refine tH ?_ rfl
 unfold eU
 rw [if_neg (fun g=>g h5),if_pos h6,if_neg (by omega),if_pos]
 simp [h1,h2]
theorem Fl {v:VQ} (hc:cY v=true) {a:AcQ} (ha:a∈v.acs):(eJ a).2=0/\aY v (.f a)=(⟨4,a.nm,a.til,-(eJ a).1,ck,aN,0⟩,v.cur,0):=by
 obtain ⟨-,-,-,-,-,-,-,-,h9,-⟩:=eY hc
 have h:=List.all_eq_true.1 h9 a ha
 have e:(eJ a).2=0:=by unfold eJ;rw [if_pos h]
 refine ⟨e,?_⟩
 show (_,_,(eJ a).2)=_
 rw [e]
def St (v:VQ) (P:List ItQ) (e:Int) (ls:List LnQ):Prop:=match cj v P with
 | .error e'=>e=e'/\e'≠0
 | .ok z=>e=0/\ls=z
theorem DH (v:VQ) (ls:List LnQ) (i:ItQ):p7 v ls [i]=match dY v i with
    | .error e=>.error e
    | .ok l=>.ok (ls++[l]):=by
 unfold p7
 rw [cj,cj]
 cases dY v i<;>rfl
def Gz (R:Except Int (List LnQ)) (e:Int) (l2:List LnQ):Prop:=match R with
 | .error e'=>Value.int .i64 e=.int .i64 e'/\e'≠0
 | .ok z=>Value.int .i64 e=.int .i64 0/\l2=z
theorem St.of {v:VQ} {ls l2:List LnQ} {P Q:List ItQ} {e:Int} (h:cj v P=.ok ls) (hr:Gz (p7 v ls Q) e l2):St v (P++Q) e l2:=by
 unfold St
 rw [go,h]
 unfold Gz p7 at hr
 cases hq:cj v Q with
 | error e' =>
  rw [hq] at hr
  obtain ⟨h1,h2⟩:=hr
  simp only [Value.int.injEq,true_and] at h1
  exact ⟨h1,h2⟩
 | ok z =>
  rw [hq] at hr
  obtain ⟨h1,h2⟩:=hr
  simp only [Value.int.injEq,true_and] at h1
  exact ⟨h1,h2⟩
theorem St.err {v:VQ} {ls:List LnQ} {P Q:List ItQ} {e:Int} (h:St v P e ls) (he:e≠0):St v (P++Q) e ls:=by
 unfold St at h ⊢
 rw [go]
 cases hp:cj v P with
 | error e'=>rw [hp] at h;exact h
 | ok z=>rw [hp] at h;exact absurd h.1 he
theorem St.ok {v:VQ} {ls:List LnQ} {P:List ItQ} (h:St v P 0 ls):cj v P=.ok ls:=by
 unfold St at h
 cases hp:cj v P with
 | error e'=>rw [hp] at h;exact absurd h.1.symm h.2
 | ok z=>rw [hp] at h;rw [h.2]
theorem St.bad {v:VQ} {ls:List LnQ} {P:List ItQ} {e:Int} (h:St v P e ls) (he:e≠0):cj v P=.error e:=by
 unfold St at h
 cases hp:cj v P with
 | error e'=>rw [hp] at h;rw [h.1]
 | ok z=>rw [hp] at h;exact absurd h.1 he
theorem RefS.int {v:VQ} {R:Except Int (List LnQ)} {r:Value} {U:aE} (h:RefS v R r U):∃ (e:Int) (y:Value) (ls:List LnQ),r=.int .i64 e/\IsL y ls.length/\U=shM v y ls/\Gz R e ls:=by
 obtain ⟨y,ls,h1,h2,h3⟩:=h
 cases R with
 | error e'=>exact ⟨e',y,ls,h3.1,h1,h2,rfl,h3.2⟩
 | ok z=>exact ⟨0,y,ls,h3.1,h1,h2,rfl,h3.2⟩
theorem CZ {E:Env} (hE:E.P=Tryz.prog) {v:VQ} {vh vc vp vq vs vn va:Value} {A:Array Value} (hA:VA v vh vc vp vq vs vn va A) (I:VIn E v vh vc vp vq vs vn va):OwnC E 12 [SV.c (.agg A)] [] (CG (dy v)):=by
 refine aA [8,10,15,17] ai ak Sb E hE [SV.c (.agg A)] [] _ rfl rfl fun w X β hT=>?_
 have J:=I.of_old hT
 have hE2:(aT Tryz.prog tt Tryz.f12.ntmps w X (aF [] β) [8,10,15,17]).toEnv.P=Tryz.prog:=rfl
 have K1:=w3 hE2 hA J
 have HO:=fun hc ho=>wb hE2 hA J hc (y:=.slice none 0 0) (ls:=[]) .nil ho
 have BA:=fun {y:Value} {ls:List LnQ} {vl:Value} {xs:List (Ky×Int)} {k:Int} hc hv hm hy ho=>xm hE2 hA J hc (y:=y) (ls:=ls) (vl:=vl) (xs:=xs) (k:=k) hv hm hy ho
 have AD:=fun {y:Value} {ls:List LnQ} (hy:IsL y ls.length) (ho:LsOk ls) {l:LnQ} hq hp hr=>yT hE2 (v:=v) hy ho (l:=l) hq hp hr
 have C1:=F7
 have O1:=D4
 obtain ⟨hs,g0,g1,g2,g3,g4,g5,g6,g7,gp,gl,g76,g77⟩:=hA
 have FSh:=wx v.cur v.day v.known rfl
 have zsh:dk.A (.slice none 0 0)=fG.zero:=rfl
 have zf:Fits fG.zero 5:=zsh ▸ mH dk rfl
 have ret:∀ e,dy v=(dk,e)->CG (dy v) (cT [.agg fG.zero,.int .i64 e]) [(9800,Blk.own (.slice none 0 0) 77 137 0 #[])]:=fun e h=>by
  rw [h]
  exact ⟨.slice none 0 0,.nil,rfl,rfl⟩
 refine ⟨hs,.inr (.inr (.inl ⟨[],[_],[],_,[],K1,rfl,trivial,rfl,rfl,fun c=>?_,fun c=>?_⟩))⟩
 ·have c:((if cY v then (0:Int) else 201) != 0)=true:=c
  have hc:cY v=false:=by cases e:cY v<;>simp [e] at c ⊢
  rw [hc]
  refine ⟨_,rfl,zf,?_⟩
  exact ⟨[(9800,Blk.own (.slice none 0 0) 77 137 0 #[])],[],ret 201 (uK hc),⟨.inr ⟨rfl,rfl,rfl⟩,trivial⟩,rfl⟩
 have c:((if cY v then (0:Int) else 201) != 0)=false:=c
 have hc:cY v=true:=by cases e:cY v<;>simp [e] at c ⊢
 obtain ⟨-,-,-,-,-,-,-,-,-,htot⟩:=eY hc
 have SF:∀ (y:Value) (n:Int),y.oneCell'=true->Fits #[.string (S v.cur),.int .i64 v.day,.int .i64 v.known,y,.int .i64 n] 5:=fun y n h=>mH ⟨v.cur,v.day,v.known,[],n⟩ h
 refine ⟨_,g0,_,g2,_,g3,_,FSh,SF _ _ rfl,?_⟩
 refine .inr (.inr (.inr ⟨[(9700,5)],[],[_,_],shM v (.slice none 0 0) [],_,HO hc ⟨by show 0+_<=512;omega,fun x hx=>by cases hx⟩,rfl,⟨rfl,.inr ⟨rfl,rfl,rfl,rfl⟩,trivial⟩,rfl,trivial,?_⟩))
 intro r U hR
 obtain ⟨e,y,ls,rfl,hy,rfl,hm⟩:=hR.int
 have hst:=St.of (v:=v) (ls:=[]) (P:=[]) rfl hm
 rw [List.nil_append] at hst
 have hl1:∀ {P:List ItQ} {ls:List LnQ},St v P 0 ls->ls.length=P.length/\∀ x∈ls,-1000000000000000<=x.amt/\x.amt<=1000000000000000:=fun h=>jj h.ok
 have mm:∀ x∈v.g.c,ItQ.b x 2∈bx v:=fun x hx=>by unfold bx;simp [hx]
 have mp:∀ x∈v.g.p,ItQ.b x 3∈bx v:=fun x hx=>by unfold bx;simp [hx]
 refine ⟨rfl,fun f m=>∃ (e:Int) (y:Value) (ls:List LnQ),IsL y ls.length/\St v (v.g.h.map .h++v.g.c.map (.b · 2)) e ls/\f=[(1,SV.ptr 1 0),(2,SV.ptr 2 0),(5,SV.ptr 5 0),(6,SV.c (.int .i64 e))]/\m=[(1,Blk.row 39 78 A),(2,Blk.row 42 5 fG.zero),(5,Blk.row 42 5 #[.string (S v.cur),.int .i64 v.day,.int .i64 v.known,y,.int .i64 (bk ls)]),(9800,Blk.own y 77 137 ls.length (cat LnQ.A ls))],?_,?_⟩
 ·refine ⟨fun c=>?_,fun c=>?_⟩
  ·have c:e=0:=by have c:(e == 0)=true:=c;simpa using c
   subst c
   obtain ⟨n1,n2⟩:=hl1 hst
   have B1:=BA hc J.pf.c mm hy ⟨by rw [n1];simp;omega,n2⟩
   refine ⟨_,g5,?_⟩
   refine .inr (.inr (.inr ⟨[(9700,5)],[],[_,_,_,_],shM v y ls,_,B1,rfl,⟨rfl,.inl rfl,trivial⟩,rfl,trivial,?_⟩))
   intro r U hR
   obtain ⟨e,y2,ls2,rfl,hy2,rfl,hm⟩:=hR.int
   have hst2:=St.of hst.ok hm
   exact ⟨rfl,_,[(1,Blk.row 39 78 A),(2,Blk.row 42 5 fG.zero),(5,Blk.row 42 5 #[.string (S v.cur),.int .i64 v.day,.int .i64 v.known,y2,.int .i64 (bk ls2)]),(9800,Blk.own y2 77 137 ls2.length (cat LnQ.A ls2))],⟨e,y2,ls2,hy2,hst2,rfl,rfl⟩,⟨rfl,rfl,rfl,rfl,trivial⟩,⟨rfl,rfl,rfl,.inl rfl,trivial⟩,rfl⟩
  ·have c:¬ e=0:=by have c:(e == 0)=false:=c;simpa using c
   exact ⟨_,[(1,Blk.row 39 78 A),(2,Blk.row 42 5 fG.zero),(5,Blk.row 42 5 #[.string (S v.cur),.int .i64 v.day,.int .i64 v.known,y,.int .i64 (bk ls)]),(9800,Blk.own y 77 137 ls.length (cat LnQ.A ls))],⟨e,y,ls,hy,St.err hst c,rfl,rfl⟩,⟨rfl,rfl,rfl,rfl,trivial⟩,⟨rfl,rfl,rfl,.inl rfl,trivial⟩,rfl⟩
 clear hst hy hR hm
 rintro f1 m1 ⟨e,y,ls,hy,hst,rfl,rfl⟩
 refine ⟨fun f m=>∃ (e:Int) (y:Value) (ls:List LnQ),IsL y ls.length/\St v ((v.g.h.map .h++v.g.c.map (.b · 2))++v.g.p.map (.b · 3)) e ls/\f=[(1,SV.ptr 1 0),(2,SV.ptr 2 0),(5,SV.ptr 5 0),(6,SV.c (.int .i64 e))]/\m=[(1,Blk.row 39 78 A),(2,Blk.row 42 5 fG.zero),(5,Blk.row 42 5 #[.string (S v.cur),.int .i64 v.day,.int .i64 v.known,y,.int .i64 (bk ls)]),(9800,Blk.own y 77 137 ls.length (cat LnQ.A ls))],?_,?_⟩
 ·refine ⟨fun c=>?_,fun c=>?_⟩
  ·have c:e=0:=by have c:(e == 0)=true:=c;simpa using c
   subst c
   obtain ⟨n1,n2⟩:=hl1 hst
   have B1:=BA hc J.pf.p mp hy ⟨by rw [n1];simp;omega,n2⟩
   refine ⟨_,g6,?_⟩
   refine .inr (.inr (.inr ⟨[(9700,5)],[],[_,_,_,_],shM v y ls,_,B1,rfl,⟨rfl,.inl rfl,trivial⟩,rfl,trivial,?_⟩))
   intro r U hR
   obtain ⟨e,y2,ls2,rfl,hy2,rfl,hm⟩:=hR.int
   have hst2:=St.of hst.ok hm
   exact ⟨rfl,_,[(1,Blk.row 39 78 A),(2,Blk.row 42 5 fG.zero),(5,Blk.row 42 5 #[.string (S v.cur),.int .i64 v.day,.int .i64 v.known,y2,.int .i64 (bk ls2)]),(9800,Blk.own y2 77 137 ls2.length (cat LnQ.A ls2))],⟨e,y2,ls2,hy2,hst2,rfl,rfl⟩,⟨rfl,rfl,rfl,rfl,trivial⟩,⟨rfl,rfl,rfl,.inl rfl,trivial⟩,rfl⟩
  ·have c:¬ e=0:=by have c:(e == 0)=false:=c;simpa using c
   exact ⟨_,[(1,Blk.row 39 78 A),(2,Blk.row 42 5 fG.zero),(5,Blk.row 42 5 #[.string (S v.cur),.int .i64 v.day,.int .i64 v.known,y,.int .i64 (bk ls)]),(9800,Blk.own y 77 137 ls.length (cat LnQ.A ls))],⟨e,y,ls,hy,St.err hst c,rfl,rfl⟩,⟨rfl,rfl,rfl,rfl,trivial⟩,⟨rfl,rfl,rfl,.inl rfl,trivial⟩,rfl⟩
 clear hst hy
 rintro f1 m1 ⟨e,y,ls,hy,hst,rfl,rfl⟩
 have eI:∀ i,(((v.g.h.map ItQ.h++v.g.c.map (ItQ.b · 2))++v.g.p.map (ItQ.b · 3))++(v.acs.take i).map ItQ.f)++(v.acs.drop i).map ItQ.f=bx v:=fun i=>by
  unfold bx
  rw [List.append_assoc _ ((v.acs.take i).map ItQ.f),<- List.map_append,List.take_append_drop]
  simp
 generalize hP2:((v.g.h.map ItQ.h++v.g.c.map (ItQ.b · 2))++v.g.p.map (ItQ.b · 3))=P2 at *
 have hlP:P2.length+v.acs.length<=512:=by
  have:=congrArg List.length (eI 0)
  rw [oq] at this
  simp at this
  omega
 refine ⟨fun f m=>∃ (e:Int) (y:Value) (ls:List LnQ),IsL y ls.length/\St v (bx v) e ls/\f=[(1,SV.ptr 1 0),(2,SV.ptr 2 0),(5,SV.ptr 5 0),(6,SV.c (.int .i64 e))]/\m=[(1,Blk.row 39 78 A),(2,Blk.row 42 5 fG.zero),(5,Blk.row 42 5 #[.string (S v.cur),.int .i64 v.day,.int .i64 v.known,y,.int .i64 (bk ls)]),(9800,Blk.own y 77 137 ls.length (cat LnQ.A ls))],?_,?_⟩
 ·obtain ⟨aa,ca,rfl,-,h4⟩:=J.a.shape
  refine ⟨fun q f m=>∃ (i:Nat) (e:Int) (y:Value) (ls:List LnQ),q=v.acs.length - i/\i<=v.acs.length/\IsL y ls.length/\St v (P2++(v.acs.take i).map .f) e ls/\f=[(1,SV.ptr 1 0),(2,SV.ptr 2 0),(5,SV.ptr 5 0),(6,SV.c (.int .i64 e)),(7,SV.c (.int .i64 (i:Nat)))]/\m=[(1,Blk.row 39 78 A),(2,Blk.row 42 5 fG.zero),(5,Blk.row 42 5 #[.string (S v.cur),.int .i64 v.day,.int .i64 v.known,y,.int .i64 (bk ls)]),(9800,Blk.own y 77 137 ls.length (cat LnQ.A ls))],v.acs.length,⟨_,[(1,Blk.row 39 78 A),(2,Blk.row 42 5 fG.zero),(5,Blk.row 42 5 #[.string (S v.cur),.int .i64 v.day,.int .i64 v.known,y,.int .i64 (bk ls)]),(9800,Blk.own y 77 137 ls.length (cat LnQ.A ls))],⟨0,e,y,ls,rfl,by omega,hy,by simpa using hst,rfl,rfl⟩,⟨rfl,rfl,rfl,rfl,rfl,trivial⟩,⟨rfl,rfl,rfl,.inl rfl,trivial⟩,rfl⟩,?_⟩
  clear hst hy
  rintro q f m ⟨i,e,y,ls,rfl,hi,hy,hst,rfl,rfl⟩
  refine ⟨fun c=>?_,fun c=>?_⟩
  ·have c:e=0:=by have c:(e == 0)=true:=c;simpa using c
   subst c
   refine ⟨_,g77,_,fun w' _=>al Tryz.underlying37 w',fun h=>?_,fun h=>?_⟩
   ·have h:i < v.acs.length:=by have:=af (show decide (((i:Nat):Int) < ((v.acs.length:Nat):Int))=true from h);omega
    obtain ⟨b,o,rfl,h5⟩:=h4 (by omega)
    obtain ⟨a,ha⟩:∃ y,v.acs[i]? = some y:=⟨_,List.getElem?_eq_getElem h⟩
    have ham:=List.mem_of_getElem? ha
    have hE':VOk (aT Tryz.prog tt Tryz.f12.ntmps w X (aF [] β) [8,10,15,17]):=ai
    have eo:aL o ((i:Nat):Int) lP.size=o+i*136:=lZ o i 136 (by decide)
    have L1:=bd hE' h5 AcQ.size ha (ty:=69) (ti:=lP) rfl rfl rfl (p:=aL o ((i:Nat):Int) lP.size) eo
    have L0:=aW hE' h5 AcQ.size ha a.g0 (ty:=9) (ti:=ti9) rfl rfl (p:=aL o ((i:Nat):Int) lP.size+0) (by rw [eo])
    have L5:=aW hE' h5 AcQ.size ha a.g135 (ty:=3) (ti:=ti3) rfl rfl (p:=aL o ((i:Nat):Int) lP.size+135) (by rw [eo])
    have B1:=F9 (J.ain a ham)
    obtain ⟨hb2,hLQ⟩:=Fl hc ham
    have bb:=yS a
    obtain ⟨n1,n2⟩:=hl1 hst
    rw [List.length_append,List.length_map,List.length_take,Nat.min_eq_left (by omega)] at n1
    have hsum:LsOk ls:=⟨by omega,n2⟩
    have hR:=Fk hc
    generalize eJ a=BQ at *
    obtain ⟨n,be⟩:=BQ
    have bb : -2000000000000000<=n/\n<=2000000000000000:=bb
    have hLQ:aY v (.f a)=(⟨4,a.nm,a.til,-n,ck,aN,0⟩,v.cur,0):=hLQ
    have hw:IntKind.i64.wrap (0 - n)=-n:=by rw [Int.zero_sub];exact i64_in (by omega)
    have F6:=qU 4 a.til (-n) a.nm ck cS rfl
    rw [<- hw] at F6
    obtain ⟨m,e3,hN⟩:∃ m e3,dq (-n) ck cS=(m,e3):=⟨_,_,rfl⟩
    have AD:=AD hy hsum (l:=LnQ.mk 4 a.nm a.til (IntKind.i64.wrap (0 - n)) ck cS 0) (by rw [hw];show _<=-n/\-n<=_;omega) nx qo
    have hN':dq (LnQ.mk 4 a.nm a.til (IntKind.i64.wrap (0 - n)) ck cS 0).qty (LnQ.mk 4 a.nm a.til (IntKind.i64.wrap (0 - n)) ck cS 0).price (LnQ.mk 4 a.nm a.til (IntKind.i64.wrap (0 - n)) ck cS 0).rate=(m,e3):=by show dq (IntKind.i64.wrap (0 - n)) ck cS=_;rw [hw];exact hN
    have hst1:∀ {l2:List LnQ} {e:Int},Gz (rt ls (LnQ.mk 4 a.nm a.til (IntKind.i64.wrap (0 - n)) ck cS 0)) e l2->St v (P2++(v.acs.take (i+1)).map .f) e l2:=fun {l2 e} h=>by
     rw [List.take_add_one,ha,List.map_append,<- List.append_assoc]
     refine St.of (ls:=ls) hst.ok ?_
     show Gz (p7 v ls [.f a]) e l2
     rw [DH]
     by_cases c3:e3=0
     ·subst c3
      rw [uE hN'] at h
      rw [ph hLQ hR hN]
      rw [hw] at h
      exact h
     ·rw [rq hN' c3] at h
      rw [pi hLQ hR hN c3]
      exact h
    generalize hLA:LnQ.A (LnQ.mk 4 a.nm a.til (IntKind.i64.wrap (0 - n)) ck cS 0)=LA at *
    refine ⟨_,g77,by omega,by omega,.inl ⟨_,L1,.inl ⟨_,B1,?_⟩⟩⟩
    refine ⟨_,g77,by omega,by omega,.inl ⟨_,L0,_,g77,by omega,by omega,.inl ⟨_,L5,.inl ⟨_,C1,.inl ⟨_,O1,LA,F6,?_⟩⟩⟩⟩⟩
    refine .inr (.inr (.inr ⟨[(9700,5)],[],[_,_],shM v y ls,_,AD,rfl,⟨rfl,.inl rfl,trivial⟩,by kernel_rfl,by change _=true;kernel_rfl,?_⟩))
    intro r U hRS
    obtain ⟨e,y2,ls2,rfl,hy2,rfl,hm⟩:=hRS.int
    have hst2:=hst1 hm
    refine ⟨by kernel_rfl,by kernel_rfl,?_⟩
    exact ⟨v.acs.length - (i+1),_,[(1,Blk.row 39 78 A),(2,Blk.row 42 5 fG.zero),(5,Blk.row 42 5 #[.string (S v.cur),.int .i64 v.day,.int .i64 v.known,y2,.int .i64 (bk ls2)]),(9800,Blk.own y2 77 137 ls2.length (cat LnQ.A ls2))],by omega,⟨i+1,e,y2,ls2,rfl,by omega,hy2,hst2,rfl,rfl⟩,⟨rfl,rfl,rfl,rfl,am (ar (by omega)),trivial⟩,⟨rfl,rfl,rfl,.inl rfl,trivial⟩,rfl⟩
   ·have h:i=v.acs.length:=by have:=ag (show decide (((i:Nat):Int) < ((v.acs.length:Nat):Int))=false from h);omega
    have hst2:St v (bx v) 0 ls:=by
     have:=eI i
     rw [h,List.drop_length,List.map_nil,List.append_nil] at this
     rw [h] at hst
     rw [<- this];exact hst
    exact ⟨_,[(1,Blk.row 39 78 A),(2,Blk.row 42 5 fG.zero),(5,Blk.row 42 5 #[.string (S v.cur),.int .i64 v.day,.int .i64 v.known,y,.int .i64 (bk ls)]),(9800,Blk.own y 77 137 ls.length (cat LnQ.A ls))],⟨0,y,ls,hy,hst2,rfl,rfl⟩,⟨rfl,rfl,rfl,rfl,trivial⟩,⟨rfl,rfl,rfl,.inl rfl,trivial⟩,rfl⟩
  ·have c:¬ e=0:=by have c:(e == 0)=false:=c;simpa using c
   have hst2:St v (bx v) e ls:=by rw [<- eI i];exact St.err hst c
   exact ⟨fun h=>(by cases h),fun _=>⟨_,[(1,Blk.row 39 78 A),(2,Blk.row 42 5 fG.zero),(5,Blk.row 42 5 #[.string (S v.cur),.int .i64 v.day,.int .i64 v.known,y,.int .i64 (bk ls)]),(9800,Blk.own y 77 137 ls.length (cat LnQ.A ls))],⟨e,y,ls,hy,hst2,rfl,rfl⟩,⟨rfl,rfl,rfl,rfl,trivial⟩,⟨rfl,rfl,rfl,.inl rfl,trivial⟩,rfl⟩⟩
 clear hst hy
 rintro f1 m1 ⟨e,y,ls,hy,hst,rfl,rfl⟩
 refine ⟨fun f m=>∃ (e:Int) (y:Value) (ls:List LnQ),IsL y ls.length/\((e≠0/\dy v=(dk,e))\/(e=0/\dy v=(⟨v.cur,v.day,v.known,ls,bk ls⟩,0)))/\f=[(1,SV.ptr 1 0),(2,SV.ptr 2 0),(5,SV.ptr 5 0),(6,SV.c (.int .i64 e))]/\m=[(1,Blk.row 39 78 A),(2,Blk.row 42 5 fG.zero),(5,Blk.row 42 5 #[.string (S v.cur),.int .i64 v.day,.int .i64 v.known,y,.int .i64 (bk ls)]),(9800,Blk.own y 77 137 ls.length (cat LnQ.A ls))],?_,?_⟩
 ·have inT:∀ b,decide (bk ls > 1000000000000000)=false->decide (bk ls < -1000000000000000)=b->inB (bk ls) (-1000000000000000) 1000000000000000=!b:=fun b h1 h2=>by
    unfold inB
    have h1:=ag h1
    rw [<- h2,<- Bool.decide_and]
    by_cases h:bk ls < -1000000000000000
    ·rw [decide_eq_true h,decide_eq_false (by omega)];rfl
    ·rw [decide_eq_false h,decide_eq_true (by omega)];rfl
  refine ⟨fun c=>?_,fun c=>?_⟩
  ·have c:e=0:=by have c:(e == 0)=true:=c;simpa using c
   subst c
   have hrun:=hst.ok
   refine ⟨_,rfl,fun c1=>⟨_,rfl,fun c2=>?_,fun c2=>?_⟩,fun c1=>?_⟩
   ·have ht:=inT true c1 c2
    exact ⟨_,[(1,Blk.row 39 78 A),(2,Blk.row 42 5 fG.zero),(5,Blk.row 42 5 #[.string (S v.cur),.int .i64 v.day,.int .i64 v.known,y,.int .i64 (bk ls)]),(9800,Blk.own y 77 137 ls.length (cat LnQ.A ls))],⟨33,y,ls,hy,.inl ⟨by decide,pQ hc hrun ht⟩,rfl,rfl⟩,⟨rfl,rfl,rfl,rfl,trivial⟩,⟨rfl,rfl,rfl,.inl rfl,trivial⟩,rfl⟩
   ·have ht:=inT false c1 c2
    exact ⟨_,[(1,Blk.row 39 78 A),(2,Blk.row 42 5 fG.zero),(5,Blk.row 42 5 #[.string (S v.cur),.int .i64 v.day,.int .i64 v.known,y,.int .i64 (bk ls)]),(9800,Blk.own y 77 137 ls.length (cat LnQ.A ls))],⟨0,y,ls,hy,.inr ⟨rfl,zd hc hrun ht⟩,rfl,rfl⟩,⟨rfl,rfl,rfl,rfl,trivial⟩,⟨rfl,rfl,rfl,.inl rfl,trivial⟩,rfl⟩
   ·have c1:=af (show decide (bk ls > 1000000000000000)=true from c1)
    have ht:inB (bk ls) (-1000000000000000) 1000000000000000=false:=by
     unfold inB
     rw [<- Bool.decide_and,decide_eq_false (by omega)]
    refine ⟨fun _=>?_,fun h=>by cases h⟩
    exact ⟨_,[(1,Blk.row 39 78 A),(2,Blk.row 42 5 fG.zero),(5,Blk.row 42 5 #[.string (S v.cur),.int .i64 v.day,.int .i64 v.known,y,.int .i64 (bk ls)]),(9800,Blk.own y 77 137 ls.length (cat LnQ.A ls))],⟨33,y,ls,hy,.inl ⟨by decide,pQ hc hrun ht⟩,rfl,rfl⟩,⟨rfl,rfl,rfl,rfl,trivial⟩,⟨rfl,rfl,rfl,.inl rfl,trivial⟩,rfl⟩
  ·have c:¬ e=0:=by have c:(e == 0)=false:=c;simpa using c
   refine ⟨fun h=>(by cases h),fun _=>?_⟩
   exact ⟨_,[(1,Blk.row 39 78 A),(2,Blk.row 42 5 fG.zero),(5,Blk.row 42 5 #[.string (S v.cur),.int .i64 v.day,.int .i64 v.known,y,.int .i64 (bk ls)]),(9800,Blk.own y 77 137 ls.length (cat LnQ.A ls))],⟨e,y,ls,hy,.inl ⟨c,mu hc (hst.bad c)⟩,rfl,rfl⟩,⟨rfl,rfl,rfl,rfl,trivial⟩,⟨rfl,rfl,rfl,.inl rfl,trivial⟩,rfl⟩
 rintro f1 m1 ⟨e,y,ls,hy,hv,rfl,rfl⟩
 refine ⟨fun c=>?_,fun c=>?_⟩
 ·have c:e≠0:=by have c:(e != 0)=true:=c;simpa using c
  have hv:dy v=(dk,e):=by
   rcases hv with ⟨-,h⟩ | ⟨h,-⟩
   ·exact h
   ·exact absurd h c
  refine ⟨_,rfl,zf,?_⟩
  exact ⟨[(9800,Blk.own (.slice none 0 0) 77 137 0 #[])],[(9800,9801)],ret e hv,⟨.inr ⟨rfl,rfl,rfl⟩,trivial⟩,rfl⟩
 ·have c:e=0:=by have c:(e != 0)=false:=c;simpa using c
  have hv:dy v=(⟨v.cur,v.day,v.known,ls,bk ls⟩,0):=by
   rcases hv with ⟨h,-⟩ | ⟨-,h⟩
   ·exact absurd c h
   ·exact h
  obtain ⟨ya,yc,rfl⟩:=hy.len
  refine ⟨SF _ _ rfl,?_⟩
  refine ⟨[(9800,Blk.own (.slice ya ls.length yc) 77 137 ls.length (cat LnQ.A ls))],[],?_,⟨.inl rfl,trivial⟩,rfl⟩
  rw [hv]
  exact ⟨_,hy,rfl,rfl⟩
def BV (s:ShQ):Bool:=aD s.cur && (inB s.day 0 73048 && (inB s.known 0 2147483647 && decide (s.lines.length<=512)))
theorem Jy {s:ShQ} (h:BV s=false):lj s=200:=by unfold BV at h;unfold lj;rw [h];rfl
theorem Jx {s:ShQ} {i:Nat} {y:LnQ} (hy:s.lines[i]? = some y) (h:o6 y=false):lj s=200:=by
 have:s.lines.all o6=false:=by
  rw [List.all_eq_false]
  exact ⟨y,List.mem_of_getElem? hy,by rw [h];simp⟩
 unfold lj;rw [this];simp
theorem Jw {s:ShQ} (h:(decide (bk s.lines=s.total) && inB s.total (-1000000000000000) 1000000000000000)=false):lj s=200:=by unfold lj;rw [h];simp
theorem Jv {s:ShQ} (h1:BV s=true) (h2:∀ (j:Nat) y,s.lines[j]? = some y->o6 y=true) (h:(decide (bk s.lines=s.total) && inB s.total (-1000000000000000) 1000000000000000)=true):lj s=0:=by
 have:s.lines.all o6=true:=by
  rw [List.all_eq_true]
  intro x hx
  obtain ⟨j,hj⟩:=List.getElem?_of_mem hx
  exact h2 j x hj
 unfold BV at h1
 unfold lj;rw [h1,this,h];rfl
theorem Eu {y:LnQ} (h:o6 y=true) : -1000000000000000<=y.amt/\y.amt<=1000000000000000:=by
 unfold o6 at h
 simp only [Bool.and_eq_true,decide_eq_true_eq] at h
 have:=nD y.qty y.price y.rate
 rw [h.1] at this
 exact this
theorem Dl {ls:List LnQ} {i:Nat} {y:LnQ} (hy:ls[i]? = some y):bk (ls.take (i+1))=bk (ls.take i)+y.amt:=by
 rw [List.take_add_one,hy]
 exact nL _ _
theorem GV {ls:List LnQ} {i:Nat} (h:∀ (j:Nat) y,j < i->ls[j]? = some y->o6 y=true) (hi:i<=512) : -512000000000000000<=bk (ls.take i)/\bk (ls.take i)<=512000000000000000:=by
 have:=pc (ls.take i) fun x hx=>by
  obtain ⟨j,hj⟩:=List.getElem?_of_mem hx
  have hl:=(List.getElem?_eq_some_iff.1 hj).1
  rw [List.length_take] at hl
  rw [List.getElem?_take_of_lt (by omega)] at hj
  exact Eu (h j x (by omega) hj)
 have hl:(ls.take i).length<=512:=by rw [List.length_take];omega
 omega
theorem uJ {E:Env} (hE:E.P=Tryz.prog) {s:ShQ} {vl:Value} (hv:Lst E vl 137 s.lines.length (cat LnQ.A s.lines)) (hin:∀ y∈s.lines,y.In) (hcur:s.cur.length<=9223372036854775807):OwnC E 30 [SV.c (.agg (s.A vl))] [] (fun r U=>r=.int .i64 (lj s)/\U=[]):=by
 refine aA [] ai ak M4 E hE [SV.c (.agg (s.A vl))] [] _ rfl rfl fun w X β hT=>?_
 obtain ⟨a,cap,rfl,-,h4⟩:=(hv.of_old hT).shape
 have K1:=jJ s.cur hcur
 have D1:=fl s.day 0 73048
 have D2:=fl s.known 0 2147483647
 have W1:=fl s.total (-1000000000000000) 1000000000000000
 have t1:=Jy (s:=s)
 have t2:=fun i y=>Jx (s:=s) (i:=i) (y:=y)
 have t3:=Jw (s:=s)
 have t4:=Jv (s:=s)
 have hh:BV s=(aD s.cur && (inB s.day 0 73048 && (inB s.known 0 2147483647 && decide (s.lines.length<=512)))):=rfl
 generalize lj s=VR at *
 have nf:∀ {p:Prop},true=false->p:=fun h=>by cases h
 refine ⟨rfl,_,rfl,.inl ⟨_,K1,fun c1=>?_,fun c1=>?_⟩⟩
 case refine_2 =>
  have c1:aD s.cur=false:=ba c1
  exact ⟨nf,fun _=>⟨nf,fun _=>⟨fun _=>⟨[],[],⟨by rw [t1 (by rw [hh,c1];rfl)];rfl,rfl⟩,trivial,rfl⟩,nf⟩⟩⟩
 have c1:aD s.cur=true:=bc c1
 refine ⟨_,rfl,.inl ⟨_,D1,fun c2=>?_,fun c2=>?_⟩⟩
 case refine_2 =>
  have c2:inB s.day 0 73048=false:=ba c2
  exact ⟨nf,fun _=>⟨fun _=>⟨[],[],⟨by rw [t1 (by rw [hh,c2];simp)];rfl,rfl⟩,trivial,rfl⟩,nf⟩⟩
 have c2:inB s.day 0 73048=true:=bc c2
 refine ⟨_,rfl,.inl ⟨_,D2,fun c3=>?_,fun c3=>?_⟩⟩
 case refine_2 =>
  have c3:inB s.known 0 2147483647=false:=ba c3
  exact ⟨fun _=>⟨[],[],⟨by rw [t1 (by rw [hh,c3];simp)];rfl,rfl⟩,trivial,rfl⟩,nf⟩
 have c3:inB s.known 0 2147483647=true:=bc c3
 refine ⟨_,rfl,_,fun w' _=>al Tryz.underlying40 w',fun c4=>?_,fun c4=>?_⟩
 ·have c4:s.lines.length > 512:=by have:=af (show decide (((s.lines.length:Nat):Int) > 512)=true from c4);omega
  exact ⟨[],[],⟨by rw [t1 (by rw [hh,decide_eq_false (show ¬ s.lines.length<=512 by omega)];simp)];rfl,rfl⟩,trivial,rfl⟩
 have c4:¬ s.lines.length > 512:=by have:=ag (show decide (((s.lines.length:Nat):Int) > 512)=false from c4);omega
 have hh1:BV s=true:=by rw [hh,c1,c2,c3,decide_eq_true (show s.lines.length<=512 by omega)];rfl
 clear hh
 refine ⟨_,rfl,_,fun w' _=>al Tryz.underlying40 w',?_⟩
 refine ⟨fun q f m=>∃ (i:Nat),q=s.lines.length - i/\i<=s.lines.length/\(∀ (j:Nat) y,j < i->s.lines[j]? = some y->o6 y=true)/\f=[(1,SV.ptr 1 0),(3,SV.c (.int .i64 (bk (s.lines.take i)))),(31,SV.c (.slice a s.lines.length cap)),(32,SV.c (.int .i64 (s.lines.length:Nat))),(33,SV.c (.int .i64 (i:Nat)))]/\m=[(1,Blk.row 42 5 (s.A (.slice a s.lines.length cap)))],s.lines.length,⟨_,_,⟨0,rfl,by omega,fun j y h=>by omega,rfl,rfl⟩,⟨rfl,rfl,rfl,rfl,rfl,trivial⟩,⟨rfl,trivial⟩,rfl⟩,?_⟩
 rintro q f m ⟨i,rfl,hi,hok,rfl,rfl⟩
 refine ⟨fun h=>?_,fun h=>?_⟩
 ·have h:i < s.lines.length:=by have:=af h;omega
  obtain ⟨b,o,rfl,h5⟩:=h4 (by omega)
  obtain ⟨y,hy⟩:∃ y,s.lines[i]? = some y:=⟨_,List.getElem?_eq_getElem h⟩
  have hyi:=hin y (List.mem_of_getElem? hy)
  have hE':VOk (aT Tryz.prog tt Tryz.f30.ntmps w X (aF [] β)):=ai
  have L1:=bd hE' h5 LnQ.size hy (ty:=77) (ti:=oY) rfl rfl rfl (p:=o+(i:Int).toNat*137) rfl
  have AM:=xn hyi.qty hyi.price hyi.rate
  have hs:o6 y=(decide (dq y.qty y.price y.rate=(y.amt,0)) && (inB y.kind 1 4 && inB y.day 0 73048)):=rfl
  have t2:=t2 i y hy
  have Y0:=y.g0
  have Y2:=y.g2
  have Y3:=y.g3
  have YA:=y.g136
  have YP:=y.gprice
  have YR:=y.grate
  have YF:=y.fits
  have X1:=fl y.kind 1 4
  have X2:=fl y.day 0 73048
  have tt1:=Dl hy
  have tb:=GV hok (by omega)
  obtain ⟨n,e,hN⟩:∃ n e,dq y.qty y.price y.rate=(n,e):=⟨_,_,rfl⟩
  have hnb:=nD y.qty y.price y.rate
  rw [hN] at AM hs hnb
  have hnb : -1000000000000000<=n/\n<=1000000000000000:=hnb
  have ret:o6 y=false->cT [.int .i64 200]=Value.int .i64 VR:=fun h=>by rw [t2 h];rfl
  generalize hYY:y.A=YY at *
  refine ⟨by omega,by omega,.inl ⟨_,L1,YF,_,Y3,by decide,_,YP,by decide,_,YR,.inl ⟨_,AM,fun c5=>?_,fun c5=>?_⟩⟩⟩
  case refine_2 =>
   have c5:(e != 0)=true:=c5
   have c5:e≠0:=by simpa using c5
   exact ⟨nf,fun _=>⟨nf,fun _=>⟨fun _=>⟨[],[],⟨ret (by rw [hs,decide_eq_false (fun g=>c5 (congrArg Prod.snd g))];rfl),rfl⟩,trivial,rfl⟩,nf⟩⟩⟩
  have c5:(e != 0)=false:=c5
  have c5:e=0:=by simpa using c5
  subst c5
  refine ⟨_,YA,fun c6=>?_,fun c6=>?_⟩
  case refine_2 =>
   have c6:(n != y.amt)=true:=c6
   have c6:n≠y.amt:=by simpa using c6
   exact ⟨nf,fun _=>⟨fun _=>⟨[],[],⟨ret (by rw [hs,decide_eq_false (fun g=>c6 (congrArg Prod.fst g))];rfl),rfl⟩,trivial,rfl⟩,nf⟩⟩
  have c6:(n != y.amt)=false:=c6
  have c6:n=y.amt:=by simpa using c6
  refine ⟨_,Y0,.inl ⟨_,X1,fun c7=>?_,fun c7=>?_⟩⟩
  case refine_2 =>
   have c7:inB y.kind 1 4=false:=ba c7
   exact ⟨fun _=>⟨[],[],⟨ret (by rw [hs,c7];simp),rfl⟩,trivial,rfl⟩,nf⟩
  have c7:inB y.kind 1 4=true:=bc c7
  refine ⟨_,Y2,.inl ⟨_,X2,fun c8=>?_,fun c8=>?_⟩⟩
  ·have c8:inB y.day 0 73048=false:=ba c8
   exact ⟨[],[],⟨ret (by rw [hs,c8];simp),rfl⟩,trivial,rfl⟩
  have c8:inB y.day 0 73048=true:=bc c8
  have hg:o6 y=true:=by rw [hs,c6,c7,c8];simp
  have hw:IntKind.i64.wrap (bk (s.lines.take i)+n)=bk (s.lines.take (i+1)):=by rw [tt1,<- c6];exact i64_in (by omega)
  refine ⟨s.lines.length - (i+1),_,_,by omega,⟨i+1,rfl,by omega,fun j z hj hz=>?_,rfl,rfl⟩,⟨rfl,am hw,rfl,rfl,am (ar (by omega)),trivial⟩,⟨rfl,trivial⟩,rfl⟩
  rcases Nat.lt_or_ge j i with h9 | h9
  ·exact hok j z h9 hz
  ·have:j=i:=by omega
   subst this
   rw [hy] at hz;cases hz
   exact hg
 ·have h:i=s.lines.length:=by have:=ag h;omega
  subst h
  rw [List.take_length]
  refine ⟨_,rfl,fun c5=>?_,fun c5=>?_⟩
  case refine_2 =>
   have c5:(bk s.lines != s.total)=true:=c5
   have c5:bk s.lines≠s.total:=by simpa using c5
   exact ⟨fun _=>⟨[],[],⟨by rw [t3 (by rw [decide_eq_false c5];rfl)];rfl,rfl⟩,trivial,rfl⟩,nf⟩
  have c5:(bk s.lines != s.total)=false:=c5
  have c5:bk s.lines=s.total:=by simpa using c5
  rw [<- c5] at W1
  refine .inl ⟨_,W1,fun c6=>?_,fun c6=>?_⟩
  ·have c6:=ba c6
   exact ⟨[],[],⟨by rw [t3 (by rw [<- c5,c6];simp)];rfl,rfl⟩,trivial,rfl⟩
  ·have c6:=bc c6
   exact ⟨[],[],⟨by rw [t4 hh1 (fun j y hy=>hok j y (List.getElem?_eq_some_iff.1 hy).1 hy) (by rw [<- c5,c6];simp)];rfl,rfl⟩,trivial,rfl⟩
structure OB where
 k:Key
 v:Value
 e:TypeId
 sz:Nat
 n:Nat
 A:Array Value
abbrev OB.m (b:OB):Key×Blk:=(b.k,Blk.own b.v b.e b.sz b.n b.A)
theorem wq:∀ {a b:aE} {k:Key},ay a k=none->ay b k=none->ay (a++b) k=none
 | [],b,k,_,h=>h
 | (d,B) :: a,b,k,h1,h2=>by
  simp only [ay] at h1 ⊢
  rw [List.cons_append]
  simp only [ay]
  by_cases e:d=k
  ·rw [if_pos e] at h1;cases h1
  ·rw [if_neg e] at h1 ⊢
   exact wq h1 h2
theorem qL:∀ {l:List OB} {k:Key},(l.map OB.k).contains k=false->ay (l.map OB.m) k=none
 | [],k,_=>rfl
 | b :: l,k,h=>by
  rw [List.map_cons,List.contains_cons,Bool.or_eq_false_iff] at h
  rw [List.map_cons]
  simp only [ay]
  rw [if_neg (fun e=>by rw [e] at h;simp at h)]
  exact qL h.2
theorem EG (l:List OB):Go.SX.keysM (l.map OB.m)=l.map OB.k:=by
 unfold Go.SX.keysM
 rw [List.map_map]
 rfl
theorem J0 {f:FuncId} {sv:List SV} {Q:Value->aE->Prop}:∀ (l:List OB),Go.SX.distinct (l.map OB.k)=true->(∀ b∈l,b.A.all (·.oneCell')=true)->(∀ x U,Q x U->∀ b∈l,ay U b.k=none)->∀ {E:Env},Go.SX.Enters E.P f ->
    (∀ E0:Env,E0.P=E.P->(∀ w,OldW E0 w->OldW E w)->(∀ b∈l,Lst E0 b.v b.sz b.n b.A)->OwnC E0 f sv [] Q)->OwnC E f sv (l.map OB.m) (fun x U=>∃ U0,Q x U0/\U=l.map OB.m++U0)
 | [],_,_,_,E,_,h=>(h E rfl (fun _ h=>h) (fun b hb=>by cases hb)).mono fun x U hq=>⟨U,hq,rfl⟩
 | b :: l,hd,hA,hQ,E,hent,h=>by
  rw [List.map_cons] at hd
  simp only [Go.SX.distinct,Bool.and_eq_true,Bool.not_eq_true'] at hd
  refine (OwnC.with_own2 (k:=b.k) (v:=b.v) (e:=b.e) (sz:=b.sz) (n:=b.n) (A:=b.A) (pre:=l.map OB.m) (Q:=fun x U=>∃ U0,Q x U0/\U=l.map OB.m++U0) (qL hd.1) (by rw [EG];exact hd.2) (hA b (by simp)) hent ?_ ?_).mono ?_
  ·intro E0 h0 ho hl
   refine J0 l hd.2 (fun c hc=>hA c (by simp [hc])) (fun x U hq c hc=>hQ x U hq c (by simp [hc])) (by rw [h0];exact hent) fun E1 h1 ho1 hl1=>?_
   refine h E1 (h1.trans h0) (fun w hw=>ho w (ho1 w hw)) fun c hc=>?_
   rcases List.mem_cons.1 hc with rfl | hc
   ·exact hl.of_old ho1
   ·exact hl1 c hc
  ·rintro x U ⟨U0,hq,rfl⟩
   exact wq (qL hd.1) (hQ x U0 hq b (by simp))
  ·rintro x U ⟨U0,⟨U1,hq,rfl⟩,rfl⟩
   exact ⟨U1,hq,rfl⟩
end Go.Proofs.YtklehfchdoikeaaGreatDoor
