/- chapter 20: checks, the program. chapter 20: checks, the doc; no condition. -/
import Derived.Test.YtklehfchdoikeaaGreatDoorP32
set_option maxRecDepth 100000
set_option maxHeartbeats 4000000
namespace Go.Proofs.YtklehfchdoikeaaGreatDoor
open Go Go.RowKit Go.SX
theorem PfIn.of_old {E E':Env} {g:Led} {vh vc vp:Value} (h:PfIn E g vh vc vp) (hT:∀ w,OldW E' w->OldW E w):PfIn E' g vh vc vp:=⟨h.h.of_old hT,h.c.of_old hT,h.p.of_old hT,h.b,h.ih,h.ic,h.ip⟩
structure VIn (E:Env) (v:VQ) (vh vc vp vq vs vn va:Value):Prop where
 pf:PfIn E v.g vh vc vp
 q:MkR E vq vs v.qs v.pol
 n:Lst E vn 68 v.nst.length (cat NeQ.A v.nst)
 nb:v.nst.length<=2000000000000
 nin:∀ y∈v.nst,y.In
 a:Lst E va 136 v.acs.length (cat AcQ.A v.acs)
 ab:v.acs.length<=2000000000000
 ain:∀ y∈v.acs,y.In
 cur:v.cur.length<=9223372036854775807
 piv:v.piv.length<=9223372036854775807
theorem VIn.of_old {E E':Env} {v:VQ} {vh vc vp vq vs vn va:Value} (h:VIn E v vh vc vp vq vs vn va) (hT:∀ w,OldW E' w->OldW E w):VIn E' v vh vc vp vq vs vn va:=⟨h.pf.of_old hT,h.q.of_old hT,h.n.of_old hT,h.nb,h.nin,h.a.of_old hT,h.ab,h.ain,h.cur,h.piv⟩
structure VA (v:VQ) (vh vc vp vq vs vn va:Value) (A:Array Value):Prop where
 size:A.size=78
 g0:A[0]? = some (.string (S v.cur))
 g1:A[1]? = some (.string (S v.piv))
 g2:A[2]? = some (.int .i64 v.day)
 g3:A[3]? = some (.int .i64 v.known)
 g4:A[4]? = some vh
 g5:A[5]? = some vc
 g6:A[6]? = some vp
 g7:A[7]? = some vq
 pf:A.extract 4 (4+3)=#[vh,vc,vp]
 pol:A.extract 8 (8+68)=v.pol.A vs
 g76:A[76]? = some vn
 g77:A[77]? = some va
theorem VQ.at (v:VQ) (vh vc vp vq vs vn va:Value):VA v vh vc vp vq vs vn va (v.A vh vc vp vq vs vn va):=by
 have hp:(v.pol.A vs).size=68:=v.pol.size vs
 refine ⟨by simp [VQ.A,hp],?_,?_,?_,?_,?_,?_,?_,?_,?_,?_,?_,?_⟩
 iterate 8 (unfold VQ.A;rw [Array.getElem?_append_left (by simp)];rfl)
 ·unfold VQ.A
  rw [Array.extract_append]
  simp
 ·unfold VQ.A
  rw [Array.extract_append,Array.extract_append]
  simp [hp]
 ·unfold VQ.A
  rw [Array.getElem?_append_right (by simp),Array.getElem?_append_right (by simp [hp])]
  simp [hp]
 ·unfold VQ.A
  rw [Array.getElem?_append_right (by simp),Array.getElem?_append_right (by simp [hp])]
  simp [hp]
theorem VQ.fits {v:VQ} {vh vc vp vq vs vn va:Value} (h1:vh.oneCell'=true) (h2:vc.oneCell'=true) (h3:vp.oneCell'=true) (h4:vq.oneCell'=true) (h5:vs.oneCell'=true) (h6:vn.oneCell'=true) (h7:va.oneCell'=true):Fits (v.A vh vc vp vq vs vn va) 78:=⟨(v.at ..).size,by
 rw [VQ.A,Array.all_append,Array.all_append,(v.pol.fits h5).one]
 simp [h1,h2,h3,h4,h6,h7]
 exact ⟨rfl,rfl,rfl,rfl⟩⟩
theorem NG {v:VQ} (h:(aF v.cur && (aF v.piv && (inB v.day 0 73048 && inB v.known 0 2147483647)))=false):cM v=false:=by unfold cM;rw [h];rfl
theorem NE {v:VQ} (h:(bP v.g && (decide (cf v.qs=0) && (bc v.pol && jS v.nst)))=false):cM v=false:=by unfold cM;rw [h];simp
theorem ND {v:VQ} (h:(decide (v.acs.length<=16) && v.acs.all cg)=false):cM v=false:=by unfold cM;rw [h];simp
theorem NC {v:VQ} (h:¬ v.g.h.length+v.g.c.length+v.g.p.length+v.acs.length<=512):cM v=false:=by unfold cM;rw [decide_eq_false h];simp
theorem NB {v:VQ} (h1:(aF v.cur && (aF v.piv && (inB v.day 0 73048 && inB v.known 0 2147483647)))=true) (h2:(bP v.g && (decide (cf v.qs=0) && (bc v.pol && jS v.nst)))=true) (h3:(decide (v.acs.length<=16) && v.acs.all cg)=true) (h4:v.g.h.length+v.g.c.length+v.g.p.length+v.acs.length<=512):cM v=true:=by unfold cM;rw [h1,h2,h3,decide_eq_true h4];rfl
theorem KZ {E:Env} (hE:E.P=Tryz.prog) {v:VQ} {vh vc vp vq vs vn va:Value} {A:Array Value} (hA:VA v vh vc vp vq vs vn va A) (I:VIn E v vh vc vp vq vs vn va):OwnC E 14 [SV.c (.agg A)] [] (fun r U=>r=.int .i64 (if cM v then 0 else 201)/\U=[]):=by
 refine aD [] ai ak UZ E hE [SV.c (.agg A)] [] _ rfl rfl fun w X β hT=>?_
 have J:=I.of_old hT
 have hE2:(aY Tryz.prog tt Tryz.f14.ntmps w X (aJ [] β)).toEnv.P=Tryz.prog:=rfl
 have K1:=jI v.cur I.cur
 have K2:=jI v.piv I.piv
 have D1:=eO v.day 0 73048
 have D2:=eO v.known 0 2147483647
 have P1:=Fl hE2 J.pf
 have Q1:=wJ hE2 J.q.l J.q.n J.q.inn
 have Q2:=wK hE2 J.q.s J.q.m J.q.pin
 have N1:=GF hE2 J.n J.nb J.nin
 have A1:=yV hE2 J.a J.ab J.ain
 obtain ⟨hs,g0,g1,g2,g3,g4,g5,g6,g7,gp,gl,g76,g77⟩:=hA
 obtain ⟨ah,ch,rfl,-,-⟩:=J.pf.h.shape
 obtain ⟨ac,cc,rfl,-,-⟩:=J.pf.c.shape
 obtain ⟨ap,cp,rfl,-,-⟩:=J.pf.p.shape
 obtain ⟨aa,ca,rfl,-,-⟩:=J.a.shape
 have t1:=NG (v:=v)
 have t2:=NE (v:=v)
 have t3:=ND (v:=v)
 have t4:=NC (v:=v)
 have t5:=NB (v:=v)
 generalize cM v=CV at *
 have nf:∀ {p:Prop},true=false->p:=fun h=>by cases h
 have bad:CV=false->cW [.int .i64 201]=Value.int .i64 (if CV=true then 0 else 201):=fun h=>by rw [h];rfl
 have FP:Fits #[Value.slice ah v.g.h.length ch,Value.slice ac v.g.c.length cc,Value.slice ap v.g.p.length cp] 3:=⟨rfl,by simp [Value.oneCell']⟩
 refine ⟨hs,by decide,_,gp,FP,_,g0,.inl ⟨_,K1,fun c1=>?_,fun c1=>?_⟩⟩
 case refine_2 =>
  have c1:aF v.cur=false:=bu c1
  exact ⟨nf,fun _=>⟨nf,fun _=>⟨fun _=>⟨[],[],⟨bad (t1 (by rw [c1];rfl)),rfl⟩,trivial,rfl⟩,nf⟩⟩⟩
 have c1:aF v.cur=true:=bw c1
 refine ⟨_,g1,.inl ⟨_,K2,fun c2=>?_,fun c2=>?_⟩⟩
 case refine_2 =>
  have c2:aF v.piv=false:=bu c2
  exact ⟨nf,fun _=>⟨fun _=>⟨[],[],⟨bad (t1 (by rw [c2];simp)),rfl⟩,trivial,rfl⟩,nf⟩⟩
 have c2:aF v.piv=true:=bw c2
 refine ⟨_,g2,.inl ⟨_,D1,fun c3=>?_,fun c3=>?_⟩⟩
 case refine_2 =>
  have c3:inB v.day 0 73048=false:=bu c3
  exact ⟨fun _=>⟨[],[],⟨bad (t1 (by rw [c3];simp)),rfl⟩,trivial,rfl⟩,nf⟩
 have c3:inB v.day 0 73048=true:=bw c3
 refine ⟨_,g3,.inl ⟨_,D2,fun c4=>?_,fun c4=>?_⟩⟩
 ·have c4:inB v.known 0 2147483647=false:=bu c4
  exact ⟨[],[],⟨bad (t1 (by rw [c4];simp)),rfl⟩,trivial,rfl⟩
 have c4:inB v.known 0 2147483647=true:=bw c4
 refine .inr (.inr (.inl ⟨[],[_],[],_,[],P1,rfl,trivial,rfl,rfl,fun c5=>?_,fun c5=>?_⟩))
 case refine_2 =>
  have c5:bP v.g=false:=bu c5
  exact ⟨nf,fun _=>⟨nf,fun _=>⟨fun _=>⟨[],[],⟨bad (t2 (by rw [c5];rfl)),rfl⟩,trivial,rfl⟩,nf⟩⟩⟩
 have c5:bP v.g=true:=bw c5
 refine ⟨_,g7,.inr (.inr (.inl ⟨[],[_],[],_,[],Q1,rfl,trivial,rfl,rfl,fun c6=>?_,fun c6=>?_⟩))⟩
 case refine_2 =>
  have c6:(cf v.qs != 0)=true:=c6
  have c6:¬ cf v.qs=0:=by simpa using c6
  exact ⟨nf,fun _=>⟨fun _=>⟨[],[],⟨bad (t2 (by rw [decide_eq_false c6];simp)),rfl⟩,trivial,rfl⟩,nf⟩⟩
 have c6:(cf v.qs != 0)=false:=c6
 have c6:cf v.qs=0:=by simpa using c6
 refine ⟨by decide,_,gl,.inr (.inr (.inl ⟨[],[_],[],_,[],Q2,rfl,trivial,rfl,rfl,fun c7=>?_,fun c7=>?_⟩))⟩
 case refine_2 =>
  have c7:((if bc v.pol then (0:Int) else 150) != 0)=true:=c7
  have c7:bc v.pol=false:=by cases e:bc v.pol<;>simp [e] at c7 ⊢
  exact ⟨fun _=>⟨[],[],⟨bad (t2 (by rw [c7];simp)),rfl⟩,trivial,rfl⟩,nf⟩
 have c7:((if bc v.pol then (0:Int) else 150) != 0)=false:=c7
 have c7:bc v.pol=true:=by cases e:bc v.pol<;>simp [e] at c7 ⊢
 refine ⟨_,g76,.inr (.inr (.inl ⟨[],[_],[],_,[],N1,rfl,trivial,rfl,rfl,fun c8=>?_,fun c8=>?_⟩))⟩
 ·have c8:jS v.nst=false:=bu c8
  exact ⟨[],[],⟨bad (t2 (by rw [c8];simp)),rfl⟩,trivial,rfl⟩
 have c8:jS v.nst=true:=bw c8
 refine ⟨_,g77,_,fun w' _=>ao Tryz.underlying37 w',fun c9=>?_,fun c9=>?_⟩
 case refine_2 =>
  have c9:v.acs.length > 16:=by have:=af (show decide (((v.acs.length:Nat):Int) > 16)=true from c9);omega
  exact ⟨fun _=>⟨[],[],⟨bad (t3 (by rw [decide_eq_false (show ¬ v.acs.length<=16 by omega)];rfl)),rfl⟩,trivial,rfl⟩,nf⟩
 have c9:¬ v.acs.length > 16:=by have:=ag (show decide (((v.acs.length:Nat):Int) > 16)=false from c9);omega
 refine ⟨_,g77,.inr (.inr (.inl ⟨[],[_,_],[],_,[],A1,rfl,trivial,rfl,rfl,fun ca=>?_,fun ca=>?_⟩))⟩
 ·have ca:v.acs.all cg=false:=bu ca
  exact ⟨[],[],⟨bad (t3 (by rw [ca];simp)),rfl⟩,trivial,rfl⟩
 have ca:v.acs.all cg=true:=bw ca
 have hb:=I.pf.b
 have ew:IntKind.i64.wrap (IntKind.i64.wrap (IntKind.i64.wrap (((v.g.h.length:Nat):Int)+((v.g.c.length:Nat):Int))+((v.g.p.length:Nat):Int))+((v.acs.length:Nat):Int))=((v.g.h.length+v.g.c.length+v.g.p.length+v.acs.length:Nat):Int):=by
  rw [i64_in (x:=((v.g.h.length:Nat):Int)+((v.g.c.length:Nat):Int)) (by omega),i64_in (x:=((v.g.h.length:Nat):Int)+((v.g.c.length:Nat):Int)+((v.g.p.length:Nat):Int)) (by omega),i64_in (by omega)]
  omega
 refine ⟨_,rfl,_,fun w' _=>ao Tryz.underlying22 w',_,rfl,_,fun w' _=>ao Tryz.underlying23 w',_,rfl,_,fun w' _=>ao Tryz.underlying23 w',_,g77,_,fun w' _=>ao Tryz.underlying37 w',fun cb=>?_,fun cb=>?_⟩
 ·have cb:=af (show decide (IntKind.i64.wrap (IntKind.i64.wrap (IntKind.i64.wrap (((v.g.h.length:Nat):Int)+((v.g.c.length:Nat):Int))+((v.g.p.length:Nat):Int))+((v.acs.length:Nat):Int)) > 512)=true from cb)
  rw [ew] at cb
  exact ⟨[],[],⟨bad (t4 (by omega)),rfl⟩,trivial,rfl⟩
 ·have cb:=ag (show decide (IntKind.i64.wrap (IntKind.i64.wrap (IntKind.i64.wrap (((v.g.h.length:Nat):Int)+((v.g.c.length:Nat):Int))+((v.g.p.length:Nat):Int))+((v.acs.length:Nat):Int)) > 512)=false from cb)
  rw [ew] at cb
  have hg:CV=true:=t5 (by rw [c1,c2,c3,c4];rfl) (by rw [c5,c7,c8,decide_eq_true c6];rfl) (by rw [ca,decide_eq_true (show v.acs.length<=16 by omega)];rfl) (by omega)
  exact ⟨[],[],⟨by rw [hg];rfl,rfl⟩,trivial,rfl⟩
theorem LnQ.lay4 (a:LnQ):a.A=#[.int .i64 a.kind,.string (S a.nm),.int .i64 a.day,.int .i64 a.qty]++(a.price.A++(a.rate.A++#[.int .i64 a.amt])):=rfl
theorem LnQ.lay70 (a:LnQ):a.A=(#[.int .i64 a.kind,.string (S a.nm),.int .i64 a.day,.int .i64 a.qty]++a.price.A)++(a.rate.A++#[.int .i64 a.amt]):=by simp [LnQ.A]
theorem LnQ.lay136 (a:LnQ):a.A=(#[.int .i64 a.kind,.string (S a.nm),.int .i64 a.day,.int .i64 a.qty]++(a.price.A++a.rate.A))++#[.int .i64 a.amt]:=by simp [LnQ.A]
theorem LnQ.setday (a:LnQ) (n:Int):a.A.setIfInBounds (0+2) (.int .i64 n)=({ a with day:=n }:LnQ).A:=by
 rw [LnQ.A,Array.setIfInBounds_append_left (by simp)];rfl
theorem LnQ.setprice (a:LnQ) (x:RQ):aM a.A (0+4) x.A.toList=({ a with price:=x }:LnQ).A:=by
 rw [LnQ.lay4,LnQ.lay4,ja (by simp) (by simp [RQ.A_size])]
theorem LnQ.setrate (a:LnQ) (x:RQ):aM a.A (0+70) x.A.toList=({ a with rate:=x }:LnQ).A:=by
 rw [LnQ.lay70,LnQ.lay70,ja (by simp [RQ.A_size]) (by simp [RQ.A_size])]
theorem LnQ.setamt (a:LnQ) (n:Int):a.A.setIfInBounds (0+136) (.int .i64 n)=({ a with amt:=n }:LnQ).A:=by
 rw [LnQ.lay136,LnQ.lay136,jb 0 (by simp [RQ.A_size])];rfl
theorem HW (kind day qty:Int) (nm:Bs) {pl:List (Nat×Nat)} (hpl:pl=[(0,1),(1,1),(2,1),(3,1),(4,66),(70,66),(136,1)]):Instr.fill (fun k=>pl[k]?) fR.zero [(0,.int .i64 kind),(1,.string (S nm)),(2,.int .i64 day),(3,.int .i64 qty)]=some (LnQ.A ⟨kind,nm,day,qty,aG,aG,0⟩):=by
 subst hpl;kernel_rfl
theorem yJ (kind day qty:Int) (nm:Bs) (x:RQ) {pl:List (Nat×Nat)} (hpl:pl=[(0,1),(1,1),(2,1),(3,1),(4,66),(70,66),(136,1)]):Instr.fill (fun k=>pl[k]?) fR.zero [(0,.int .i64 kind),(1,.string (S nm)),(2,.int .i64 day),(3,.int .i64 qty),(4,.agg x.A)]=some (LnQ.A ⟨kind,nm,day,qty,x,aG,0⟩):=by
 subst hpl;kernel_rfl
def jj (v:VQ) (i:ItQ):Value:=.tuple #[.agg (aU v i).1.A,.string (S (aU v i).2.1),.int .i64 (aU v i).2.2]
def Lb (x:Ky×Int) (k:Int):Array Value:=#[.string (S x.1.1),.int .i64 x.1.2,.int .i64 x.2,.int .i64 k]
theorem uR {l:List NeQ} {k:Bs} (h:∀ (j:Nat) y,l[j]? = some y->¬ y.ins=k):l.find? (fun n=>decide (n.ins=k))=none:=by
 rw [List.find?_eq_none]
 intro x hx
 obtain ⟨j,hj⟩:=List.getElem?_of_mem hx
 simpa using h j x hj
theorem Kw {l:List NeQ} {k:Bs} {i:Nat} {y:NeQ} (hy:l[i]? = some y) (h:y.ins=k) (hb:∀ (j:Nat) z,j < i->l[j]? = some z->¬ z.ins=k):l.find? (fun n=>decide (n.ins=k))=some y:=by
 have hlt:=(List.getElem?_eq_some_iff.1 hy).1
 have e:l=l.take i++y :: l.drop (i+1):=by
  have h1:=(List.take_append_drop i l).symm
  rw [List.drop_eq_getElem_cons hlt] at h1
  have h2:l[i]=y:=(List.getElem?_eq_some_iff.1 hy).2
  rw [h2] at h1
  exact h1
 rw [e,List.find?_append]
 have:(l.take i).find? (fun n=>decide (n.ins=k))=none:=uR fun j z hz=>by
  have hj:j < i:=by
   have:=(List.getElem?_eq_some_iff.1 hz).1
   rw [List.length_take] at this;omega
  rw [List.getElem?_take_of_lt hj] at hz
  exact hb j z hj hz
 rw [this]
 simp [h]
theorem G9 {E:Env} (hE:E.P=Tryz.prog) {v:VQ} {vh vc vp vq vs vn va:Value} {A:Array Value} (hA:VA v vh vc vp vq vs vn va A) (x:Ky×Int) (k:Int):OwnC E 359 [SV.c (.agg (Lb x k)),SV.c (.agg A)] [] (fun r U=>r=jj v (.b x k)/\U=[]):=by
 refine aD [] ai ak PW E hE [SV.c (.agg (Lb x k)),SV.c (.agg A)] [] _ rfl rfl fun w X β hT=>?_
 obtain ⟨hs,g0,g1,g2,g3,g4,g5,g6,g7,gp,gl,g76,g77⟩:=hA
 have C1:=Iy
 have F1:=fun d=>yJ k d x.2 x.1.1 im rfl
 have LF:=fun d=>LnQ.fits ⟨k,x.1.1,d,x.2,im,aG,0⟩
 have LD:=LnQ.setday ⟨k,x.1.1,v.day,x.2,im,aG,0⟩ x.1.2
 have L0:aU v (.b x k)=(⟨k,x.1.1,if k=3 then x.1.2 else v.day,x.2,im,aG,0⟩,x.1.1,0):=rfl
 have LF2:=LF x.1.2
 have LF1:=LF v.day
 have F1:=F1 v.day
 unfold jj
 rw [L0]
 generalize hLA:LnQ.A ⟨k,x.1.1,v.day,x.2,im,aG,0⟩=LA at *
 generalize hLB:LnQ.A ⟨k,x.1.1,x.1.2,x.2,im,aG,0⟩=LB at *
 refine ⟨rfl,hs,_,rfl,_,rfl,_,g2,_,rfl,.inl ⟨_,C1,_,F1,LF1,by kernel_rfl,_,rfl,fun c=>?_,fun c=>?_⟩⟩
 ·have c:k=3:=by have c:(k == 3)=true:=c;simpa using c
  refine ⟨_,rfl,by decide,rfl,_,LD,_,rfl,LF2,by kernel_rfl,?_⟩
  refine ⟨[],[],⟨?_,rfl⟩,trivial,rfl⟩
  rw [if_pos c,hLB];rfl
 ·have c:¬ k=3:=by have c:(k == 3)=false:=c;simpa using c
  refine ⟨_,rfl,LF1,by kernel_rfl,?_⟩
  refine ⟨[],[],⟨?_,rfl⟩,trivial,rfl⟩
  rw [if_neg c,hLA];rfl
theorem IE (a:AcQ) : -2000000000000000<=(jN a).1/\(jN a).1<=2000000000000000:=by
 unfold jN
 split
 ·rename_i h
  unfold cg at h
  simp only [Bool.and_eq_true,decide_eq_true_eq] at h
  have hb : -1000000000000000<=jh a/\jh a<=1000000000000000:=vV _
  have:=h.2.2.1
  have:=h.2.2.2.1
  simp only
  omega
 ·simp
theorem Nf {E:Env} (hE:E.P=Tryz.prog) {v:VQ} {vh vc vp vq vs vn va:Value} {A:Array Value} (hA:VA v vh vc vp vq vs vn va A) {a:AcQ} (ha:a.In):OwnC E 362 [SV.c (.agg a.A),SV.c (.agg A)] [] (fun r U=>r=jj v (.f a)/\U=[]):=by
 refine aD [] ai ak PT E hE [SV.c (.agg a.A),SV.c (.agg A)] [] _ rfl rfl fun w X β hT=>?_
 obtain ⟨hs,g0,g1,g2,g3,g4,g5,g6,g7,gp,gl,g76,g77⟩:=hA
 have C1:=Iy
 have B1:=IC ha
 have bb:=IE a
 have F1:=yJ 4 a.til (-(jN a).1) a.nm im rfl
 have LF:=LnQ.fits ⟨4,a.nm,a.til,-(jN a).1,im,aG,0⟩
 have L0:aU v (.f a)=(⟨4,a.nm,a.til,-(jN a).1,im,aG,0⟩,v.cur,(jN a).2):=rfl
 have A0:=a.g0
 have A5:=a.g135
 have AS:=a.size
 unfold jj
 rw [L0]
 generalize jN a=BQ at *
 obtain ⟨n,e⟩:=BQ
 generalize hLA:LnQ.A ⟨4,a.nm,a.til,-(n,e).1,im,aG,0⟩=LA at *
 generalize a.A=AA at *
 have hw:IntKind.i64.wrap (0 - n)=-n:=by rw [Int.zero_sub];exact i64_in (by simp only at bb;omega)
 have F2:Instr.fill (fun k=>[(0,1),(1,1),(2,1),(3,1),(4,66),(70,66),(136,1)][k]?) fR.zero [(0,.int .i64 4),(1,.string (S a.nm)),(2,.int .i64 a.til),(3,.int .i64 (IntKind.i64.wrap (0 - n))),(4,.agg im.A)]=some LA:=by rw [hw];exact F1
 refine ⟨AS,hs,.inl ⟨_,B1,_,A0,_,A5,.inl ⟨_,C1,LA,F2,_,g0,LF,by kernel_rfl,?_⟩⟩⟩
 exact ⟨[],[],⟨rfl,rfl⟩,trivial,rfl⟩
theorem Hb {v:VQ} {x:Bs×Int} {y:NeQ} (h:v.nst.find? (fun n=>decide (n.ins=x.1))=some y):jj v (.h x)=.tuple #[.agg (LnQ.A ⟨1,x.1,v.day,x.2,y.price,aG,0⟩),.string (S y.cur),.int .i64 0]:=by
 simp only [jj,aU,h]
theorem Ha {v:VQ} {x:Bs×Int} (h:v.nst.find? (fun n=>decide (n.ins=x.1))=none):jj v (.h x)=.tuple #[.agg (LnQ.A ⟨1,x.1,(dt (bq v.qs v.known v.pol x.1 v.day) v.pol.tol).day,x.2,(dt (bq v.qs v.known v.pol x.1 v.day) v.pol.tol).price,aG,0⟩),.string (S (dt (bq v.qs v.known v.pol x.1 v.day) v.pol.tol).cur),.int .i64 (oh v.qs v.known v.pol x.1 v.day)]:=by
 simp only [jj,aU,h]
theorem Nd {E:Env} (hE:E.P=Tryz.prog) {v:VQ} {vh vc vp vq vs vn va:Value} {A:Array Value} (hA:VA v vh vc vp vq vs vn va A) (I:VIn E v vh vc vp vq vs vn va) (x:Bs×Int):OwnC E 358 [SV.c (.agg (dI x)),SV.c (.agg A)] [] (fun r U=>r=jj v (.h x)/\U=[]):=by
 refine aD [] ai ak PX E hE [SV.c (.agg (dI x)),SV.c (.agg A)] [] _ rfl rfl fun w X β hT=>?_
 have J:=I.of_old hT
 have hE2:(aY Tryz.prog tt Tryz.f358.ntmps w X (aJ [] β)).toEnv.P=Tryz.prog:=rfl
 have S1:=xq (k:=v.known) hE2 J.q.l J.q.n J.q.inn J.q.s J.q.m J.q.pin x.1 v.day
 obtain ⟨hs,g0,g1,g2,g3,g4,g5,g6,g7,gp,gl,g76,g77⟩:=hA
 obtain ⟨an,cn,rfl,-,h4⟩:=J.n.shape
 have F1:=HW 1 v.day x.2 x.1 rfl
 have LF:=fun d p=>LnQ.fits ⟨1,x.1,d,x.2,p,aG,0⟩
 have LP:∀ p,_:=fun p=>LnQ.setprice ⟨1,x.1,v.day,x.2,aG,aG,0⟩ p
 have LD:∀ d,_:=fun d=>LnQ.setday ⟨1,x.1,v.day,x.2,aG,aG,0⟩ d
 have LQ:=fun d p=>LnQ.setprice ⟨1,x.1,d,x.2,aG,aG,0⟩ p
 have LF0:=LF v.day aG
 have hf:=fun y=>Hb (v:=v) (x:=x) (y:=y)
 have hg:=Ha (v:=v) (x:=x)
 generalize jj v (.h x)=LR at *
 have hLA:∃ LA,LA=LnQ.A ⟨1,x.1,v.day,x.2,aG,aG,0⟩:=⟨_,rfl⟩
 obtain ⟨LA,hLA⟩:=hLA
 rw [<- hLA] at F1 LF0 LP LD
 refine ⟨rfl,hs,_,rfl,_,g2,_,rfl,LA,F1,LF0,?_⟩
 refine ⟨_,g76,_,fun w' _=>ao Tryz.underlying36 w',?_⟩
 refine ⟨fun q f m=>∃ (i:Nat),q=v.nst.length - i/\i<=v.nst.length/\(∀ (j:Nat) y,j < i->v.nst[j]? = some y->¬ y.ins=x.1)/\f=[(2,SV.ptr 2 0),(3,SV.ptr 3 0),(4,SV.ptr 4 0),(7,SV.ptr 7 0),(20,SV.c (.slice an v.nst.length cn)),(21,SV.c (.int .i64 (v.nst.length:Nat))),(22,SV.c (.int .i64 (i:Nat)))]/\m=[(2,Blk.row 148 2 (dI x)),(3,Blk.row 39 78 A),(4,Blk.row 77 137 fR.zero),(7,Blk.row 77 137 LA)],v.nst.length,⟨_,_,⟨0,rfl,by omega,fun j y h=>by omega,rfl,rfl⟩,⟨rfl,rfl,rfl,rfl,rfl,rfl,rfl,trivial⟩,⟨rfl,rfl,rfl,rfl,trivial⟩,rfl⟩,?_⟩
 rintro q f m ⟨i,rfl,hi,hno,rfl,rfl⟩
 refine ⟨fun h=>?_,fun h=>?_⟩
 ·have h:i < v.nst.length:=by have:=af h;omega
  obtain ⟨b,o,rfl,h5⟩:=h4 (by omega)
  obtain ⟨y,hy⟩:∃ y,v.nst[i]? = some y:=⟨_,List.getElem?_eq_getElem h⟩
  have hE':VOk (aY Tryz.prog tt Tryz.f358.ntmps w X (aJ [] β)):=ai
  have L1:=bN hE' h5 NeQ.size hy (ty:=67) (ti:=tT) rfl rfl rfl (p:=o+(i:Int).toNat*68) rfl
  have Y0:=y.g0
  have Y1:=y.g1
  have YP:=y.gprice
  have YF:=y.fits
  have PF:=y.price.A_fits
  have LP:=LP y.price
  have LG:=LF v.day y.price
  generalize y.A=YA at *
  refine ⟨by omega,by omega,.inl ⟨_,L1,YF,_,Y0,_,rfl,fun c=>?_,fun c=>?_⟩⟩
  ·have c:y.ins=x.1:=by
     have c:decide (y.ins=x.1)=true:=by rw [<- eG];exact c
     exact af c
   have hf:=hf y (Kw hy c hno)
   generalize LnQ.A ⟨1,x.1,v.day,x.2,y.price,aG,0⟩=LB at *
   refine ⟨by decide,_,YP,by decide,PF,LB,LP,_,Y1,LG,by kernel_rfl,?_⟩
   exact ⟨[],[],⟨by rw [hf];rfl,rfl⟩,trivial,rfl⟩
  ·have c:¬ y.ins=x.1:=by
     have c:decide (y.ins=x.1)=false:=by rw [<- eG];exact c
     exact ag c
   refine ⟨v.nst.length - (i+1),_,_,by omega,⟨i+1,rfl,by omega,fun j z hj hz=>?_,rfl,rfl⟩,⟨rfl,rfl,rfl,rfl,rfl,rfl,ar (ax (by have:=I.nb;omega)),trivial⟩,⟨rfl,rfl,rfl,rfl,trivial⟩,rfl⟩
   rcases Nat.lt_or_ge j i with h9 | h9
   ·exact hno j z h9 hz
   ·have:j=i:=by omega
    subst this
    rw [hy] at hz;cases hz
    exact c
 ·have h:i=v.nst.length:=by have:=ag h;omega
  subst h
  have hg:=hg (uR fun j y hy=>hno j y (List.getElem?_eq_some_iff.1 hy).1 hy)
  clear h4 LP LF
  generalize v.pol.A vs=PA at *
  unfold Ll at S1
  generalize dt (bq v.qs v.known v.pol x.1 v.day) v.pol.tol=C at *
  generalize oh v.qs v.known v.pol x.1 v.day=SE at *
  generalize sx (bq v.qs v.known v.pol x.1 v.day) v.pol.tol=SB at *
  refine ⟨_,g7,by decide,_,gl,_,g3,_,rfl,_,g2,?_⟩
  refine .inr (.inr (.inr ⟨[],[9000],[_,_,_,_,_],[],_,S1,rfl,trivial,rfl,trivial,?_⟩))
  rintro r1 U1 ⟨s1,n1,hn1,rfl,hs1,rfl⟩
  obtain ⟨sa1,sc1,rfl⟩:=hs1.len
  have CF:=CH.fits C (a:=sa1) (n:=n1) (c:=sc1)
  have C1:=CH.g1 C (.slice sa1 n1 sc1)
  have C2:=CH.g2 C (.slice sa1 n1 sc1)
  have C3:=CH.g3 C (.slice sa1 n1 sc1)
  have PF:=C.price.A_fits
  have LD:=LD C.day
  have LQ:=LQ C.day C.price
  have LG:=LnQ.fits ⟨1,x.1,C.day,x.2,C.price,aG,0⟩
  generalize C.A (.slice sa1 n1 sc1)=CA at *
  generalize hLB:LnQ.A ⟨1,x.1,C.day,x.2,C.price,aG,0⟩=LB at *
  generalize LnQ.A ⟨1,x.1,C.day,x.2,aG,aG,0⟩=LC at *
  refine ⟨rfl,CF,_,C2,by decide,_,C3,by decide,rfl,LC,LD,by decide,PF,LB,LQ,by kernel_rfl,?_⟩
  refine ⟨_,C1,LG,by kernel_rfl,?_⟩
  exact ⟨[],[],⟨by rw [hg];rfl,rfl⟩,trivial,rfl⟩
def itV:ItQ->Value
 | .h x=>.iface 148 (.agg (dI x))
 | .b x k=>.iface 150 (.agg (Lb x k))
 | .f a=>.iface 151 (.agg a.A)
def itA (i:ItQ):Array Value:=#[itV i]
theorem Hg (i:ItQ):(itA i).size=1:=rfl
theorem Kg (i:ItQ):(itV i).oneCell'=true:=by cases i<;>rfl
theorem rM (i:ItQ):(itA i).all (·.oneCell')=true:=by simp [itA,Kg]
theorem pY (t:TypeId) (w:Value):Instr.fill (fun k=>some (k*(tV .nilIface).size,(tV .nilIface).size)) (madeCells (tV .nilIface).zero (1*(tV .nilIface).size)) [(0,.iface t w)]=some #[.iface t w]:=by kernel_rfl
theorem wl (u:Value):(#[u]:Array Value).extract 0 (0+1*1)=#[u]:=rfl
theorem Kn:∃ q,Tryz.prog.info? 97=some q/\q.bytes=16:=fE (by kernel_rfl)
theorem uV (x:Ky×Int) (k:Int) {pl:List (Nat×Nat)} (hpl:pl=[(0,3),(3,1)]):Instr.fill (fun k=>pl[k]?) Lv.zero [(0,.agg (cj x)),(1,.int .i64 k)]=some (Lb x k):=by
 subst hpl;rfl
theorem rL {α:Type} (P:List ItQ) {xs:List α} (f:α->ItQ) {i:Nat} {y:α} (hy:xs[i]? = some y):cat itA (P++(xs.take i).map f)++itA (f y)=cat itA (P++(xs.take (i+1)).map f):=by
 rw [List.take_add_one,hy,List.map_append,<- List.append_assoc,Go.SX.cat_append (P++_)]
 simp [cat]
theorem vZ {v:Value} {e:TypeId} {sz n m:Nat} {A B:Array Value} (h:n=m) (h2:A=B):some (Blk.own v e sz n A)=some (Blk.own v e sz m B):=by rw [h,h2]
def Vb (l:List ItQ) (r:Value) (U:aA):Prop:=∃ x,IsL x l.length/\r=x/\U=[(9900,Blk.own x 97 1 l.length (cat itA l))]
theorem Kf {E:Env} (hE:E.P=Tryz.prog) {v:VQ} {vh vc vp vq vs vn va:Value} {A:Array Value} (hA:VA v vh vc vp vq vs vn va A) (I:VIn E v vh vc vp vq vs vn va) (hl:v.g.h.length+v.g.c.length+v.g.p.length+v.acs.length<=512):OwnC E 43 [SV.c (.agg A)] [] (Vb (aP v)):=by
 refine aD [] ai ak UF E hE [SV.c (.agg A)] [] _ rfl rfl fun w X β hT=>?_
 have J:=I.of_old hT
 obtain ⟨hs,g0,g1,g2,g3,g4,g5,g6,g7,gp,gl,g76,g77⟩:=hA
 obtain ⟨ah,ch,rfl,-,h4h⟩:=J.pf.h.shape
 obtain ⟨ac,cc,rfl,-,h4c⟩:=J.pf.c.shape
 obtain ⟨ap,cp,rfl,-,h4p⟩:=J.pf.p.shape
 obtain ⟨aa,ca,rfl,-,h4a⟩:=J.a.shape
 obtain ⟨qi,hqi,hbi⟩:=Kn
 refine ⟨hs,?_⟩
 refine ⟨_,g4,_,fun w' _=>ao Tryz.underlying22 w',?_⟩
 refine ⟨fun q f m=>∃ (i:Nat) (x:Value),q=v.g.h.length - i/\i<=v.g.h.length/\IsL x (i)/\f=[(1,SV.ptr 1 0),(3,SV.c x),(14,SV.c (.slice ah v.g.h.length ch)),(15,SV.c (.int .i64 (v.g.h.length:Nat))),(16,SV.c (.int .i64 (i:Nat)))]/\m=[(1,Blk.row 39 78 A),(9900,Blk.own x 97 1 (i) (cat itA ((v.g.h.take i).map .h)))],v.g.h.length,⟨_,_,⟨0,.slice none 0 0,rfl,by omega,.nil,rfl,rfl⟩,⟨rfl,rfl,rfl,rfl,rfl,trivial⟩,⟨rfl,.inr ⟨rfl,rfl,rfl⟩,trivial⟩,rfl⟩,?_⟩
 rintro q f m ⟨i,x,rfl,hi,hx,rfl,rfl⟩
 refine ⟨fun h=>?_,fun h=>?_⟩
 ·have h:i < v.g.h.length:=by have:=af h;omega
  obtain ⟨b,o,rfl,h5⟩:=h4h (by omega)
  obtain ⟨y,hy⟩:∃ y,v.g.h[i]? = some y:=⟨_,List.getElem?_eq_getElem h⟩
  have hE':VOk (aY Tryz.prog tt Tryz.f43.ntmps w X (aJ [] β)):=ai
  have L1:=bN hE' h5 lu hy (ty:=59) (ti:=gK) rfl rfl rfl (p:=o+(i:Int).toNat*2) rfl
  have SN:=rL [] .h hy
  obtain ⟨xa,xc,rfl⟩:=hx.len
  refine ⟨by omega,by omega,.inl ⟨_,L1,qt y,?_⟩⟩
  refine iE rfl rfl ⟨_,Tryz.underlying148,fun ms h=>by cases h⟩ ?_
  refine .inl ⟨by decide,by decide,_,pY _ _,rfl,by decide,9900,i,_,.inl rfl,by decide,rM (.h y),rfl,_,wl _,?_⟩
  refine ⟨by omega,by unfold maxLen;omega,⟨qi,hqi,by rw [hbi];omega⟩,trivial,fun g2 cap2=>?_⟩
  exact ⟨v.g.h.length - (i+1),_,_,by omega,⟨i+1,_,rfl,by omega,.some,rfl,rfl⟩,⟨rfl,rfl,rfl,rfl,ar (ax (by omega)),trivial⟩,⟨rfl,.inl (bC SN),trivial⟩,rfl⟩
 ·have h:i=v.g.h.length:=by have:=ag h;omega
  subst h
  rw [List.take_length]
  obtain ⟨P1,hP1⟩:∃ P:List ItQ,P=v.g.h.map .h:=⟨_,rfl⟩
  have hl1:v.g.h.length=P1.length+0:=by rw [hP1];simp
  rw [<- hP1]
  obtain ⟨x1,ex1⟩:∃ z,z=x:=⟨_,rfl⟩
  subst ex1
  have hx1:IsL x1 (P1.length+0):=by rw [<- hl1];exact hx
  refine ⟨_,g5,_,fun w' _=>ao Tryz.underlying23 w',?_⟩
  refine ⟨fun q f m=>∃ (i:Nat) (x:Value),q=v.g.c.length - i/\i<=v.g.c.length/\IsL x (P1.length+i)/\f=[(1,SV.ptr 1 0),(3,SV.c x),(28,SV.c (.slice ac v.g.c.length cc)),(29,SV.c (.int .i64 (v.g.c.length:Nat))),(30,SV.c (.int .i64 (i:Nat)))]/\m=[(1,Blk.row 39 78 A),(9900,Blk.own x 97 1 (P1.length+i) (cat itA (P1++(v.g.c.take i).map (.b · 2))))],v.g.c.length,⟨_,[(1,Blk.row 39 78 A),(9900,Blk.own x1 97 1 (P1.length+0) (cat itA (P1++(v.g.c.take 0).map (.b · 2))))],⟨0,x1,rfl,by omega,hx1,rfl,rfl⟩,⟨rfl,rfl,rfl,rfl,rfl,trivial⟩,⟨rfl,.inl (vZ hl1 (by rw [hP1];simp)),trivial⟩,rfl⟩,?_⟩
  rintro q f m ⟨i,x,rfl,hi,hx,rfl,rfl⟩
  refine ⟨fun h=>?_,fun h=>?_⟩
  ·have h:i < v.g.c.length:=by have:=af h;omega
   obtain ⟨b,o,rfl,h5⟩:=h4c (by omega)
   obtain ⟨y,hy⟩:∃ y,v.g.c[i]? = some y:=⟨_,List.getElem?_eq_getElem h⟩
   have hE':VOk (aY Tryz.prog tt Tryz.f43.ntmps w X (aJ [] β)):=ai
   have L1:=bN hE' h5 cH hy (ty:=88) (ti:=dw) rfl rfl rfl (p:=o+(i:Int).toNat*3) rfl
   have SN:=rL P1 (.b · 2) hy
   obtain ⟨xa,xc,rfl⟩:=hx.len
   refine ⟨by omega,by omega,.inl ⟨_,L1,⟨cH y,gO y⟩,_,uV y 2 rfl,?_⟩⟩
   refine iE rfl rfl ⟨_,Tryz.underlying150,fun ms h=>by cases h⟩ ?_
   refine .inl ⟨by decide,by decide,_,pY _ _,rfl,by decide,9900,P1.length+i,_,.inl rfl,by decide,rM (.b y 2),rfl,_,wl _,?_⟩
   refine ⟨by omega,by unfold maxLen;omega,⟨qi,hqi,by rw [hbi];omega⟩,trivial,fun g2 cap2=>?_⟩
   exact ⟨v.g.c.length - (i+1),_,_,by omega,⟨i+1,_,rfl,by omega,.some,rfl,rfl⟩,⟨rfl,rfl,rfl,rfl,ar (ax (by omega)),trivial⟩,⟨rfl,.inl (bC SN),trivial⟩,rfl⟩
  ·have h:i=v.g.c.length:=by have:=ag h;omega
   subst h
   rw [List.take_length]
   obtain ⟨P2,hP2⟩:∃ P:List ItQ,P=P1++v.g.c.map (.b · 2):=⟨_,rfl⟩
   have hl2:P1.length+v.g.c.length=P2.length+0:=by rw [hP2];simp
   rw [<- hP2]
   obtain ⟨x2,ex2⟩:∃ z,z=x:=⟨_,rfl⟩
   subst ex2
   have hx2:IsL x2 (P2.length+0):=by rw [<- hl2];exact hx
   refine ⟨_,g6,_,fun w' _=>ao Tryz.underlying23 w',?_⟩
   refine ⟨fun q f m=>∃ (i:Nat) (x:Value),q=v.g.p.length - i/\i<=v.g.p.length/\IsL x (P2.length+i)/\f=[(1,SV.ptr 1 0),(3,SV.c x),(43,SV.c (.slice ap v.g.p.length cp)),(44,SV.c (.int .i64 (v.g.p.length:Nat))),(45,SV.c (.int .i64 (i:Nat)))]/\m=[(1,Blk.row 39 78 A),(9900,Blk.own x 97 1 (P2.length+i) (cat itA (P2++(v.g.p.take i).map (.b · 3))))],v.g.p.length,⟨_,[(1,Blk.row 39 78 A),(9900,Blk.own x2 97 1 (P2.length+0) (cat itA (P2++(v.g.p.take 0).map (.b · 3))))],⟨0,x2,rfl,by omega,hx2,rfl,rfl⟩,⟨rfl,rfl,rfl,rfl,rfl,trivial⟩,⟨rfl,.inl (vZ hl2 (by rw [hP2];simp)),trivial⟩,rfl⟩,?_⟩
   rintro q f m ⟨i,x,rfl,hi,hx,rfl,rfl⟩
   refine ⟨fun h=>?_,fun h=>?_⟩
   ·have h:i < v.g.p.length:=by have:=af h;omega
    obtain ⟨b,o,rfl,h5⟩:=h4p (by omega)
    obtain ⟨y,hy⟩:∃ y,v.g.p[i]? = some y:=⟨_,List.getElem?_eq_getElem h⟩
    have hE':VOk (aY Tryz.prog tt Tryz.f43.ntmps w X (aJ [] β)):=ai
    have L1:=bN hE' h5 cH hy (ty:=88) (ti:=dw) rfl rfl rfl (p:=o+(i:Int).toNat*3) rfl
    have SN:=rL P2 (.b · 3) hy
    obtain ⟨xa,xc,rfl⟩:=hx.len
    refine ⟨by omega,by omega,.inl ⟨_,L1,⟨cH y,gO y⟩,_,uV y 3 rfl,?_⟩⟩
    refine iE rfl rfl ⟨_,Tryz.underlying150,fun ms h=>by cases h⟩ ?_
    refine .inl ⟨by decide,by decide,_,pY _ _,rfl,by decide,9900,P2.length+i,_,.inl rfl,by decide,rM (.b y 3),rfl,_,wl _,?_⟩
    refine ⟨by omega,by unfold maxLen;omega,⟨qi,hqi,by rw [hbi];omega⟩,trivial,fun g2 cap2=>?_⟩
    exact ⟨v.g.p.length - (i+1),_,_,by omega,⟨i+1,_,rfl,by omega,.some,rfl,rfl⟩,⟨rfl,rfl,rfl,rfl,ar (ax (by omega)),trivial⟩,⟨rfl,.inl (bC SN),trivial⟩,rfl⟩
   ·have h:i=v.g.p.length:=by have:=ag h;omega
    subst h
    rw [List.take_length]
    obtain ⟨P3,hP3⟩:∃ P:List ItQ,P=P2++v.g.p.map (.b · 3):=⟨_,rfl⟩
    have hl3:P2.length+v.g.p.length=P3.length+0:=by rw [hP3];simp
    rw [<- hP3]
    obtain ⟨x3,ex3⟩:∃ z,z=x:=⟨_,rfl⟩
    subst ex3
    have hx3:IsL x3 (P3.length+0):=by rw [<- hl3];exact hx
    refine ⟨_,g77,_,fun w' _=>ao Tryz.underlying37 w',?_⟩
    refine ⟨fun q f m=>∃ (i:Nat) (x:Value),q=v.acs.length - i/\i<=v.acs.length/\IsL x (P3.length+i)/\f=[(1,SV.ptr 1 0),(3,SV.c x),(57,SV.c (.slice aa v.acs.length ca)),(58,SV.c (.int .i64 (v.acs.length:Nat))),(59,SV.c (.int .i64 (i:Nat)))]/\m=[(1,Blk.row 39 78 A),(9900,Blk.own x 97 1 (P3.length+i) (cat itA (P3++(v.acs.take i).map .f)))],v.acs.length,⟨_,[(1,Blk.row 39 78 A),(9900,Blk.own x3 97 1 (P3.length+0) (cat itA (P3++(v.acs.take 0).map .f)))],⟨0,x3,rfl,by omega,hx3,rfl,rfl⟩,⟨rfl,rfl,rfl,rfl,rfl,trivial⟩,⟨rfl,.inl (vZ hl3 (by rw [hP3];simp)),trivial⟩,rfl⟩,?_⟩
    rintro q f m ⟨i,x,rfl,hi,hx,rfl,rfl⟩
    refine ⟨fun h=>?_,fun h=>?_⟩
    ·have h:i < v.acs.length:=by have:=af h;omega
     obtain ⟨b,o,rfl,h5⟩:=h4a (by omega)
     obtain ⟨y,hy⟩:∃ y,v.acs[i]? = some y:=⟨_,List.getElem?_eq_getElem h⟩
     have hE':VOk (aY Tryz.prog tt Tryz.f43.ntmps w X (aJ [] β)):=ai
     have L1:=bN hE' h5 AcQ.size hy (ty:=69) (ti:=iY) rfl rfl rfl (p:=o+(i:Int).toNat*136) rfl
     have SN:=rL P3 .f hy
     obtain ⟨xa,xc,rfl⟩:=hx.len
     refine ⟨by omega,by omega,.inl ⟨_,L1,y.fits,?_⟩⟩
     refine iE rfl rfl ⟨_,Tryz.underlying151,fun ms h=>by cases h⟩ ?_
     refine .inl ⟨by decide,by decide,_,pY _ _,rfl,by decide,9900,P3.length+i,_,.inl rfl,by decide,rM (.f y),rfl,_,wl _,?_⟩
     refine ⟨by omega,by unfold maxLen;omega,⟨qi,hqi,by rw [hbi];omega⟩,trivial,fun g2 cap2=>?_⟩
     exact ⟨v.acs.length - (i+1),_,_,by omega,⟨i+1,_,rfl,by omega,.some,rfl,rfl⟩,⟨rfl,rfl,rfl,rfl,ar (ax (by omega)),trivial⟩,⟨rfl,.inl (bC SN),trivial⟩,rfl⟩
    ·have h:i=v.acs.length:=by have:=ag h;omega
     subst h
     rw [List.take_length]
     have eP:P3++v.acs.map .f=aP v:=by rw [hP3,hP2,hP1];unfold aP;simp
     have eN:P3.length+v.acs.length=(aP v).length:=by rw [<- eP];simp
     rw [eP,eN]
     rw [eN] at hx
     exact ⟨[(9900,Blk.own x 97 1 (aP v).length (cat itA (aP v)))],[],⟨x,hx,rfl,rfl⟩,⟨.inl rfl,trivial⟩,rfl⟩
theorem Na (x:Value):EY Tryz.prog 148 x "fundadmin/valuation.line" 358 x:=fun w=>by kernel_rfl
theorem GV (x:Value):EY Tryz.prog 150 x "fundadmin/valuation.line" 359 x:=fun w=>by kernel_rfl
theorem Nb (x:Value):EY Tryz.prog 151 x "fundadmin/valuation.line" 362 x:=fun w=>by kernel_rfl
theorem qz {v:VQ} {l:List ItQ} {i:Nat} {it:ItQ} {ls:List LnQ} {e:Int} (hi:l[i]? = some it) (h:bz v (l.take i)=.ok ls) (he:bE v it=.error e):bz v l=.error e:=by
 have hlt:=(List.getElem?_eq_some_iff.1 hi).1
 have e1:l=l.take i++it :: l.drop (i+1):=by
  have h1:=(List.take_append_drop i l).symm
  rw [List.drop_eq_getElem_cons hlt,(List.getElem?_eq_some_iff.1 hi).2] at h1
  exact h1
 rw [e1]
 exact Gg h he
theorem Dt {v:VQ} {l:List ItQ} {i:Nat} {it:ItQ} {ls:List LnQ} {y:LnQ} (hi:l[i]? = some it) (h:bz v (l.take i)=.ok ls) (hs:bE v it=.ok y):bz v (l.take (i+1))=.ok (ls++[y]):=by
 rw [List.take_add_one,hi]
 show bz v (l.take i++[it])=_
 rw [Ds h,hs]
theorem Fq {v:VQ} (h:cM v=false):aZ v=(dJ,201):=by unfold aZ;rw [h];rfl
theorem r0 {v:VQ} {e:Int} (hc:cM v=true) (h:bz v (aP v)=.error e):aZ v=(dJ,e):=by unfold aZ;rw [if_pos hc,h]
theorem Fp {v:VQ} {ls:List LnQ} (hc:cM v=true) (h:bz v (aP v)=.ok ls) (ht:inB (ba ls) (-1000000000000000) 1000000000000000=false):aZ v=(dJ,33):=by
 unfold aZ
 rw [if_pos hc,h]
 unfold inB at ht
 rw [<- Bool.decide_and] at ht
 have ht:=ag ht
 show (if _ then _ else _)=_
 rw [if_pos (by omega)]
theorem Je {v:VQ} {ls:List LnQ} (hc:cM v=true) (h:bz v (aP v)=.ok ls) (ht:inB (ba ls) (-1000000000000000) 1000000000000000=true):aZ v=(⟨v.cur,v.day,v.known,ls,ba ls⟩,0):=by
 unfold aZ
 rw [if_pos hc,h]
 unfold inB at ht
 rw [<- Bool.decide_and] at ht
 have ht:=af ht
 show (if _ then _ else _)=_
 rw [if_neg (by omega)]
theorem Jv {v:VQ} {i:ItQ} {l:LnQ} {f:Bs} {e:Int} (h:aU v i=(l,f,e)) (he:e≠0):bE v i=.error e:=by unfold bE;rw [h];exact if_pos he
theorem Ju {v:VQ} {i:ItQ} {l:LnQ} {f:Bs} {r:RQ} {e:Int} (h:aU v i=(l,f,0)) (hr:cv v.qs v.known v.pol v.day v.piv f v.cur=(r,e)) (he:e≠0):bE v i=.error e:=by
 unfold bE;rw [h];show (if _ then _ else _)=_;rw [if_neg (by simp)];show (if _ then _ else _)=_;rw [hr];exact if_pos he
theorem Jt {v:VQ} {i:ItQ} {l:LnQ} {f:Bs} {r:RQ} {n e:Int} (h:aU v i=(l,f,0)) (hr:cv v.qs v.known v.pol v.day v.piv f v.cur=(r,0)) (ha:eL l.qty l.price r=(n,e)) (he:e≠0):bE v i=.error e:=by
 unfold bE;rw [h];show (if _ then _ else _)=_;rw [if_neg (by simp)];show (if _ then _ else _)=_;rw [hr,if_neg (by simp)];show (if _ then _ else _)=_;rw [ha];exact if_pos he
theorem Js {v:VQ} {i:ItQ} {l:LnQ} {f:Bs} {r:RQ} {n:Int} (h:aU v i=(l,f,0)) (hr:cv v.qs v.known v.pol v.day v.piv f v.cur=(r,0)) (ha:eL l.qty l.price r=(n,0)):bE v i=.ok { l with rate:=r,amt:=n }:=by
 unfold bE;rw [h];show (if _ then _ else _)=_;rw [if_neg (by simp)];show (if _ then _ else _)=_;rw [hr,if_neg (by simp)];show (if _ then _ else _)=_;rw [ha];rfl
def EX (R:ShQ×Int) (r:Value) (U:aA):Prop:=∃ x,IsL x R.1.lines.length/\r=.tuple #[.agg (R.1.A x),.int .i64 R.2]/\U=[(9800,Blk.own x 77 137 R.1.lines.length (cat LnQ.A R.1.lines))]
theorem HQ (cur:Bs) (day known:Int) {pl:List (Nat×Nat)} (hpl:pl=[(0,1),(1,1),(2,1),(3,1),(4,1)]):Instr.fill (fun k=>pl[k]?) w9.zero [(0,.string (S cur)),(1,.int .i64 day),(2,.int .i64 known)]=some #[.string (S cur),.int .i64 day,.int .i64 known,.slice none 0 0,.int .i64 0]:=by
 subst hpl;rfl
theorem AJ (l:LnQ):Instr.fill (fun k=>some (k*fR.size,fR.size)) (madeCells fR.zero (1*fR.size)) [(0,.agg l.A)]=some l.A:=by
 kernel_rfl
theorem LnQ.ext137 (l:LnQ):l.A.extract 0 (0+1*137)=l.A:=by
 have:l.A.size=137:=l.size
 simp [this]
theorem Cn:∃ q,Tryz.prog.info? 77=some q/\q.bytes=576:=fE (by kernel_rfl)
theorem xF {xs:List QC} {k:Int} {p:PL} {day:Int} {u a b:List UInt8}:(cv xs k p day u a b).1.In:=by
 unfold cv
 split
 ·exact iS
 ·rename_i hm
  obtain ⟨-,-,-,-,hall⟩:=B7 (Decidable.not_not.1 hm)
  split
  ·exact wb
  ·cases e:iN xs k p day a b with
   | some r=>exact (kW (fY (hall a (by simp))) (fY (hall b (by simp))) e).in_
   | none =>
    simp only []
    split
    ·exact iS
    ·cases iN xs k p day a u<;>cases iN xs k p day u b<;>first | exact iS | exact pK _ _
theorem fQ {p:Nat->Bool} {n i:Nat} (h:cY p n=true) (hi:i < n):p i=true:=by
 cases e:p i with
 | true=>rfl
 | false=>rw [jm hi e] at h;cases h
theorem MT {g:Led} (h:bP g=true):(∀ x∈g.h,cB x.1=true/\1<=x.2/\x.2<=1000000000000000)/\(∀ x∈g.c,aF x.1.1=true/\-1000000000000000<=x.2/\x.2<=1000000000000000)/\(∀ x∈g.p,aF x.1.1=true/\-1000000000000000<=x.2/\x.2<=1000000000000000):=by
 unfold bP at h
 simp only [Bool.and_eq_true] at h
 obtain ⟨-,h1,h2,h3,-⟩:=h
 have key:∀ (l:List (Ky×Int)),cY (okK l) l.length=true->∀ x∈l,aF x.1.1=true/\-1000000000000000<=x.2/\x.2<=1000000000000000:=fun l hl x hx=>by
  obtain ⟨i,hi⟩:=List.getElem?_of_mem hx
  have:=fQ hl (List.getElem?_eq_some_iff.1 hi).1
  unfold okK inB at this
  rw [hi] at this
  simp only [Bool.and_eq_true,decide_eq_true_eq] at this
  exact ⟨this.1,this.2.2.2.1⟩
 refine ⟨fun x hx=>?_,key _ h2,key _ h3⟩
 obtain ⟨i,hi⟩:=List.getElem?_of_mem hx
 have:=fQ h1 (List.getElem?_eq_some_iff.1 hi).1
 unfold okH inB at this
 rw [hi] at this
 simp only [Bool.and_eq_true,decide_eq_true_eq] at this
 exact ⟨this.1,this.2.1⟩
theorem fx {v:VQ} (h:cM v=true):aF v.cur=true/\aF v.piv=true/\(0<=v.day/\v.day<=73048)/\(0<=v.known/\v.known<=2147483647)/\bP v.g=true/\cf v.qs=0/\bc v.pol=true/\jS v.nst=true/\v.acs.all cg=true/\v.g.h.length+v.g.c.length+v.g.p.length+v.acs.length<=512:=by
 unfold cM inB at h
 simp only [Bool.and_eq_true,decide_eq_true_eq] at h
 obtain ⟨⟨a1,a2,a3,a4⟩,⟨a5,a6,a7,a8⟩,⟨-,a9⟩,a10⟩:=h
 exact ⟨a1,a2,a3,a4,a5,a6,a7,a8,a9,a10⟩
theorem wL:im.In:=cD _ _
theorem Cf {v:VQ} (hc:cM v=true) (hq:∀ y∈v.qs,y.In) (hn:∀ y∈v.nst,y.In) {it:ItQ} (hi:it∈aP v):(aU v it).1.price.In/\-2000000000000000<=(aU v it).1.qty/\(aU v it).1.qty<=2000000000000000:=by
 obtain ⟨-,-,-,-,hv,-⟩:=fx hc
 obtain ⟨q1,q2,q3⟩:=MT hv
 unfold aP at hi
 simp only [List.mem_append,List.mem_map] at hi
 rcases hi with ⟨x,hx,rfl⟩ | ⟨x,hx,rfl⟩ | ⟨x,hx,rfl⟩ | ⟨x,hx,rfl⟩
 ·have:=q1 x hx
  cases e:v.nst.find? (fun n=>decide (n.ins=x.1)) with
  | some n =>
   have hm:=List.mem_of_find?_eq_some e
   simp only [aU,e]
   exact ⟨(hn n hm).price,by omega,by omega⟩
  | none =>
   simp only [aU,e]
   exact ⟨FZ fun z hz=>(q0 hq hz).1,by omega,by omega⟩
 ·have:=q2 x hx
  exact ⟨wL,by show _<=x.2;omega,by show x.2<=_;omega⟩
 ·have:=q3 x hx
  exact ⟨wL,by show _<=x.2;omega,by show x.2<=_;omega⟩
 ·have:=IE x
  exact ⟨wL,by show _<=-(jN x).1;omega,by show -(jN x).1<=_;omega⟩
theorem gA (v:VQ):(aP v).length=v.g.h.length+v.g.c.length+v.g.p.length+v.acs.length:=by
 unfold aP;simp;omega
theorem Nc {E:Env} (hE:E.P=Tryz.prog) {v:VQ} {vh vc vp vq vs vn va:Value} {A:Array Value} (hA:VA v vh vc vp vq vs vn va A) (I:VIn E v vh vc vp vq vs vn va) {it:ItQ} (hi:it∈aP v):∃ t u g r,itV it=.iface t u/\EY Tryz.prog t u "fundadmin/valuation.line" g r/\OwnC E g [SV.c r,SV.c (.agg A)] [] (fun r U=>r=jj v it/\U=[]):=by
 unfold aP at hi
 simp only [List.mem_append,List.mem_map] at hi
 rcases hi with ⟨x,hx,rfl⟩ | ⟨x,hx,rfl⟩ | ⟨x,hx,rfl⟩ | ⟨x,hx,rfl⟩
 ·exact ⟨_,_,_,_,rfl,Na _,Nd hE hA I x⟩
 ·exact ⟨_,_,_,_,rfl,GV _,G9 hE hA x 2⟩
 ·exact ⟨_,_,_,_,rfl,GV _,G9 hE hA x 3⟩
 ·exact ⟨_,_,_,_,rfl,Nb _,Nf hE hA (I.ain x hx)⟩
theorem MV (j:Nat):aO 0 ((j:Nat):Int) (tV .nilIface).size=j:=by
 show aO 0 ((j:Nat):Int) 1=j
 simp [aO]
theorem xm (s:ShQ) {x:Value} (h:x.oneCell'=true):Fits (s.A x) 5:=⟨rfl,by simp [ShQ.A,h];exact ⟨rfl,rfl,rfl,rfl⟩⟩
theorem Bt {E:Env} (hE:E.P=Tryz.prog) {v:VQ} {vh vc vp vq vs vn va:Value} {A:Array Value} (hA:VA v vh vc vp vq vs vn va A) (I:VIn E v vh vc vp vq vs vn va):OwnC E 11 [SV.c (.agg A)] [] (EX (aZ v)):=by
 refine aD [9] ai ak NR E hE [SV.c (.agg A)] [] _ rfl rfl fun w X β hT=>?_
 have J:=I.of_old hT
 have hE2:(aY Tryz.prog tt Tryz.f11.ntmps w X (aJ [] β) [9]).toEnv.P=Tryz.prog:=rfl
 have K1:=KZ hE2 hA J
 have IT:=fun hl=>Kf hE2 hA J hl
 have LI:=fun it hi=>Nc hE2 hA J (it:=it) hi
 have RT:=fun a=>NX hE2 J.q v.known v.day (u:=v.piv) (a:=a) (b:=v.cur)
 obtain ⟨hs,g0,g1,g2,g3,g4,g5,g6,g7,gp,gl,g76,g77⟩:=hA
 have FSh:=HQ v.cur v.day v.known rfl
 have zsh:dJ.A (.slice none 0 0)=w9.zero:=rfl
 have zf:Fits w9.zero 5:=zsh ▸ xm dJ rfl
 have ret:∀ e,aZ v=(dJ,e)->EX (aZ v) (cW [.agg w9.zero,.int .i64 e]) [(9800,Blk.own (.slice none 0 0) 77 137 0 #[])]:=fun e h=>by
  rw [h]
  exact ⟨.slice none 0 0,.nil,rfl,rfl⟩
 refine ⟨hs,.inr (.inr (.inl ⟨[],[_],[],_,[],K1,rfl,trivial,rfl,rfl,fun c=>?_,fun c=>?_⟩))⟩
 ·have c:((if cM v then (0:Int) else 201) != 0)=true:=c
  have hc:cM v=false:=by cases e:cM v<;>simp [e] at c ⊢
  rw [hc]
  refine ⟨_,rfl,zf,?_⟩
  exact ⟨[(9800,Blk.own (.slice none 0 0) 77 137 0 #[])],[],ret 201 (Fq hc),⟨.inr ⟨rfl,rfl,rfl⟩,trivial⟩,rfl⟩
 have c:((if cM v then (0:Int) else 201) != 0)=false:=c
 have hc:cM v=true:=by cases e:cM v<;>simp [e] at c ⊢
 obtain ⟨-,-,-,-,-,-,-,-,-,htot⟩:=fx hc
 have SF:∀ (y:Value) (n:Int),y.oneCell'=true->Fits #[.string (S v.cur),.int .i64 v.day,.int .i64 v.known,y,.int .i64 n] 5:=fun y n h=>xm ⟨v.cur,v.day,v.known,[],n⟩ h
 refine ⟨_,g0,_,g2,_,g3,_,FSh,SF _ _ rfl,?_⟩
 have IT:=IT htot
 have hlen:(aP v).length<=512:=by rw [gA];exact htot
 refine .inr (.inr (.inr ⟨[],[9900],[_],[],_,IT,rfl,trivial,rfl,trivial,?_⟩))
 rintro r U ⟨xI,hxI,rfl,rfl⟩
 obtain ⟨ia,ic,rfl⟩:=hxI.len
 refine ⟨rfl,_,fun w' _=>ao Tryz.underlying94 w',?_⟩
 generalize hIL:aP v=IL at LI hxI hlen ⊢
 refine ⟨fun q f m=>∃ (i:Nat) (y:Value) (ls:List LnQ),q=IL.length - i/\i<=IL.length/\bz v (IL.take i)=.ok ls/\IsL y i/\ls.length=i/\f=[(1,SV.ptr 1 0),(2,SV.ptr 2 0),(5,SV.ptr 5 0),(25,SV.c (.slice ia IL.length ic)),(26,SV.c (.int .i64 (IL.length:Nat))),(27,SV.c (.int .i64 (i:Nat)))]/\m=[(1,Blk.row 39 78 A),(2,Blk.row 42 5 w9.zero),(5,Blk.row 42 5 #[.string (S v.cur),.int .i64 v.day,.int .i64 v.known,y,.int .i64 (ba ls)]),(9900,Blk.own (.slice ia IL.length ic) 97 1 IL.length (cat itA IL)),(9800,Blk.own y 77 137 i (cat LnQ.A ls))],IL.length,⟨_,_,⟨0,.slice none 0 0,[],rfl,by omega,rfl,.nil,rfl,rfl,rfl⟩,⟨rfl,rfl,rfl,rfl,rfl,rfl,trivial⟩,⟨rfl,rfl,rfl,.inl rfl,.inr ⟨rfl,rfl,rfl⟩,trivial⟩,rfl⟩,?_⟩
 rintro q f m ⟨i,y,ls,rfl,hi,hrun,hy,hls,rfl,rfl⟩
 refine ⟨fun h=>?_,fun h=>?_⟩
 ·have h:i < IL.length:=by have:=af h;omega
  obtain ⟨it,hit⟩:∃ z,IL[i]? = some z:=⟨_,List.getElem?_eq_getElem h⟩
  have him:=List.mem_of_getElem? hit
  obtain ⟨t,u,g,r,eit,hm,hL⟩:=LI it him
  have C0:(cat itA IL)[aO 0 ((i:Nat):Int) (tV .nilIface).size]? = some (.iface t u):=by
   rw [MV,<- eit]
   have:=dV Hg IL i it 0 hit (by omega)
   simpa [itA] using this
  have hsI:∃ gI,ia=some ⟨gI,0,none⟩:=by
   rcases hxI with ⟨e1,e2⟩ | ⟨gI,cI,e1⟩
   ·have e2:IL.length=0:=e2
    omega
   ·cases e1;exact ⟨gI,rfl⟩
  obtain ⟨gI,rfl⟩:=hsI
  refine ⟨by omega,by omega,.inr ⟨9900,gI,_,IL.length,_,_,_,_,rfl,rfl,_,C0,?_⟩⟩
  obtain ⟨l,fr,e,hLQ⟩:∃ l fr e,aU v it=(l,fr,e):=⟨_,_,_,rfl⟩
  have hin:=Cf hc J.q.inn J.nin (it:=it) (by rw [hIL];exact him)
  rw [hLQ] at hin
  obtain ⟨hpin,hq1,hq2⟩:=hin
  have hpin:l.price.In:=hpin
  have hq1 : -2000000000000000<=l.qty:=hq1
  have hq2:l.qty<=2000000000000000:=hq2
  have hLR:jj v it=.tuple #[.agg l.A,.string (S fr),.int .i64 e]:=by unfold jj;rw [hLQ]
  rw [hLR] at hL
  have LF:=l.fits
  have QR:=l.setrate
  have QA:=fun (x:RQ)=>({ l with rate:=x }:LnQ).setamt
  have LG:=fun (x:RQ) (n:Int)=>({ l with rate:=x,amt:=n }:LnQ).fits
  have G3:=fun (x:RQ)=>({ l with rate:=x }:LnQ).g3
  have GP:=fun (x:RQ)=>({ l with rate:=x }:LnQ).gprice
  have GR:=fun (x:RQ)=>({ l with rate:=x }:LnQ).grate
  generalize hLA:l.A=LA at *
  refine ⟨fun f m=>f=[(1,SV.ptr 1 0),(2,SV.ptr 2 0),(5,SV.ptr 5 0),(25,SV.c (.slice (some ⟨gI,0,none⟩) IL.length ic)),(26,SV.c (.int .i64 (IL.length:Nat))),(27,SV.c (.int .i64 (i:Nat))),(8,SV.ptr 8 0),(9,SV.c (.string (S fr))),(10,SV.c (.int .i64 e))]/\m=[(1,Blk.row 39 78 A),(2,Blk.row 42 5 w9.zero),(5,Blk.row 42 5 #[.string (S v.cur),.int .i64 v.day,.int .i64 v.known,y,.int .i64 (ba ls)]),(9900,Blk.own (.slice (some ⟨gI,0,none⟩) IL.length ic) 97 1 IL.length (cat itA IL)),(9800,Blk.own y 77 137 i (cat LnQ.A ls)),(8,Blk.row 77 137 LA)],?_,?_⟩
  ·refine wt rfl rfl rfl hm (.inl ⟨[],[_,_],[],_,[],hL,rfl,trivial,rfl,rfl,?_⟩)
   exact ⟨LF,_,_,⟨rfl,rfl⟩,⟨rfl,rfl,rfl,rfl,rfl,rfl,rfl,rfl,rfl,trivial⟩,⟨rfl,rfl,rfl,.inl rfl,.inl rfl,rfl,trivial⟩,rfl⟩
  rintro f1 m1 ⟨rfl,rfl⟩
  refine ⟨fun c=>?_,fun c=>?_⟩
  ·have c:(e != 0)=true:=c
   refine ⟨_,rfl,zf,?_⟩
   exact ⟨[(9800,Blk.own (.slice none 0 0) 77 137 0 #[])],[(9800,9801)],ret e (r0 hc (by rw [hIL];exact qz hit hrun (Jv hLQ (by simpa using c)))),⟨.inr ⟨rfl,rfl,rfl⟩,trivial⟩,rfl⟩
  have c:(e != 0)=false:=c
  have e0:e=0:=by simpa using c
  subst e0
  have RT:=RT fr
  obtain ⟨R,e2,hR⟩:∃ R e2,cv v.qs v.known v.pol v.day v.piv fr v.cur=(R,e2):=⟨_,_,rfl⟩
  have hRin:R.In:=by have:=xF (xs:=v.qs) (k:=v.known) (p:=v.pol) (day:=v.day) (u:=v.piv) (a:=fr) (b:=v.cur);rw [hR] at this;exact this
  rw [hR] at RT
  have QR:=QR R
  have QA:=QA R
  have LG:=LG R
  have G3:=G3 R
  have GP:=GP R
  have GR:=GR R
  have RF:=R.A_fits
  generalize hLB:LnQ.A { l with rate:=R }=LB at *
  obtain ⟨n,e3,hN⟩:∃ n e3,eL l.qty l.price R=(n,e3):=⟨_,_,rfl⟩
  have AM:=tL (n:=l.qty) (by omega) hpin hRin
  rw [hN] at AM
  clear hL LI K1
  generalize v.pol.A vs=PA at *
  refine ⟨_,g7,by decide,_,gl,_,g3,_,g1,_,g0,_,g2,?_⟩
  refine .inr (.inr (.inl ⟨[],[_,_,_,_,_,_,_],[],_,[],RT,rfl,trivial,rfl,rfl,?_⟩))
  refine ⟨by decide,RF,LB,QR,fun c2=>?_,fun c2=>?_⟩
  ·have c2:(e2 != 0)=true:=c2
   refine ⟨_,rfl,zf,?_⟩
   exact ⟨[(9800,Blk.own (.slice none 0 0) 77 137 0 #[])],[(9800,9801)],ret e2 (r0 hc (by rw [hIL];exact qz hit hrun (Ju hLQ hR (by simpa using c2)))),⟨.inr ⟨rfl,rfl,rfl⟩,trivial⟩,rfl⟩
  have c2:(e2 != 0)=false:=c2
  have e0:e2=0:=by simpa using c2
  subst e0
  have LG:=LG n
  have QA:=QA n
  generalize hLC:LnQ.A { l with rate:=R,amt:=n }=LC at *
  refine ⟨_,G3,by decide,_,GP,by decide,_,GR,.inl ⟨_,AM,?_⟩⟩
  refine ⟨by decide,rfl,LC,QA,fun c3=>?_,fun c3=>?_⟩
  ·have c3:(e3 != 0)=true:=c3
   refine ⟨_,rfl,zf,?_⟩
   exact ⟨[(9800,Blk.own (.slice none 0 0) 77 137 0 #[])],[(9800,9801)],ret e3 (r0 hc (by rw [hIL];exact qz hit hrun (Jt hLQ hR hN (by simpa using c3)))),⟨.inr ⟨rfl,rfl,rfl⟩,trivial⟩,rfl⟩
  have c3:(e3 != 0)=false:=c3
  have e0:e3=0:=by simpa using c3
  subst e0
  have hst:=Js hLQ hR hN
  have hrun2:=Dt hit hrun hst
  have FL:=AJ { l with rate:=R,amt:=n }
  have XL:=LnQ.ext137 { l with rate:=R,amt:=n }
  have OL:=LnQ.one { l with rate:=R,amt:=n }
  have GA:=LnQ.g136 { l with rate:=R,amt:=n }
  have SL:=fg (g:=LnQ.A) ls { l with rate:=R,amt:=n }
  rw [hLC] at FL XL OL GA SL
  obtain ⟨qi,hqi,hbi⟩:=Cn
  obtain ⟨ya,yc,rfl⟩:=hy.len
  have hsz:LC.size=1*137:=LG.size
  have hbd:=vH (ls++[{ l with rate:=R,amt:=n }]) (fun z hz=>(eX hrun2).2 z hz)
  rw [List.length_append,hls] at hbd
  have hts:=uj ls { l with rate:=R,amt:=n }
  have hw:IntKind.i64.wrap (ba ls+n)=ba (ls++[{ l with rate:=R,amt:=n }]):=by
   rw [hts]
   refine i64_in ?_
   rw [hts] at hbd
   have e1:((i + [({ l with rate:=R,amt:=n }:LnQ)].length:Nat):Int)=(i:Int)+1:=by simp
   rw [e1] at hbd
   show _<=ba ls+n/\_
   have hbd : -(1000000000000000*((i:Int)+1))<=ba ls+n/\ba ls+n<=1000000000000000*((i:Int)+1):=hbd
   omega
  refine ⟨_,rfl,.inl ⟨by decide,by decide,_,FL,hsz,by decide,9800,i,_,.inl rfl,by decide,OL,hsz,_,XL,?_⟩⟩
  refine ⟨by omega,by unfold maxLen;omega,⟨qi,hqi,by rw [hbi];omega⟩,trivial,fun g2 cap2=>?_⟩
  refine ⟨by decide,rfl,#[.string (S v.cur),.int .i64 v.day,.int .i64 v.known,.slice (some ⟨g2,0,none⟩) (i+1) cap2,.int .i64 (ba ls)],rfl,?_⟩
  refine ⟨_,rfl,_,GA,by decide,rfl,#[.string (S v.cur),.int .i64 v.day,.int .i64 v.known,.slice (some ⟨g2,0,none⟩) (i+1) cap2,.int .i64 (IntKind.i64.wrap (ba ls+n))],rfl,?_⟩
  exact ⟨IL.length - (i+1),_,[(1,Blk.row 39 78 A),(2,Blk.row 42 5 w9.zero),(5,Blk.row 42 5 #[.string (S v.cur),.int .i64 v.day,.int .i64 v.known,.slice (some ⟨g2,0,none⟩) (i+1) cap2,.int .i64 (ba (ls++[{ l with rate:=R,amt:=n }]))]),(9900,Blk.own (.slice (some ⟨gI,0,none⟩) IL.length ic) 97 1 IL.length (cat itA IL)),(9800,Blk.own (.slice (some ⟨g2,0,none⟩) (i+1) cap2) 77 137 (i+1) (cat LnQ.A (ls++[{ l with rate:=R,amt:=n }])))],by omega,⟨i+1,_,_,rfl,by omega,hrun2,.some,by simp [hls],rfl,rfl⟩,⟨rfl,rfl,rfl,rfl,rfl,ar (ax (by omega)),trivial⟩,⟨rfl,rfl,congrArg (fun z=>some (Blk.row 42 5 #[.string (S v.cur),.int .i64 v.day,.int .i64 v.known,.slice (some ⟨g2,0,none⟩) (i+1) cap2,.int .i64 z])) hw,.inl rfl,.inl (bC SL),trivial⟩,rfl⟩
 ·have h:i=IL.length:=by have:=ag h;omega
  subst h
  rw [List.take_length,<- hIL] at hrun
  obtain ⟨ya,yc,rfl⟩:=hy.len
  have W1:=eO (ba ls) (-1000000000000000) 1000000000000000
  refine ⟨_,rfl,.inl ⟨_,W1,fun c=>?_,fun c=>?_⟩⟩
  ·have c:=bu c
   refine ⟨_,rfl,zf,?_⟩
   exact ⟨[(9800,Blk.own (.slice none 0 0) 77 137 0 #[])],[(9800,9801)],ret 33 (Fp hc hrun c),⟨.inr ⟨rfl,rfl,rfl⟩,trivial⟩,rfl⟩
  ·have c:=bw c
   refine ⟨SF _ _ rfl,?_⟩
   refine ⟨[(9800,Blk.own (.slice ya IL.length yc) 77 137 IL.length (cat LnQ.A ls))],[],?_,⟨.inl rfl,trivial⟩,rfl⟩
   rw [Je hc hrun c]
   have hy':IsL (.slice ya IL.length yc) ls.length:=by rw [hls];exact hy
   exact ⟨_,hy',rfl,by show _=[(9800,Blk.own _ _ 137 ls.length _)];rw [hls]⟩
abbrev shM (v:VQ) (y:Value) (ls:List LnQ):aA:=[(9700,Blk.row 42 5 #[.string (S v.cur),.int .i64 v.day,.int .i64 v.known,y,.int .i64 (ba ls)]),(9800,Blk.own y 77 137 ls.length (cat LnQ.A ls))]
def RefS (v:VQ) (R:Except Int (List LnQ)) (r:Value) (U:aA):Prop:=∃ (y:Value) (ls:List LnQ),IsL y ls.length/\U=shM v y ls/\match R with
 | .error e=>r=.int .i64 e/\e≠0
 | .ok l2=>r=.int .i64 0/\ls=l2
structure LsOk (ls:List LnQ):Prop where
 n:ls.length<=511
 b:∀ x∈ls,-1000000000000000<=x.amt/\x.amt<=1000000000000000
def Pc (v:VQ) (ls:List LnQ) (its:List ItQ):Except Int (List LnQ):=match bz v its with
 | .error e=>.error e
 | .ok z=>.ok (ls++z)
theorem Gf {v:VQ} {l:List ItQ} {z:List LnQ} (h:bz v l=.ok z):z.length=l.length:=(eX h).1
structure LsR (ls:List LnQ) (k:Nat):Prop where
 n:ls.length+k<=512
 b:∀ x∈ls,-1000000000000000<=x.amt/\x.amt<=1000000000000000
theorem LsR.ok {v:VQ} {ls z:List LnQ} {l:List ItQ} {i:Nat} (h:LsR ls l.length) (hr:bz v (l.take i)=.ok z) (hi:i < l.length):LsOk (ls++z):=by
 have h1:=Gf hr
 rw [List.length_take] at h1
 have:=h.n
 refine ⟨by rw [List.length_append];omega,fun x hx=>?_⟩
 rcases List.mem_append.1 hx with hx | hx
 ·exact h.b x hx
 ·exact (eX hr).2 x hx
def St (v:VQ) (P:List ItQ) (e:Int) (ls:List LnQ):Prop:=match bz v P with
 | .error e'=>e=e'/\e'≠0
 | .ok z=>e=0/\ls=z
def NY (R:Except Int (List LnQ)) (e:Int) (l2:List LnQ):Prop:=match R with
 | .error e'=>Value.int .i64 e=.int .i64 e'/\e'≠0
 | .ok z=>Value.int .i64 e=.int .i64 0/\l2=z
theorem St.of {v:VQ} {ls l2:List LnQ} {P Q:List ItQ} {e:Int} (h:bz v P=.ok ls) (hr:NY (Pc v ls Q) e l2):St v (P++Q) e l2:=by
 unfold St
 rw [iw,h]
 unfold NY Pc at hr
 cases hq:bz v Q with
 | error e' =>
  rw [hq] at hr
  obtain ⟨h1,h2⟩:=hr
  simp only [Value.int.injEq,true_and] at h1
  exact ⟨h1,h2⟩
 | ok z =>
  rw [hq] at hr
  obtain ⟨h1,h2⟩:=hr
  simp only [Value.int.injEq,true_and] at h1
  exact ⟨h1,h2⟩
theorem St.ok {v:VQ} {ls:List LnQ} {P:List ItQ} (h:St v P 0 ls):bz v P=.ok ls:=by
 unfold St at h
 cases hp:bz v P with
 | error e'=>rw [hp] at h;exact absurd h.1.symm h.2
 | ok z=>rw [hp] at h;rw [h.2]
theorem St.bad {v:VQ} {ls:List LnQ} {P:List ItQ} {e:Int} (h:St v P e ls) (he:e≠0):bz v P=.error e:=by
 unfold St at h
 cases hp:bz v P with
 | error e'=>rw [hp] at h;rw [h.1]
 | ok z=>rw [hp] at h;exact absurd h.1 he
theorem RefS.int {v:VQ} {R:Except Int (List LnQ)} {r:Value} {U:aA} (h:RefS v R r U):∃ (e:Int) (y:Value) (ls:List LnQ),r=.int .i64 e/\IsL y ls.length/\U=shM v y ls/\NY R e ls:=by
 obtain ⟨y,ls,h1,h2,h3⟩:=h
 cases R with
 | error e'=>exact ⟨e',y,ls,h3.1,h1,h2,rfl,h3.2⟩
 | ok z=>exact ⟨0,y,ls,h3.1,h1,h2,rfl,h3.2⟩
end Go.Proofs.YtklehfchdoikeaaGreatDoor
