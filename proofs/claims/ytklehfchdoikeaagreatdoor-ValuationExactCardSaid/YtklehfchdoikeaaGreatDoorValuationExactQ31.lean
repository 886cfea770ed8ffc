/- chapter 20: plain words. chapter 20: small walks. chapter 20; no condition. -/
import Derived.Test.YtklehfchdoikeaaGreatDoorValuationExactQ28
import Derived.Test.YtklehfchdoikeaaGreatDoorValuationExactQ30
set_option maxRecDepth 100000
set_option maxHeartbeats 4000000
namespace Go.Proofs.YtklehfchdoikeaaGreatDoor
open Go Go.RowKit Go.SX
/-! ### fees that accrue -/
structure AcQ where
 nm:Bs
 rate:RQ
 basis:Int
 exact:RQ
 paid:Int
 til:Int
def AcQ.A (a:AcQ):Array Value:=#[.string (S a.nm)]++(a.rate.A++(#[.int .i64 a.basis]++(a.exact.A++#[.int .i64 a.paid,.int .i64 a.til])))
structure AcQ.In (a:AcQ):Prop where
 nm:a.nm.length<=9223372036854775807
 rate:a.rate.In
 basis : -9223372036854775808<=a.basis/\a.basis<=9223372036854775807
 exact:a.exact.In
 paid : -9223372036854775808<=a.paid/\a.paid<=9223372036854775807
 til : -9223372036854775808<=a.til/\a.til<=9223372036854775807
theorem AcQ.size (a:AcQ):a.A.size=136:=by simp [AcQ.A,RQ.A_size]
theorem AcQ.fits (a:AcQ):Fits a.A 136:=⟨a.size,by
 rw [AcQ.A,Array.all_append,Array.all_append,Array.all_append,Array.all_append,a.rate.A_fits.one,a.exact.A_fits.one]
 simp [Value.oneCell']⟩
theorem AcQ.one (a:AcQ):a.A.all (·.oneCell')=true:=a.fits.one
theorem AcQ.g0 (a:AcQ):a.A[0]? = some (.string (S a.nm)):=by kernel_rfl
theorem AcQ.g67 (a:AcQ):a.A[67]? = some (.int .i64 a.basis):=by kernel_rfl
theorem AcQ.g134 (a:AcQ):a.A[134]? = some (.int .i64 a.paid):=by kernel_rfl
theorem AcQ.g135 (a:AcQ):a.A[135]? = some (.int .i64 a.til):=by kernel_rfl
theorem AcQ.grate (a:AcQ):a.A.extract 1 (1+66)=a.rate.A:=by kernel_rfl
theorem AcQ.gexact (a:AcQ):a.A.extract 68 (68+66)=a.exact.A:=by kernel_rfl
def iL (nm:Bs) (rate:RQ) (basis:Int):Bool:=bS nm && (gw rate && (cZ rate 0 1 && inB basis 1 4))
def dZ (a:AcQ):Int:=(kS (gS a.exact 0 6)).1
def bG (a:AcQ):Bool:=iL a.nm a.rate a.basis && (cZ a.exact 0 1000000000000000 && (decide (0<=a.paid) && (decide (a.paid<=dZ a) && inB a.til 0 73048)))
def eJ (a:AcQ):Int×Int:=if bG a then (dZ a - a.paid,0) else (0,190)
/-! ### given prices -/
structure NeQ where
 ins:Bs
 cur:Bs
 price:RQ
def NeQ.A (n:NeQ):Array Value:=#[.string (S n.ins),.string (S n.cur)]++n.price.A
structure NeQ.In (n:NeQ):Prop where
 ins:n.ins.length<=9223372036854775807
 cur:n.cur.length<=9223372036854775807
 price:n.price.In
theorem NeQ.size (n:NeQ):n.A.size=68:=by simp [NeQ.A,RQ.A_size]
theorem NeQ.fits (n:NeQ):Fits n.A 68:=⟨n.size,by
 rw [NeQ.A,Array.all_append,n.price.A_fits.one]
 simp [Value.oneCell']⟩
theorem NeQ.one (n:NeQ):n.A.all (·.oneCell')=true:=n.fits.one
theorem NeQ.g0 (n:NeQ):n.A[0]? = some (.string (S n.ins)):=by kernel_rfl
theorem NeQ.g1 (n:NeQ):n.A[1]? = some (.string (S n.cur)):=by kernel_rfl
theorem NeQ.gprice (n:NeQ):n.A.extract 2 (2+66)=n.price.A:=by kernel_rfl
def qt (l:List NeQ) (i:Nat):Bool:=match l[i]? with
 | some n=>(cZ n.price (-1000000000) 1000000000 && (bM n.ins && aD n.cur)) && !((l.take i).any fun m=>decide (m.ins=n.ins))
 | none=>true
def fw (l:List NeQ):Bool:=df (qt l) l.length && decide (l.length<=8)
/-! ### lines -/
structure LnQ where
 kind:Int
 nm:Bs
 day:Int
 qty:Int
 price:RQ
 rate:RQ
 amt:Int
def LnQ.A (a:LnQ):Array Value:=#[.int .i64 a.kind,.string (S a.nm),.int .i64 a.day,.int .i64 a.qty]++(a.price.A++(a.rate.A++#[.int .i64 a.amt]))
structure LnQ.In (a:LnQ):Prop where
 nm:a.nm.length<=9223372036854775807
 kind : -9223372036854775808<=a.kind/\a.kind<=9223372036854775807
 day : -9223372036854775808<=a.day/\a.day<=9223372036854775807
 qty : -9223372036854775808<=a.qty/\a.qty<=9223372036854775807
 amt : -9223372036854775808<=a.amt/\a.amt<=9223372036854775807
 price:a.price.In
 rate:a.rate.In
theorem LnQ.size (a:LnQ):a.A.size=137:=by simp [LnQ.A,RQ.A_size]
theorem LnQ.fits (a:LnQ):Fits a.A 137:=⟨a.size,by
 rw [LnQ.A,Array.all_append,Array.all_append,Array.all_append,a.price.A_fits.one,a.rate.A_fits.one]
 simp [Value.oneCell']⟩
theorem LnQ.one (a:LnQ):a.A.all (·.oneCell')=true:=a.fits.one
theorem LnQ.g0 (a:LnQ):a.A[0]? = some (.int .i64 a.kind):=by kernel_rfl
theorem LnQ.g1 (a:LnQ):a.A[1]? = some (.string (S a.nm)):=by kernel_rfl
theorem LnQ.g2 (a:LnQ):a.A[2]? = some (.int .i64 a.day):=by kernel_rfl
theorem LnQ.g3 (a:LnQ):a.A[3]? = some (.int .i64 a.qty):=by kernel_rfl
theorem LnQ.g136 (a:LnQ):a.A[136]? = some (.int .i64 a.amt):=by kernel_rfl
theorem LnQ.gprice (a:LnQ):a.A.extract 4 (4+66)=a.price.A:=by kernel_rfl
theorem LnQ.grate (a:LnQ):a.A.extract 70 (70+66)=a.rate.A:=by kernel_rfl
def dq (n:Int) (p r:RQ):Int×Int:=if n < -1000000000000000\/n > 1000000000000000 then (0,33) else if p.ok && r.ok then (if (mkQ (p.p*r.p*n) (p.q*r.q)).2≠0 then (0,(mkQ (p.p*r.p*n) (p.q*r.q)).2) else kS (gS (mkQ (p.p*r.p*n) (p.q*r.q)).1 2 6)) else (0,20)
/-! ### valuations -/
structure VQ where
 cur:Bs
 piv:Bs
 day:Int
 known:Int
 g:Led
 qs:List QC
 pol:PL
 nst:List NeQ
 acs:List AcQ
def VQ.A (v:VQ) (vh vc vp vq vs vn va:Value):Array Value:=#[.string (S v.cur),.string (S v.piv),.int .i64 v.day,.int .i64 v.known,vh,vc,vp,vq]++(v.pol.A vs++#[vn,va])
def cY (v:VQ):Bool:=(aD v.cur && (aD v.piv && (inB v.day 0 73048 && inB v.known 0 2147483647))) && ((bR v.g && (decide (bF v.qs=0) && (aP v.pol && fw v.nst))) && ((decide (v.acs.length<=16) && v.acs.all bG) && decide (v.g.h.length+v.g.c.length+v.g.p.length+v.acs.length<=512)))
inductive ItQ where
 | h (x:Bs×Int)
 | b (x:Ky×Int) (k:Int)
 | f (a:AcQ)
def bx (v:VQ):List ItQ:=v.g.h.map .h++(v.g.c.map (.b · 2)++(v.g.p.map (.b · 3)++v.acs.map .f))
def ck:RQ:=(mkQ 1 100).1
def aY (v:VQ):ItQ->LnQ×Bs×Int
 | .h x=>match v.nst.find? (fun n=>decide (n.ins=x.1)) with
  | some n=>(⟨1,x.1,v.day,x.2,n.price,aN,0⟩,n.cur,0)
  | none=>(⟨1,x.1,(cB (aZ v.qs v.known v.pol x.1 v.day) v.pol.tol).day,x.2,(cB (aZ v.qs v.known v.pol x.1 v.day) v.pol.tol).price,aN,0⟩,(cB (aZ v.qs v.known v.pol x.1 v.day) v.pol.tol).cur,iV v.qs v.known v.pol x.1 v.day)
 | .b x k=>(⟨k,x.1.1,if k=3 then x.1.2 else v.day,x.2,ck,aN,0⟩,x.1.1,0)
 | .f a=>(⟨4,a.nm,a.til,-(eJ a).1,ck,aN,0⟩,v.cur,(eJ a).2)
def dY (v:VQ) (i:ItQ):Except Int LnQ :=
 if (aY v i).2.2≠0 then .error (aY v i).2.2 else
 if (bY v.qs v.known v.pol v.day v.piv (aY v i).2.1 v.cur).2≠0 then .error (bY v.qs v.known v.pol v.day v.piv (aY v i).2.1 v.cur).2 else
 if (dq (aY v i).1.qty (aY v i).1.price (bY v.qs v.known v.pol v.day v.piv (aY v i).2.1 v.cur).1).2≠0 then .error (dq (aY v i).1.qty (aY v i).1.price (bY v.qs v.known v.pol v.day v.piv (aY v i).2.1 v.cur).1).2 else
 .ok { (aY v i).1 with rate:=(bY v.qs v.known v.pol v.day v.piv (aY v i).2.1 v.cur).1,amt:=(dq (aY v i).1.qty (aY v i).1.price (bY v.qs v.known v.pol v.day v.piv (aY v i).2.1 v.cur).1).1 }
def cj (v:VQ):List ItQ->Except Int (List LnQ)
 | []=>.ok []
 | i :: r=>match dY v i with
  | .error e=>.error e
  | .ok l=>match cj v r with
   | .error e=>.error e
   | .ok ls=>.ok (l :: ls)
def bk (l:List LnQ):Int:=(l.map LnQ.amt).sum
structure ShQ where
 cur:Bs
 day:Int
 known:Int
 lines:List LnQ
 total:Int
def ShQ.A (s:ShQ) (x:Value):Array Value:=#[.string (S s.cur),.int .i64 s.day,.int .i64 s.known,x,.int .i64 s.total]
def dk:ShQ:=⟨[],0,0,[],0⟩
def dy (v:VQ):ShQ×Int:=if cY v then (match cj v (bx v) with
 | .error e=>(dk,e)
 | .ok ls=>if bk ls < -1000000000000000\/bk ls > 1000000000000000 then (dk,33) else (⟨v.cur,v.day,v.known,ls,bk ls⟩,0)) else (dk,201)
def o6 (l:LnQ):Bool:=decide (dq l.qty l.price l.rate=(l.amt,0)) && (inB l.kind 1 4 && inB l.day 0 73048)
def lj (s:ShQ):Int:=if (aD s.cur && (inB s.day 0 73048 && (inB s.known 0 2147483647 && decide (s.lines.length<=512)))) && (s.lines.all o6 && (decide (bk s.lines=s.total) && inB s.total (-1000000000000000) 1000000000000000)) then 0 else 200
/-! ### plain laws -/
theorem go (v:VQ):∀ (a b:List ItQ),cj v (a++b)=match cj v a with
    | .error e=>.error e
    | .ok x=>match cj v b with
     | .error e=>.error e
     | .ok y=>.ok (x++y)
 | [],b=>by
  show cj v b=match cj v b with | .error e=>.error e | .ok y=>.ok ([]++y)
  cases cj v b<;>rfl
 | i :: a,b=>by
  rw [List.cons_append,cj,cj]
  cases dY v i with
  | error e=>rfl
  | ok l =>
   simp only
   rw [go v a b]
   cases cj v a with
   | error e=>rfl
   | ok x =>
    simp only
    cases cj v b<;>rfl
theorem Bl {v:VQ} {l:List ItQ} {i:ItQ} {x:List LnQ} (h:cj v l=.ok x):cj v (l++[i])=match dY v i with
    | .error e=>.error e
    | .ok y=>.ok (x++[y]):=by
 rw [go,h,cj,cj]
 cases dY v i<;>rfl
theorem DG {v:VQ} {l r:List ItQ} {i:ItQ} {x:List LnQ} {e:Int} (h:cj v l=.ok x) (h2:dY v i=.error e):cj v (l++i :: r)=.error e:=by
 rw [go,h,cj,h2]
theorem po (x:Int×Int) : -1000000000000000<=(kS x).1/\(kS x).1<=1000000000000000:=by
 unfold kS
 split
 ·simp
 ·split
  ·simp
  ·simp only;omega
theorem nD (n:Int) (p r:RQ) : -1000000000000000<=(dq n p r).1/\(dq n p r).1<=1000000000000000:=by
 unfold dq
 split
 ·simp
 ·split
  ·split
   ·simp
   ·exact po _
  ·simp
theorem nL (l:List LnQ) (x:LnQ):bk (l++[x])=bk l+x.amt:=by unfold bk;simp
theorem pc:∀ (l:List LnQ),(∀ x∈l,-1000000000000000<=x.amt/\x.amt<=1000000000000000)->-(1000000000000000*(l.length:Int))<=bk l/\bk l<=1000000000000000*(l.length:Int)
 | [],_=>by simp [bk]
 | x :: l,h=>by
  have h1:=h x (by simp)
  have h2:=pc l fun y hy=>h y (by simp [hy])
  have:bk (x :: l)=x.amt+bk l:=by simp [bk]
  rw [this,List.length_cons]
  omega
theorem rY {v:VQ} {i:ItQ} {l:LnQ} (h:dY v i=.ok l):(aY v i).2.2=0/\(bY v.qs v.known v.pol v.day v.piv (aY v i).2.1 v.cur).2=0/\dq l.qty l.price l.rate=(l.amt,0)/\l={ (aY v i).1 with rate:=(bY v.qs v.known v.pol v.day v.piv (aY v i).2.1 v.cur).1,amt:=l.amt }:=by
 unfold dY at h
 split at h
 ·cases h
 rename_i h1
 split at h
 ·cases h
 rename_i h2
 split at h
 ·cases h
 rename_i h3
 cases h
 refine ⟨Decidable.not_not.1 h1,Decidable.not_not.1 h2,?_,rfl⟩
 exact Prod.ext rfl (Decidable.not_not.1 h3)
theorem jj {v:VQ}:∀ {l:List ItQ} {x:List LnQ},cj v l=.ok x->x.length=l.length/\∀ y∈x,-1000000000000000<=y.amt/\y.amt<=1000000000000000
 | [],x,h=>by cases h;simp
 | i :: l,x,h=>by
  rw [cj] at h
  cases e:dY v i with
  | error e'=>rw [e] at h;cases h
  | ok y =>
   rw [e] at h
   simp only at h
   cases e2:cj v l with
   | error e'=>rw [e2] at h;cases h
   | ok z =>
    rw [e2] at h
    simp only [Except.ok.injEq] at h
    subst h
    obtain ⟨h1,h2⟩:=jj e2
    obtain ⟨-,-,h3,-⟩:=rY e
    refine ⟨by simp [h1],fun w hw=>?_⟩
    rcases List.mem_cons.1 hw with rfl | hw
    ·have:=nD w.qty w.price w.rate
     rw [h3] at this
     exact this
    ·exact h2 w hw
theorem rb (l:List UInt8) (lo hi:Int) (dg:Bool) (hl:l.length<=9223372036854775807):aw Tryz.prog 108 [SV.c (.string (S l)),SV.c (.int .i64 lo),SV.c (.int .i64 hi),SV.c (.bool dg)] (.bool (cK dg l && (decide (lo<=l.length) && decide ((l.length:Int)<=hi)))):=by
 refine aj ai ak P8 _ _ rfl rfl fun w=>?_
 refine ⟨_,fun w _=>az Tryz.underlying9 w,?_⟩
 refine ⟨fun q f m=>∃ i:Nat,q=l.length - i/\i<=l.length/\(∀ j,j < i->cm dg l j=true)/\f=[(0,SV.c (.string (S l))),(1,SV.c (.int .i64 lo)),(2,SV.c (.int .i64 hi)),(3,SV.c (.bool dg)),(11,SV.c (.int .i64 (l.length:Nat))),(12,SV.c (.int .i64 i))]/\m=[],l.length,⟨_,_,⟨0,rfl,Nat.zero_le _,fun j hj=>absurd hj (by omega),rfl,rfl⟩,⟨rfl,rfl,rfl,rfl,rfl,rfl,trivial⟩,trivial,rfl⟩,?_⟩
 rintro q f m ⟨i,rfl,hi1,hall,rfl,rfl⟩
 refine ⟨fun h=>?_,fun h=>?_⟩
 ·have h:i < l.length:=by have:=af h;omega
  have hx:=bL (E:=(eF Tryz.prog tt Tryz.f108.ntmps w).toEnv) Tryz.underlying9 (k:=.i64) i rfl h
  have hc:cm dg l i=((decide (65<=(l.getD i 0).toNat) && decide ((l.getD i 0).toNat<=90)) || (dg && !decide (i=0) && decide (48<=(l.getD i 0).toNat) && decide ((l.getD i 0).toNat<=57))):=rfl
  generalize (l.getD i 0).toNat=x at *
  have stop:cm dg l i=false->cT [.bool false]=.bool (cK dg l && (decide (lo<=l.length) && decide ((l.length:Int)<=hi))):=fun e=>by rw [cV h e];rfl
  have hnext:cm dg l i=true->∀ j,j < i+1->cm dg l j=true:=fun e j hj=>by
   by_cases e2:j=i
   ·rw [e2];exact e
   ·exact hall j (by omega)
  refine ⟨_,hx,fun h1=>⟨_,hx,fun h2=>?_,fun h2=>?_⟩,fun h1=>⟨fun h2=>?_,nofun⟩⟩
  ·have h1:=ag h1
   have h2:=af h2
   have hlow:(decide (65<=x) && decide (x<=90))=false:=by rw [decide_eq_false (by omega:¬ x<=90),Bool.and_false]
   rw [hlow,Bool.false_or] at hc
   refine ⟨fun h3=>⟨fun h4=>⟨_,hx,fun h5=>⟨_,hx,fun h6=>⟨stop ?_,trivial⟩,fun h6=>?_⟩,fun h5=>⟨fun _=>⟨stop ?_,trivial⟩,nofun⟩⟩,fun h4=>⟨nofun,fun _=>⟨fun _=>⟨stop ?_,trivial⟩,nofun⟩⟩⟩,fun h3=>⟨nofun,fun _=>⟨nofun,fun _=>⟨fun _=>⟨stop ?_,trivial⟩,nofun⟩⟩⟩⟩
   ·have h6:=af h6
    rw [hc,decide_eq_false (by omega:¬ x<=57),Bool.and_false]
   ·have h3:dg=true:=bq h3
    have h4:¬ i=0:=by intro e;subst e;simp at h4
    have h5:=ag h5
    have h6:=ag h6
    exact ⟨l.length - (i+1),_,_,by omega,⟨i+1,rfl,by omega,hnext (by rw [hc,h3,decide_eq_false h4,decide_eq_true (by omega:48<=x),decide_eq_true (by omega:x<=57)];rfl),rfl,rfl⟩,⟨rfl,rfl,rfl,rfl,rfl,am (by rw [i64_in (by omega)];rfl),trivial⟩,trivial,rfl⟩
   ·have h5:=af h5
    rw [hc,decide_eq_false (by omega:¬ 48<=x),Bool.and_false,Bool.false_and]
   ·have h4:i=0:=by have:(i:Int)=0:=by simpa using h4
                    omega
    rw [hc,decide_eq_true h4,Bool.not_true,Bool.and_false,Bool.false_and,Bool.false_and]
   ·have h3:dg=false:=bnt h3
    rw [hc,h3];rfl
  ·have h1:=ag h1
   have h2:=ag h2
   refine ⟨nofun,fun _=>?_⟩
   exact ⟨l.length - (i+1),_,_,by omega,⟨i+1,rfl,by omega,hnext (by rw [hc,decide_eq_true (by omega:65<=x),decide_eq_true (by omega:x<=90)];rfl),rfl,rfl⟩,⟨rfl,rfl,rfl,rfl,rfl,am (by rw [i64_in (by omega)];rfl),trivial⟩,trivial,rfl⟩
  ·have h1:=af h1
   have hlow:(decide (65<=x) && decide (x<=90))=false:=by rw [decide_eq_false (by omega:¬ 65<=x),Bool.false_and]
   rw [hlow,Bool.false_or] at hc
   refine ⟨fun h3=>⟨fun h4=>⟨_,hx,fun h5=>⟨_,hx,fun h6=>⟨stop ?_,trivial⟩,fun h6=>?_⟩,fun h5=>⟨fun _=>⟨stop ?_,trivial⟩,nofun⟩⟩,fun h4=>⟨nofun,fun _=>⟨fun _=>⟨stop ?_,trivial⟩,nofun⟩⟩⟩,fun h3=>⟨nofun,fun _=>⟨nofun,fun _=>⟨fun _=>⟨stop ?_,trivial⟩,nofun⟩⟩⟩⟩
   ·have h6:=af h6
    rw [hc,decide_eq_false (by omega:¬ x<=57),Bool.and_false]
   ·have h3:dg=true:=bq h3
    have h4:¬ i=0:=by intro e;subst e;simp at h4
    have h5:=ag h5
    have h6:=ag h6
    exact ⟨l.length - (i+1),_,_,by omega,⟨i+1,rfl,by omega,hnext (by rw [hc,h3,decide_eq_false h4,decide_eq_true (by omega:48<=x),decide_eq_true (by omega:x<=57)];rfl),rfl,rfl⟩,⟨rfl,rfl,rfl,rfl,rfl,am (by rw [i64_in (by omega)];rfl),trivial⟩,trivial,rfl⟩
   ·have h5:=af h5
    rw [hc,decide_eq_false (by omega:¬ 48<=x),Bool.and_false,Bool.false_and]
   ·have h4:i=0:=by have:(i:Int)=0:=by simpa using h4
                    omega
    rw [hc,decide_eq_true h4,Bool.not_true,Bool.and_false,Bool.false_and,Bool.false_and]
   ·have h3:dg=false:=bnt h3
    rw [hc,h3];rfl
 ·have h:i=l.length:=by have:=ag h;omega
  subst h
  rw [fh hall,Bool.true_and]
  refine ⟨_,fun w _=>az Tryz.underlying9 w,fun h2=>⟨_,fun w _=>az Tryz.underlying9 w,bv ?_,trivial⟩,fun h2=>⟨bv ?_,trivial⟩⟩
  ·rw [decide_eq_true (af h2:lo<=(l.length:Int)),Bool.true_and]
  ·rw [decide_eq_false (ag h2:¬ lo<=(l.length:Int)),Bool.false_and]
theorem jJ (l:List UInt8) (hl:l.length<=9223372036854775807):aw Tryz.prog 51 [SV.c (.string (S l))] (.bool (aD l)):=by
 refine aj ai ak RG _ _ rfl rfl fun w=>?_
 exact .inl ⟨_,rb l 3 3 false hl,rfl,trivial⟩
theorem fl (n lo hi:Int):aw Tryz.prog 45 [SV.c (.int .i64 n),SV.c (.int .i64 lo),SV.c (.int .i64 hi)] (.bool (inB n lo hi)):=by
 refine aj ai ak RN _ _ rfl rfl fun w=>?_
 refine ⟨fun c=>⟨bv ?_,trivial⟩,fun c=>⟨bv ?_,trivial⟩⟩
 ·have c:=af (show decide (n >= lo)=true from c)
  unfold inB
  rw [decide_eq_true (show lo<=n by omega),Bool.true_and]
 ·have c:=ag (show decide (n >= lo)=false from c)
  unfold inB
  rw [decide_eq_false (show ¬ lo<=n by omega),Bool.false_and]
theorem r9 {r:RQ} (hr:r.In):aw Tryz.prog 95 [SV.c (.agg r.A)] (.int .i64 (kS (gS r 0 6)).1):=by
 refine aj ai ak Rc _ _ rfl rfl fun w=>?_
 exact ⟨r.A_size,.inl ⟨_,p8 hr 0 6,rfl,trivial⟩⟩
theorem nU {A B:Array Value} {x y:Int} (hA:IsI A x) (hB:IsI B y) (hl:(x*y).natAbs < BB ^ 32):aw Tryz.prog 102 [SV.c (.agg A),SV.c (.agg B)] (.agg (eA (x*y))):=by
 refine aj ai ak Qe _ _ rfl rfl fun w=>?_
 have h:=Eb hA hB
 rw [eD,if_pos hl] at h
 exact ⟨hA.size,hB.size,.inl ⟨_,h,ao _,ao _,rfl,trivial⟩⟩
theorem s7 {r:RQ} (hr:r.In) {n:Int} (hn:Bd 60 n) (hn1 : -9223372036854775808<=n/\n<=9223372036854775807):aw Tryz.prog 128 [SV.c (.agg r.A),SV.c (.int .i64 n)] (.bool (cZ r 0 n)):=by
 refine aj ai ak PH _ _ rfl rfl fun w=>?_
 have C1:=oz hr (s:=RQ.of n 1) (RQ.of_in (dP (n:=n) hn1.1 hn1.2) (by decide))
 have S1:=zr hr
 have ho:=of_ok hn
 rw [ho,Bool.and_true,RQ.of_p,RQ.of_q] at C1
 have W1:=d8 hn1.1 hn1.2
 have hb:cZ r 0 n=(r.ok && (decide (sgn r.p >= 0) && decide (dp (r.p*1) (n*r.q)<=0))):=by
  unfold cZ
  rw [Du,uu,Int.zero_mul,Int.mul_one]
 rw [hb]
 have RF:=r.A_size
 have NF:=(RQ.of n 1).A_fits
 generalize r.A=RA at *
 refine ⟨RF,.inl ⟨_,S1,.inl ⟨_,W1,.inl ⟨_,C1,by kernel_rfl,?_⟩⟩⟩⟩
 cases hk:r.ok
 ·exact ⟨fun c=>absurd c (by decide),fun _=>⟨fun c=>absurd c (by decide),fun _=>⟨rfl,trivial⟩⟩⟩
 ·refine ⟨fun _=>⟨fun c=>?_,fun c=>?_⟩,fun c=>absurd c (by decide)⟩
  ·have c:decide (sgn r.p >= 0)=true:=c
   exact ⟨bv (by rw [c];rfl),trivial⟩
  ·have c:decide (sgn r.p >= 0)=false:=c
   exact ⟨bv (by rw [c];rfl),trivial⟩
def ld (b:Int):List UInt8:=if b=1 then [97,99,116,51,54,48] else if b=2 then [97,99,116,51,54,53] else if b=3 then [97,99,116,97,99,116] else if b=4 then [116,104,105,114,116,121,51,54,48] else []
def lg:Array Value:=#[.string (S [97,99,116,51,54,48]),.string (S [97,99,116,51,54,53]),.string (S [97,99,116,97,99,116]),.string (S [116,104,105,114,116,121,51,54,48])]
theorem GE:aw Tryz.prog 236 [] (.agg lg):=by
 refine aj ai ak NW _ _ rfl rfl fun w=>?_
 exact ⟨lg,by kernel_rfl,⟨rfl,by simp [lg,Value.oneCell']⟩,rfl,trivial⟩
theorem DE {E:Env} (hE:E.P=Tryz.prog) {k:IntKind} {x:Int} {i:Nat} (hx:x=(i:Nat)) {s:List UInt8} (h:lg[i]? = some (.string (S s))):bB E (Instr.index 254 (.agg lg) (.int k x)) (.string (S s)):=by
 subst hx
 intro w _
 have hi:i < 4:=by
  have:=(Array.getElem?_eq_some_iff.1 h).1
  exact this
 have hc:(((i:Nat):Int):Int) < 4:=by omega
 have hp:=run_part_plain (P:=E.P) (e:=9) (by rw [hE];kernel_rfl) (w:=w) (xs:=lg) (off:=i) h
 have hsz:(sizeOf 9).run E.P w=.ok 1 w:=by rw [hE];exact Go.SX.run_sizeOf (P:=Tryz.prog) (ty:=9) (i:=ti9) (ai _ _ rfl) w
 simp only [Instr.index,asIntOf,Sem.run_bind,Sem.run_pure,Result.andThen_ok,run_underlying (show E.P.underlying 254=_ by rw [hE];exact Tryz.underlying254)]
 rw [if_pos ⟨by omega,hc⟩]
 simp only [Sem.run_bind,hsz,Result.andThen_ok,Int.toNat_natCast,Nat.mul_one,hp]
theorem E9 {n:Int} (hn : -9223372036854775808<=n/\n<=9223372036854775807):aw Tryz.prog 187 [SV.c (.int .i64 n)] (.tuple #[.string (S (ld n)),.int .i64 (if inB n 1 4 then 0 else 60)]):=by
 refine aj ai ak OI _ _ rfl rfl fun w=>?_
 have bad:¬ (1<=n/\n<=4)->(Value.tuple #[.string (S []),.int .i64 60])=.tuple #[.string (S (ld n)),.int .i64 (if inB n 1 4 then 0 else 60)]:=fun h=>by
  have e1:inB n 1 4=false:=by unfold inB;rw [<- Bool.decide_and,decide_eq_false h]
  have e2:ld n=[]:=by unfold ld;rw [if_neg (by omega),if_neg (by omega),if_neg (by omega),if_neg (by omega)]
  rw [e1,e2];rfl
 refine ⟨fun c=>⟨fun c2=>?_,fun c2=>?_⟩,fun c=>?_⟩
 ·have c:=ag (show decide (n < 1)=false from c)
  have c2:=af (show decide (n > 4)=true from c2)
  exact ⟨bad (by omega),trivial⟩
 ·have c:=ag (show decide (n < 1)=false from c)
  have c2:=ag (show decide (n > 4)=false from c2)
  have e1:inB n 1 4=true:=by unfold inB;rw [<- Bool.decide_and,decide_eq_true (by omega)]
  have e0:IntKind.i64.wrap (n - 1)=(((n - 1).toNat:Nat):Int):=by rw [i64_in (by omega)];omega
  have key:lg[(n - 1).toNat]? = some (.string (S (ld n))):=by
   have h4:n=1\/n=2\/n=3\/n=4:=by omega
   rcases h4 with rfl | rfl | rfl | rfl<;>rfl
  refine .inl ⟨_,GE,_,DE rfl e0 key,?_⟩
  rw [e1]
  exact ⟨rfl,trivial⟩
 ·have c:=af (show decide (n < 1)=true from c)
  exact ⟨fun _=>⟨bad (by omega),trivial⟩,fun h=>absurd h (by decide)⟩
def ui (nm:Bs) (rate:RQ) (basis:Int):Array Value:=#[.string (S nm)]++(rate.A++#[.int .i64 basis])
theorem Ca (nm:Bs) (rate:RQ) (basis:Int):Fits (ui nm rate basis) 68:=⟨by simp [ui,RQ.A_size],by
 rw [ui,Array.all_append,Array.all_append,rate.A_fits.one]
 simp [Value.oneCell']⟩
theorem Ks (nm:Bs) (rate:RQ) (basis:Int):(ui nm rate basis)[0]? = some (.string (S nm)):=by kernel_rfl
theorem Kr (nm:Bs) (rate:RQ) (basis:Int):(ui nm rate basis).extract 1 (1+66)=rate.A:=by kernel_rfl
theorem Kq (nm:Bs) (rate:RQ) (basis:Int):(ui nm rate basis)[67]? = some (.int .i64 basis):=by kernel_rfl
theorem Fh (nm:Bs) (rate:RQ) (basis:Int) {pl:List (Nat×Nat)} (hpl:pl=[(0,1),(1,66),(67,1)]):Instr.fill (fun k=>pl[k]?) ID.zero [(0,.string (S nm)),(1,.agg rate.A),(2,.int .i64 basis)]=some (ui nm rate basis):=by
 subst hpl;kernel_rfl
def rv:AcQ:=⟨[],aN,0,aN,0,0⟩
theorem acZ:rv.A=lP.zero:=by kernel_rfl
theorem Fj (nm:Bs) (rate:RQ) (basis:Int) {pl:List (Nat×Nat)} (hpl:pl=[(0,1),(1,66),(67,1),(68,66),(134,1),(135,1)]):Instr.fill (fun k=>pl[k]?) lP.zero [(0,.string (S nm)),(1,.agg rate.A),(2,.int .i64 basis)]=some (AcQ.A ⟨nm,rate,basis,aN,0,0⟩):=by
 subst hpl;kernel_rfl
theorem Fi (nm:Bs) (rate:RQ) (basis day:Int) (x:RQ) {pl:List (Nat×Nat)} (hpl:pl=[(0,1),(1,66),(67,1),(68,66),(134,1),(135,1)]):Instr.fill (fun k=>pl[k]?) lP.zero [(0,.string (S nm)),(1,.agg rate.A),(2,.int .i64 basis),(3,.agg x.A),(5,.int .i64 day)]=some (AcQ.A ⟨nm,rate,basis,x,0,day⟩):=by
 subst hpl;kernel_rfl
theorem nO {P A Q B:Array Value} {off:Nat} (ho:off=P.size) (h:B.size=A.size):bh (P++(A++Q)) off B.toList=P++(B++Q):=by
 subst ho
 rw [pX P B (A++Q) (by simp [h])]
 have e:(A++Q).extract B.size (A++Q).size=Q:=by
  rw [h,Array.extract_append]
  simp
 rw [e,Array.append_assoc]
theorem r6 {P Q:Array Value} {i:Nat} (j:Nat) (h:i=P.size+j) (v:Value):(P++Q).setIfInBounds i v=P++Q.setIfInBounds j v:=by
 subst h
 rw [Array.setIfInBounds_append_right (by omega)]
 simp
theorem AcQ.setexact (a:AcQ) (x:RQ):bh a.A (0+68) x.A.toList=({ a with exact:=x }:AcQ).A:=by
 have e:∀ a:AcQ,a.A=(#[.string (S a.nm)]++(a.rate.A++#[.int .i64 a.basis]))++(a.exact.A++#[.int .i64 a.paid,.int .i64 a.til]):=fun a=>by simp [AcQ.A]
 rw [e,e,nO (by simp [RQ.A_size]) (by simp [RQ.A_size])]
theorem AcQ.settil (a:AcQ) (n:Int):a.A.setIfInBounds (0+135) (.int .i64 n)=({ a with til:=n }:AcQ).A:=by
 have e:∀ a:AcQ,a.A=(#[.string (S a.nm)]++(a.rate.A++(#[.int .i64 a.basis]++a.exact.A)))++#[.int .i64 a.paid,.int .i64 a.til]:=fun a=>by simp [AcQ.A]
 rw [e,e,r6 1 (by simp [RQ.A_size])]
 rfl
def nwQ (nm:Bs) (rate:RQ) (basis day:Int):AcQ×Int:=if iL nm rate basis then (if day < 0\/day > 73048 then (rv,50) else (⟨nm,rate,basis,.of 0 1,0,day⟩,0)) else (rv,190)
theorem Ml {nm:Bs} {rate:RQ} {basis day:Int} (hn:nm.length<=9223372036854775807) (hr:rate.In) (hb : -9223372036854775808<=basis/\basis<=9223372036854775807):aw Tryz.prog 127 [SV.c (.agg (ui nm rate basis)),SV.c (.int .i64 day)] (.tuple #[.agg (nwQ nm rate basis day).1.A,.int .i64 (nwQ nm rate basis day).2]):=by
 refine aj ai ak PI _ _ rfl rfl fun w=>?_
 have F1:=E9 hb
 have P1:=IJ hr
 have N1:=x0 nm hn
 have B1:=s7 hr (n:=1) (by unfold Bd;decide) (by decide)
 have W1:=d8 (n:=0) (by decide) (by decide)
 have A0:=Ks nm rate basis
 have A1:=Kr nm rate basis
 have A2:=Kq nm rate basis
 have AS:=(Ca nm rate basis).size
 have RF:=rate.A_fits
 have bad:iL nm rate basis=false->(Value.tuple #[.agg lP.zero,.int .i64 190])=.tuple #[.agg (nwQ nm rate basis day).1.A,.int .i64 (nwQ nm rate basis day).2]:=fun h=>by
  unfold nwQ;rw [h,<- acZ];rfl
 have ht:iL nm rate basis=(bS nm && (gw rate && (cZ rate 0 1 && inB basis 1 4))):=rfl
 generalize ui nm rate basis=FA at *
 have hp:gw rate=decide ((nY rate).2=0):=rfl
 generalize nY rate=PZ at *
 obtain ⟨ps,pe⟩:=PZ
 refine ⟨AS,_,A2,.inl ⟨_,F1,by decide,_,A1,.inl ⟨_,P1,?_⟩⟩⟩
 have nf:∀ {p:Prop},true=false->p:=fun h=>by cases h
 have nt:∀ {p:Prop},false=true->p:=fun h=>by cases h
 have zf:Fits lP.zero 136:=acZ ▸ rv.fits
 cases h1:inB basis 1 4
 ·exact ⟨nf,fun _=>⟨nf,fun _=>⟨nf,fun _=>⟨fun _=>⟨_,rfl,zf,bad (by rw [ht,h1];simp),trivial⟩,nf⟩⟩⟩⟩
 refine ⟨fun _=>?_,nt⟩
 refine ⟨fun c2=>?_,fun c2=>?_⟩
 case refine_2 =>
  have c2:(pe != 0)=true:=c2
  have e2:gw rate=false:=by rw [hp];simpa using c2
  exact ⟨nf,fun _=>⟨fun _=>⟨_,rfl,zf,bad (by rw [ht,e2];simp),trivial⟩,nf⟩⟩
 have c2:(pe != 0)=false:=c2
 have e2:gw rate=true:=by rw [hp];simpa using c2
 refine ⟨_,A0,.inl ⟨_,N1,fun c3=>?_,fun c3=>?_⟩⟩
 case refine_2 =>
  have c3:=ba c3
  exact ⟨fun _=>⟨_,rfl,zf,bad (by rw [ht,c3];simp),trivial⟩,nf⟩
 have c3:=bc c3
 refine ⟨by decide,_,A1,.inl ⟨_,B1,fun c4=>?_,fun c4=>?_⟩⟩
 case refine_1 =>
  have c4:=ba c4
  exact ⟨_,rfl,zf,bad (by rw [ht,c4];simp),trivial⟩
 have c4:=bc c4
 have ht:iL nm rate basis=true:=by rw [ht,c3,e2,c4,h1];rfl
 clear bad
 have q1:(day < 0\/day > 73048)->nwQ nm rate basis day=(rv,50):=fun h=>by unfold nwQ;rw [if_pos ht,if_pos h]
 have q2:¬ (day < 0\/day > 73048)->nwQ nm rate basis day=(⟨nm,rate,basis,.of 0 1,0,day⟩,0):=fun h=>by unfold nwQ;rw [if_pos ht,if_neg h]
 generalize nwQ nm rate basis day=NQ at *
 refine ⟨fun c5=>⟨fun c6=>?_,fun c6=>?_⟩,fun c5=>?_⟩
 ·have c6:=af (show decide (day > 73048)=true from c6)
  exact ⟨_,rfl,zf,by rw [q1 (.inr c6),<- acZ];rfl,trivial⟩
 ·have c6:=ag (show decide (day > 73048)=false from c6)
  have c5:=ag (show decide (day < 0)=false from c5)
  refine ⟨_,A0,by decide,_,A1,_,A2,.inl ⟨_,W1,_,Fi nm rate basis day (RQ.of 0 1) rfl,AcQ.fits _,by kernel_rfl,by rw [q2 (by omega)];rfl,trivial⟩⟩
 ·have c5:=af (show decide (day < 0)=true from c5)
  exact ⟨fun _=>⟨_,rfl,zf,by rw [q1 (.inl c5),<- acZ];rfl,trivial⟩,nf⟩
def AcQ.beq (a b:AcQ):Bool:=decide (a.nm=b.nm) && (a.rate.beq b.rate && ((a.basis == b.basis) && (a.exact.beq b.exact && ((a.paid == b.paid) && ((a.til == b.til) && true)))))
theorem Cd {d:Nat} {a b:AcQ} (ha:a.In) (hb:b.In) (w:World):(Op.equalIn (d+1+1+1+1+1) 69 (.agg a.A) (.agg b.A)).run Tryz.prog w=.ok (a.beq b) w:=by
 rw [run_equalIn_struct w (d+1+1+1+1) 69 _ _ (by simp only [Program.fieldsOf,Tryz.underlying69]) (by kernel_rfl)]
 rw [show (Tryz.prog.fieldsOf 69).toList=[⟨ "Name",9,0,false,"","",0⟩,⟨ "Rate",33,1,false,"","",16⟩,⟨ "Basis",3,67,false,"","",280⟩,⟨ "Exact",33,68,false,"","",288⟩,⟨ "Paid",3,134,false,"","",552⟩,⟨ "Until",3,135,false,"","",560⟩] from by simp only [Program.fieldsOf,Tryz.underlying69]]
 refine cg (by decide) (bm GQ rfl a.g0 w) (bm GQ rfl b.g0 w) (Fm _ _ w) fun _=>?_
 refine cg (a:=.agg a.rate.A) (b:=.agg b.rate.A) (by decide) ?_ ?_ (dX ha.rate hb.rate w) fun _=>?_
 ·rw [cv mv rfl _ _ w];exact congrArg (fun x=>Result.ok (Value.agg x) w) a.grate
 ·rw [cv mv rfl _ _ w];exact congrArg (fun x=>Result.ok (Value.agg x) w) b.grate
 refine cg (by decide) (bm mw rfl a.g67 w) (bm mw rfl b.g67 w) (iF _ Tryz.underlying3 _ _ w) fun _=>?_
 refine cg (a:=.agg a.exact.A) (b:=.agg b.exact.A) (by decide) ?_ ?_ (dX ha.exact hb.exact w) fun _=>?_
 ·rw [cv mv rfl _ _ w];exact congrArg (fun x=>Result.ok (Value.agg x) w) a.gexact
 ·rw [cv mv rfl _ _ w];exact congrArg (fun x=>Result.ok (Value.agg x) w) b.gexact
 refine cg (by decide) (bm mw rfl a.g134 w) (bm mw rfl b.g134 w) (iF _ Tryz.underlying3 _ _ w) fun _=>?_
 refine cg (by decide) (bm mw rfl a.g135 w) (bm mw rfl b.g135 w) (iF _ Tryz.underlying3 _ _ w) fun _=>pC
theorem E5:Tryz.prog.eqGuardType Tryz.prog.depth 69=false:=by kernel_rfl
theorem AcQ.beq_self (a:AcQ):a.beq a=true:=by simp [AcQ.beq,RQ.beq_self]
theorem Kt {E:Env} (hE:E.P=Tryz.prog) {a:AcQ} (ha:a.In) {u v:Operand}:bB E (do eqGuard .eql 69 u v (.agg a.A) (.agg a.A);binOp .eql 69 (.agg a.A) (.agg a.A)) (.bool true):=by
 have:=mL (A:=a.A) (B:=a.A) (x:=u) (y:=v) (by rw [hE];exact E5) fun w=>by rw [hE];exact Cd ha ha w
 rwa [AcQ.beq_self] at this
theorem zc {a:AcQ} (ha:a.In):aw Tryz.prog 58 [SV.c (.agg a.A)] (.bool (bG a)):=by
 refine aj ai ak Rx _ _ rfl rfl fun w=>?_
 have A0:=a.g0
 have A1:=a.grate
 have A2:=a.g67
 have A3:=a.gexact
 have A4:=a.g134
 have A5:=a.g135
 have AS:=a.size
 have N1:=Ml (day:=a.til) ha.nm ha.rate ha.basis
 have W1:=d8 (n:=0) (by decide) (by decide)
 have F3:=Fj a.nm a.rate a.basis rfl
 have FF:=Fh a.nm a.rate a.basis rfl
 have C1:=AcQ.fits ⟨a.nm,a.rate,a.basis,aN,0,0⟩
 have NF:=(nwQ a.nm a.rate a.basis a.til).1.fits
 have X1:=AcQ.setexact ⟨a.nm,a.rate,a.basis,aN,0,0⟩ (RQ.of 0 1)
 have X2:=AcQ.settil ⟨a.nm,a.rate,a.basis,.of 0 1,0,0⟩ a.til
 have B1:=s7 ha.exact (n:=1000000000000000) (by unfold Bd;decide) (by decide)
 have R1:=r9 ha.exact
 have E1:=fun (u v:Operand)=>Kt (E:=(eF Tryz.prog tt Tryz.f58.ntmps w).toEnv) rfl (a:=⟨a.nm,a.rate,a.basis,.of 0 1,0,a.til⟩) ⟨ha.nm,ha.rate,ha.basis,RQ.of_in (by decide) (by decide),⟨by show (-9223372036854775808:Int)<=0;decide,by show (0:Int)<=9223372036854775807;decide⟩,ha.til⟩ (u:=u) (v:=v)
 have Z0:=(RQ.of 0 1).A_fits
 have hq:(nwQ a.nm a.rate a.basis a.til).2=0->(nwQ a.nm a.rate a.basis a.til).1=⟨a.nm,a.rate,a.basis,.of 0 1,0,a.til⟩/\iL a.nm a.rate a.basis=true/\inB a.til 0 73048=true:=fun h=>by
  unfold nwQ at h ⊢
  split at h
  ·rename_i h1
   split at h
   ·cases h
   ·rename_i h2
    rw [if_pos h1,if_neg h2]
    refine ⟨rfl,h1,?_⟩
    unfold inB
    rw [<- Bool.decide_and,decide_eq_true (by omega)]
  ·cases h
 have hn:(nwQ a.nm a.rate a.basis a.til).2≠0->bG a=false:=fun h=>by
  unfold nwQ at h
  split at h
  ·split at h
   ·rename_i h2
    have:inB a.til 0 73048=false:=by unfold inB;rw [<- Bool.decide_and,decide_eq_false (by omega)]
    unfold bG;rw [this];simp
   ·exact absurd rfl h
  ·rename_i h1
   unfold bG;rw [show iL a.nm a.rate a.basis=false by simpa using h1];rfl
 have hk:iL a.nm a.rate a.basis=true->inB a.til 0 73048=true->bG a=(cZ a.exact 0 1000000000000000 && (decide (0<=a.paid) && decide (a.paid<=(kS (gS a.exact 0 6)).1))):=fun h1 h2=>by
  unfold bG dZ;rw [h1,h2];simp
 have nt:∀ {p:Prop},false=true->p:=fun h=>by cases h
 generalize bG a=AO at *
 generalize nwQ a.nm a.rate a.basis a.til=NQ at *
 obtain ⟨N,e⟩:=NQ
 refine ⟨AS,_,A0,by decide,_,A1,_,A2,_,F3,C1,?_⟩
 refine ⟨_,A0,by decide,_,A1,_,A2,_,FF,_,A5,.inl ⟨_,N1,NF,?_⟩⟩
 refine .inl ⟨_,W1,_,A5,by decide,Z0,_,X1,by decide,rfl,_,X2,by kernel_rfl,?_⟩
 refine ⟨fun c=>?_,fun c=>?_⟩
 case refine_2 =>
  have c:(e == 0)=false:=c
  exact ⟨nt,fun _=>⟨nt,fun _=>⟨nt,fun _=>⟨by kernel_rfl,bv (by rw [hn (by simpa using c)]),trivial⟩⟩⟩⟩
 have c:(e == 0)=true:=c
 obtain ⟨h1,h2,h3⟩:=hq (by simpa using c)
 have h1:N=_:=h1
 subst h1
 have hk:=hk h2 h3
 clear hn hq
 refine ⟨_,E1 _ _,fun _=>?_,fun h=>absurd h (by decide)⟩
 refine ⟨by decide,_,A3,.inl ⟨_,B1,fun c2=>?_,fun c2=>?_⟩⟩
 case refine_2 =>
  have c2:cZ a.exact 0 1000000000000000=false:=c2
  exact ⟨nt,fun _=>⟨by kernel_rfl,bv (by rw [hk,c2];rfl),trivial⟩⟩
 have c2:cZ a.exact 0 1000000000000000=true:=c2
 rw [c2,Bool.true_and] at hk
 refine ⟨_,A4,fun c3=>?_,fun c3=>?_⟩
 case refine_2 =>
  have c3:decide (a.paid >= 0)=false:=c3
  exact ⟨by kernel_rfl,bv (by rw [hk,show decide (0<=a.paid)=false from c3];rfl),trivial⟩
 have c3:decide (a.paid >= 0)=true:=c3
 rw [show decide (0<=a.paid)=true from c3,Bool.true_and] at hk
 refine ⟨_,A4,by decide,_,A3,.inl ⟨_,R1,?_⟩⟩
 exact ⟨by kernel_rfl,bv hk.symm,trivial⟩
theorem Ga {a:AcQ} (ha:a.In):aw Tryz.prog 38 [SV.c (.agg a.A)] (.tuple #[.int .i64 (eJ a).1,.int .i64 (eJ a).2]):=by
 refine aj ai ak RW _ _ rfl rfl fun w=>?_
 have A3:=a.gexact
 have A4:=a.g134
 have AS:=a.size
 have V1:=zc ha
 have R1:=r9 ha.exact
 have e1:bG a=false->eJ a=(0,190):=fun h=>by unfold eJ;rw [h];rfl
 have e2:bG a=true->eJ a=(dZ a - a.paid,0):=fun h=>by unfold eJ;rw [h];rfl
 have hp:bG a=true->0<=a.paid/\a.paid<=dZ a:=fun h=>by
  unfold bG at h
  simp only [Bool.and_eq_true,decide_eq_true_eq] at h
  exact ⟨h.2.2.1,h.2.2.2.1⟩
 have hb : -1000000000000000<=dZ a/\dZ a<=1000000000000000:=po _
 have ho:dZ a=(kS (gS a.exact 0 6)).1:=rfl
 generalize eJ a=BQ at *
 generalize bG a=AO at *
 generalize a.A=AA at *
 refine ⟨AS,.inl ⟨_,V1,fun c=>?_,fun c=>?_⟩⟩
 ·have c:=ba c
  exact ⟨by rw [e1 c];rfl,trivial⟩
 ·have c:=bc c
  have c0:=hp c
  have hw:IntKind.i64.wrap ((kS (gS a.exact 0 6)).1 - a.paid)=dZ a - a.paid:=by rw [<- ho];exact i64_in (by omega)
  refine ⟨by decide,_,A3,.inl ⟨_,R1,_,A4,by kernel_rfl,?_,trivial⟩⟩
  rw [e2 c,<- hw];rfl
theorem Jn (n:Int):aw Tryz.prog 198 [SV.c (.int .i64 n)] (.string (S (ld n))):=by
 refine aj ai ak Ow _ _ rfl rfl fun w=>?_
 have nt:∀ {b:Bool} {p:Prop},b=true->b=false->p:=fun h1 h2=>by rw [h1] at h2;cases h2
 by_cases h1:n=1
 ·subst h1;exact ⟨fun _=>⟨rfl,trivial⟩,fun h=>absurd h (by decide)⟩
 by_cases h2:n=2
 ·subst h2;exact ⟨fun h=>absurd h (by decide),fun _=>⟨fun _=>⟨rfl,trivial⟩,fun h=>absurd h (by decide)⟩⟩
 by_cases h3:n=3
 ·subst h3;exact ⟨fun h=>absurd h (by decide),fun _=>⟨fun h=>absurd h (by decide),fun _=>⟨fun _=>⟨rfl,trivial⟩,fun h=>absurd h (by decide)⟩⟩⟩
 by_cases h4:n=4
 ·subst h4;exact ⟨fun h=>absurd h (by decide),fun _=>⟨fun h=>absurd h (by decide),fun _=>⟨fun h=>absurd h (by decide),fun _=>⟨fun _=>⟨rfl,trivial⟩,fun h=>absurd h (by decide)⟩⟩⟩⟩
 have e:ld n=[]:=by unfold ld;rw [if_neg h1,if_neg h2,if_neg h3,if_neg h4]
 have ne:∀ {k:Int},¬ n=k->(n == k)=true->False:=fun h h5=>h (by simpa using h5)
 exact ⟨fun h=>(ne h1 h).elim,fun _=>⟨fun h=>(ne h2 h).elim,fun _=>⟨fun h=>(ne h3 h).elim,fun _=>⟨fun h=>(ne h4 h).elim,fun _=>⟨by rw [e];rfl,trivial⟩⟩⟩⟩⟩
theorem Ip (n:Int):(!((S (ld n)).toList == (S []).toList))=inB n 1 4:=by
 rw [dn]
 unfold inB ld
 by_cases h1:n=1
 ·subst h1;rfl
 by_cases h2:n=2
 ·subst h2;rfl
 by_cases h3:n=3
 ·subst h3;rfl
 by_cases h4:n=4
 ·subst h4;rfl
 rw [if_neg h1,if_neg h2,if_neg h3,if_neg h4,<- Bool.decide_and,decide_eq_false (show ¬ (1<=n/\n<=4) by omega)]
 rfl
theorem DX {a:AcQ} (ha:a.In):aw Tryz.prog 107 [SV.c (.agg a.A)] (.int .i64 (dZ a)):=by
 refine aj ai ak P9 _ _ rfl rfl fun w=>?_
 exact ⟨a.size,by decide,_,a.gexact,.inl ⟨_,p9 ha.exact 0 6,rfl,trivial⟩⟩
theorem GU {nm:Bs} {rate:RQ} {basis:Int} (hn:nm.length<=9223372036854775807) (hr:rate.In):aw Tryz.prog 137 [SV.c (.string (S nm)),SV.c (.agg rate.A),SV.c (.int .i64 basis)] (.bool (iL nm rate basis)):=by
 refine aj ai ak Pw _ _ rfl rfl fun w=>?_
 have P1:=IK hr
 have N1:=x4 nm hn
 have B1:=jo hr (lo:=0) (hi:=1) (by decide) (by decide) (by decide) (by decide)
 have hp:=DT rate
 have ht:iL nm rate basis=(bS nm && (gw rate && (cZ rate 0 1 && inB basis 1 4))):=rfl
 have nt:∀ {p:Prop},false=true->p:=fun h=>by cases h
 generalize xX rate=PZ at *
 obtain ⟨ps,pe⟩:=PZ
 generalize iL nm rate basis=TB at *
 refine ⟨rate.A_size,.inl ⟨_,P1,.inl ⟨_,N1,fun c1=>?_,fun c1=>?_⟩⟩⟩
 case refine_2 =>
  have c1:bS nm=false:=c1
  exact ⟨nt,fun _=>⟨nt,fun _=>⟨bv (by rw [ht,c1];rfl),trivial⟩⟩⟩
 have c1:bS nm=true:=c1
 refine ⟨fun c2=>?_,fun c2=>?_⟩
 case refine_2 =>
  have c2:(pe == 0)=false:=c2
  have e2:gw rate=false:=by rw [<- hp];simpa using c2
  exact ⟨nt,fun _=>⟨bv (by rw [ht,c1,e2];rfl),trivial⟩⟩
 have c2:(pe == 0)=true:=c2
 have e2:gw rate=true:=by rw [<- hp];simpa using c2
 refine .inl ⟨_,B1,fun c3=>?_,fun c3=>?_⟩
 case refine_2 =>
  have c3:cZ rate 0 1=false:=c3
  exact ⟨bv (by rw [ht,c1,e2,c3];rfl),trivial⟩
 have c3:cZ rate 0 1=true:=c3
 refine .inl ⟨_,Jn basis,?_⟩
 exact ⟨bv (by rw [ht,c1,e2,c3,<- Ip];rfl),trivial⟩
theorem rR {a:AcQ} (ha:a.In):aw Tryz.prog 65 [SV.c (.agg a.A)] (.bool (bG a)):=by
 refine aj ai ak Rr _ _ rfl rfl fun w=>?_
 have A0:=a.g0
 have A1:=a.grate
 have A2:=a.g67
 have A3:=a.gexact
 have A4:=a.g134
 have A5:=a.g135
 have AF:=a.fits
 have T1:=GU (basis:=a.basis) ha.nm ha.rate
 have B1:=jo ha.exact (lo:=0) (hi:=1000000000000000) (by decide) (by decide) (by decide) (by decide)
 have O1:=DX ha
 have D1:=qk a.til
 have ho:bG a=(iL a.nm a.rate a.basis && (cZ a.exact 0 1000000000000000 && (decide (0<=a.paid) && (decide (a.paid<=dZ a) && inB a.til 0 73048)))):=rfl
 have nt:∀ {p:Prop},false=true->p:=fun h=>by cases h
 generalize bG a=AO at *
 generalize a.A=AA at *
 refine ⟨AF.size,_,A0,by decide,_,A1,_,A2,.inl ⟨_,T1,fun c1=>?_,fun c1=>?_⟩⟩
 case refine_2 =>
  have c1:iL a.nm a.rate a.basis=false:=c1
  exact ⟨nt,fun _=>⟨nt,fun _=>⟨nt,fun _=>⟨by kernel_rfl,bv (by rw [ho,c1];rfl),trivial⟩⟩⟩⟩
 have c1:iL a.nm a.rate a.basis=true:=c1
 rw [c1,Bool.true_and] at ho
 refine ⟨by decide,_,A3,.inl ⟨_,B1,fun c2=>?_,fun c2=>?_⟩⟩
 case refine_2 =>
  have c2:cZ a.exact 0 1000000000000000=false:=c2
  exact ⟨nt,fun _=>⟨nt,fun _=>⟨by kernel_rfl,bv (by rw [ho,c2];rfl),trivial⟩⟩⟩
 have c2:cZ a.exact 0 1000000000000000=true:=c2
 rw [c2,Bool.true_and] at ho
 refine ⟨_,A4,fun c3=>?_,fun c3=>?_⟩
 case refine_2 =>
  have c3:decide (0<=a.paid)=false:=c3
  exact ⟨nt,fun _=>⟨by kernel_rfl,bv (by rw [ho,c3];rfl),trivial⟩⟩
 have c3:decide (0<=a.paid)=true:=c3
 rw [c3,Bool.true_and] at ho
 refine ⟨_,A4,.inl ⟨_,O1,fun c4=>?_,fun c4=>?_⟩⟩
 case refine_2 =>
  have c4:decide (a.paid<=dZ a)=false:=c4
  exact ⟨by kernel_rfl,bv (by rw [ho,c4];rfl),trivial⟩
 have c4:decide (a.paid<=dZ a)=true:=c4
 rw [c4,Bool.true_and] at ho
 refine ⟨_,A5,.inl ⟨_,D1,?_⟩⟩
 exact ⟨by kernel_rfl,bv (by rw [ho,tR,Bool.not_not]),trivial⟩
theorem F9 {a:AcQ} (ha:a.In):aw Tryz.prog 48 [SV.c (.agg a.A)] (.tuple #[.int .i64 (eJ a).1,.int .i64 (eJ a).2]):=by
 refine aj ai ak RK _ _ rfl rfl fun w=>?_
 have A4:=a.g134
 have AS:=a.size
 have V1:=rR ha
 have R1:=DX ha
 have e1:bG a=false->eJ a=(0,190):=fun h=>by unfold eJ;rw [h];rfl
 have e2:bG a=true->eJ a=(dZ a - a.paid,0):=fun h=>by unfold eJ;rw [h];rfl
 have hp:bG a=true->0<=a.paid/\a.paid<=dZ a:=fun h=>by
  unfold bG at h
  simp only [Bool.and_eq_true,decide_eq_true_eq] at h
  exact ⟨h.2.2.1,h.2.2.2.1⟩
 have hb : -1000000000000000<=dZ a/\dZ a<=1000000000000000:=po _
 generalize eJ a=BQ at *
 generalize bG a=AO at *
 generalize a.A=AA at *
 refine ⟨AS,.inl ⟨_,V1,fun c=>?_,fun c=>?_⟩⟩
 ·have c:=ba c
  exact ⟨by rw [e1 c];rfl,trivial⟩
 ·have c:=bc c
  have c0:=hp c
  have hw:IntKind.i64.wrap (dZ a - a.paid)=dZ a - a.paid:=i64_in (by omega)
  refine .inl ⟨_,R1,_,A4,by kernel_rfl,?_,trivial⟩
  rw [e2 c]
  show Value.tuple #[.int .i64 (IntKind.i64.wrap (dZ a - a.paid)),_]=_
  rw [hw]
theorem FY {a:AcQ} (ha:a.In):aw Tryz.prog 57 [SV.c (.agg a.A)] (.bool (!bG a)):=by
 refine aj ai ak Ry _ _ rfl rfl fun w=>?_
 exact ⟨a.size,.inl ⟨_,zc ha,rfl,trivial⟩⟩
theorem Iu {xs:List AcQ} {i:Nat} {y:AcQ} (hy:xs[i]? = some y) (h:bG y=false):xs.all bG=false:=by
 rw [List.all_eq_false]
 exact ⟨y,List.mem_of_getElem? hy,by rw [h];simp⟩
theorem Gs {xs:List AcQ} (h:∀ (j:Nat) y,xs[j]? = some y->bG y=true):xs.all bG=true:=by
 rw [List.all_eq_true]
 intro x hx
 obtain ⟨j,hj⟩:=List.getElem?_of_mem hx
 exact h j x hj
theorem EN {E:Env} (hE:E.P=Tryz.prog) {v:Value} {xs:List AcQ} (hv:Lst E v 136 xs.length (cat AcQ.A xs)) (hn:xs.length<=2000000000000) (hin:∀ y∈xs,y.In):OwnC E 126 [SV.c v,SV.c (fnW 57)] [] (fun r U=>(∃ n:Int,r=.int .i64 n/\decide (n >= 0)=!(xs.all bG))/\U=[]):=by
 refine aA [] ai ak PJ E hE [SV.c v,SV.c (fnW 57)] [] _ rfl rfl fun w X β hT=>?_
 obtain ⟨a,cap,rfl,hc,h4⟩:=(hv.of_old hT).shape
 refine ⟨_,fun w' _=>al Tryz.underlying37 w',?_⟩
 refine ⟨fun q f m=>∃ (i:Nat),q=xs.length - i/\i<=xs.length/\(∀ (j:Nat) y,j < i->xs[j]? = some y->bG y=true)/\f=[(0,SV.c (.slice a xs.length cap)),(1,SV.c (fnW 57)),(6,SV.c (.slice a xs.length cap)),(7,SV.c (.int .i64 (xs.length:Nat))),(8,SV.c (.int .i64 (i:Nat)))]/\m=[],xs.length,⟨_,_,⟨0,rfl,by omega,fun j y h=>by omega,rfl,rfl⟩,⟨rfl,rfl,rfl,rfl,rfl,trivial⟩,trivial,rfl⟩,?_⟩
 rintro q f m ⟨i,rfl,hi,hok,rfl,rfl⟩
 refine ⟨fun h=>?_,fun h=>?_⟩
 ·have h:i < xs.length:=by have:=af h;omega
  obtain ⟨b,o,rfl,h5⟩:=h4 (by omega)
  obtain ⟨y,hy⟩:∃ y,xs[i]? = some y:=⟨_,List.getElem?_eq_getElem h⟩
  have hE':VOk (aT Tryz.prog tt Tryz.f126.ntmps w X (aF [] β)):=ai
  have L1:=bd hE' h5 AcQ.size hy (ty:=69) (ti:=lP) rfl rfl rfl (p:=o+(i:Int).toNat*136) rfl
  have K1:=FY (hin y (List.mem_of_getElem? hy))
  generalize hY:y.A=YA at L1 K1
  refine ⟨by omega,by omega,.inl ⟨_,L1,.inl ⟨_,K1,fun c=>?_,fun c=>?_⟩⟩⟩
  ·have c:=ba c
   have hb:=Iu hy c
   exact ⟨[],[],⟨⟨(i:Nat),rfl,by rw [hb];simp⟩,rfl⟩,trivial,rfl⟩
  ·have c:=bc c
   refine ⟨xs.length - (i+1),_,_,by omega,⟨i+1,rfl,by omega,fun j z hj hz=>?_,rfl,rfl⟩,⟨rfl,rfl,rfl,rfl,am (ar (by omega)),trivial⟩,trivial,rfl⟩
   rcases Nat.lt_or_ge j i with h9 | h9
   ·exact hok j z h9 hz
   ·have:j=i:=by omega
    subst this
    rw [hy] at hz;cases hz
    exact c
 ·have h:i=xs.length:=by have:=ag h;omega
  subst h
  have hg:=Gs fun j y hy=>hok j y (List.getElem?_eq_some_iff.1 hy).1 hy
  exact ⟨[],[],⟨⟨-1,rfl,by rw [hg];rfl⟩,rfl⟩,trivial,rfl⟩
theorem wP {E:Env} (hE:E.P=Tryz.prog) {v:Value} {xs:List AcQ} (hv:Lst E v 136 xs.length (cat AcQ.A xs)) (hn:xs.length<=2000000000000) (hin:∀ y∈xs,y.In):OwnC E 56 [SV.c v,SV.c (fnW 57)] [] (fun r U=>r=.bool (!(xs.all bG))/\U=[]):=by
 refine aA [] ai ak Rz E hE [SV.c v,SV.c (fnW 57)] [] _ rfl rfl fun w X β hT=>?_
 have I1:=EN rfl (hv.of_old hT) hn hin
 refine .inr (.inr (.inr ⟨[],[],[_,_],[],_,I1,rfl,trivial,rfl,trivial,?_⟩))
 rintro r U ⟨⟨n,rfl,h1⟩,rfl⟩
 exact ⟨rfl,[],[],⟨by rw [<- h1];rfl,rfl⟩,trivial,rfl⟩
theorem Hj {E:Env} (hE:E.P=Tryz.prog) {y n:NeQ}:OwnC E 125 [SV.c (.agg y.A),SV.ptr 7000 0] [(7000,Blk.row 67 68 n.A)] (fun x U=>x=.bool (decide (y.ins=n.ins))/\U=[(7000,Blk.row 67 68 n.A)]):=by
 refine aA [] ai ak PK E hE [SV.c (.agg y.A),SV.ptr 7000 0] [(7000,Blk.row 67 68 n.A)] _ rfl rfl fun w X β hT=>?_
 have Y0:=y.g0
 have N0:=n.g0
 have YF:=y.fits
 generalize y.A=YA at *
 generalize n.A=NA at *
 refine ⟨YF.size,_,Y0,_,N0,?_⟩
 refine ⟨[(7000,Blk.row 67 68 NA)],[],⟨?_,rfl⟩,⟨rfl,trivial⟩,rfl⟩
 rw [<- dn];rfl
theorem zM {xs:List NeQ} {i:Nat} {y n:NeQ} (hy:xs[i]? = some y) (h:decide (y.ins=n.ins)=true):(xs.any fun m=>decide (m.ins=n.ins))=true:=by
 rw [List.any_eq_true]
 exact ⟨y,List.mem_of_getElem? hy,h⟩
theorem vP {xs:List NeQ} {n:NeQ} (h:∀ (j:Nat) y,xs[j]? = some y->decide (y.ins=n.ins)=false):(xs.any fun m=>decide (m.ins=n.ins))=false:=by
 rw [List.any_eq_false]
 intro x hx
 obtain ⟨j,hj⟩:=List.getElem?_of_mem hx
 rw [h j x hj];simp
theorem EQ {E:Env} (hE:E.P=Tryz.prog) {v:Value} {xs:List NeQ} {n:NeQ} {l:Nat} (hl:l=xs.length) (hv:Lst E v 68 l (cat NeQ.A xs)) (hn:xs.length<=2000000000000):OwnC E 186 [SV.c v,SV.clo 125 [7000]] [(7000,Blk.row 67 68 n.A)] (fun r U=>(∃ k:Int,r=.int .i64 k/\decide (k >= 0)=(xs.any fun m=>decide (m.ins=n.ins)))/\U=[(7000,Blk.row 67 68 n.A)]):=by
 subst hl
 refine aA [] ai ak OJ E hE [SV.c v,SV.clo 125 [7000]] [(7000,Blk.row 67 68 n.A)] _ rfl rfl fun w X β hT=>?_
 obtain ⟨a,cap,rfl,hc,h4⟩:=(hv.of_old hT).shape
 have hE2:(aT Tryz.prog tt Tryz.f186.ntmps w X (aF [(7000,Blk.row 67 68 n.A)] β)).toEnv.P=Tryz.prog:=rfl
 refine ⟨_,fun w' _=>al Tryz.underlying36 w',?_⟩
 refine ⟨fun q f m=>∃ (i:Nat),q=xs.length - i/\i<=xs.length/\(∀ (j:Nat) y,j < i->xs[j]? = some y->decide (y.ins=n.ins)=false)/\f=[(0,SV.c (.slice a xs.length cap)),(1,SV.clo 125 [7000]),(6,SV.c (.slice a xs.length cap)),(7,SV.c (.int .i64 (xs.length:Nat))),(8,SV.c (.int .i64 (i:Nat)))]/\m=[(7000,Blk.row 67 68 n.A)],xs.length,⟨_,_,⟨0,rfl,by omega,fun j y h=>by omega,rfl,rfl⟩,⟨rfl,rfl,rfl,rfl,rfl,trivial⟩,⟨rfl,trivial⟩,rfl⟩,?_⟩
 rintro q f m ⟨i,rfl,hi,hok,rfl,rfl⟩
 refine ⟨fun h=>?_,fun h=>?_⟩
 ·have h:i < xs.length:=by have:=af h;omega
  obtain ⟨b,o,rfl,h5⟩:=h4 (by omega)
  obtain ⟨y,hy⟩:∃ y,xs[i]? = some y:=⟨_,List.getElem?_eq_getElem h⟩
  have hE':VOk (aT Tryz.prog tt Tryz.f186.ntmps w X (aF [(7000,Blk.row 67 68 n.A)] β)):=ai
  have L1:=bd hE' h5 NeQ.size hy (ty:=67) (ti:=lQ) rfl rfl rfl (p:=o+(i:Int).toNat*68) rfl
  have K1:=Hj hE2 (y:=y) (n:=n)
  generalize hY:y.A=YA at L1 K1
  generalize n.A=NA at *
  refine ⟨by omega,by omega,.inl ⟨_,L1,.inr (.inr (.inl ⟨[],[_,_],[_],_,[_],K1,rfl,⟨rfl,trivial⟩,rfl,rfl,fun c=>?_,fun c=>?_⟩))⟩⟩
  ·have c:decide (y.ins=n.ins)=true:=c
   exact ⟨[(7000,Blk.row 67 68 NA)],[],⟨⟨(i:Nat),rfl,by rw [zM hy c];simp⟩,rfl⟩,⟨rfl,trivial⟩,rfl⟩
  ·have c:decide (y.ins=n.ins)=false:=c
   refine ⟨xs.length - (i+1),_,_,by omega,⟨i+1,rfl,by omega,fun j z hj hz=>?_,rfl,rfl⟩,⟨rfl,rfl,rfl,rfl,am (ar (by omega)),trivial⟩,⟨rfl,trivial⟩,rfl⟩
   rcases Nat.lt_or_ge j i with h9 | h9
   ·exact hok j z h9 hz
   ·have:j=i:=by omega
    subst this
    rw [hy] at hz;cases hz
    exact c
 ·have h:i=xs.length:=by have:=ag h;omega
  subst h
  have hg:=vP (n:=n) fun j y hy=>hok j y (List.getElem?_eq_some_iff.1 hy).1 hy
  exact ⟨[(7000,Blk.row 67 68 n.A)],[],⟨⟨-1,rfl,by rw [hg];rfl⟩,rfl⟩,⟨rfl,trivial⟩,rfl⟩
theorem wQ {E:Env} (hE:E.P=Tryz.prog) {v:Value} {xs:List NeQ} {n:NeQ} {l:Nat} (hl:l=xs.length) (hv:Lst E v 68 l (cat NeQ.A xs)) (hn:xs.length<=2000000000000):OwnC E 124 [SV.c v,SV.clo 125 [7000]] [(7000,Blk.row 67 68 n.A)] (fun r U=>r=.bool (xs.any fun m=>decide (m.ins=n.ins))/\U=[(7000,Blk.row 67 68 n.A)]):=by
 refine aA [] ai ak PM E hE [SV.c v,SV.clo 125 [7000]] [(7000,Blk.row 67 68 n.A)] _ rfl rfl fun w X β hT=>?_
 have I1:=EQ rfl (n:=n) hl (hv.of_old hT) hn
 refine .inr (.inr (.inr ⟨[],[],[_,_],[_],_,I1,rfl,⟨rfl,trivial⟩,rfl,trivial,?_⟩))
 rintro r U ⟨⟨k,rfl,h1⟩,rfl⟩
 exact ⟨rfl,[(7000,Blk.row 67 68 n.A)],[],⟨by rw [<- h1];rfl,rfl⟩,⟨rfl,trivial⟩,rfl⟩
theorem FO (a b:Int):decide (dp a b > 0)=decide (b < a):=by
 rw [decide_eq_decide];unfold dp;split
 ·omega
 ·split<;>omega
theorem By {r:RQ} (hb:(RQ.of 1000000000 1).ok=true):cZ r (-1000000000) 1000000000=!(((fF r).2 != 0) || decide ((if (fF r).1.ok && (RQ.of 1000000000 1).ok then dp ((fF r).1.p*(RQ.of 1000000000 1).q) ((RQ.of 1000000000 1).p*(fF r).1.q) else 0) > 0)):=by
 rw [hb,Bool.and_true,RQ.of_p,RQ.of_q]
 cases hk:r.ok
 ·unfold cZ fF;rw [hk];rfl
 ·obtain ⟨k1,k2,k3,k4,k5⟩:=RQ.ok_bits hk
  have e:fF r=(.of (r.p.natAbs:Int) r.q,0):=by unfold fF;rw [if_pos hk]
  have hok:(RQ.of (r.p.natAbs:Int) r.q).ok=true:=RQ.ok_of (by simpa using k1) k2 k3 (by show Nat.gcd (r.p.natAbs:Int).natAbs r.q.natAbs=1;rw [Int.natAbs_natCast];exact k4)
  rw [e]
  simp only [hok,if_true]
  rw [RQ.of_p,RQ.of_q,FO,cZ,hk,Bool.true_and,<- Bool.decide_and,Bool.eq_iff_iff]
  simp
  omega
theorem D8 {E:Env} (hE:E.P=Tryz.prog) {v:Value} {xs:List NeQ} (hv:Lst E v 68 xs.length (cat NeQ.A xs)) (hn:xs.length<=2000000000000) (hin:∀ y∈xs,y.In):OwnC E 55 [SV.c v] [] (fun r U=>r=.bool (fw xs)/\U=[]):=by
 refine aA [] ai ak RB E hE [SV.c v] [] _ rfl rfl fun w X β hT=>?_
 have hv':=hv.of_old hT
 obtain ⟨a,cap,rfl,hc,h4⟩:=id hv'.shape
 have hE2:(aT Tryz.prog tt Tryz.f55.ntmps w X (aF [] β)).toEnv.P=Tryz.prog:=rfl
 have W1:=d8 (n:=1000000000) (by decide) (by decide)
 have hb9:(RQ.of 1000000000 1).ok=true:=of_ok (by unfold Bd;decide)
 refine ⟨_,fun w' _=>al Tryz.underlying36 w',?_⟩
 refine ⟨fun q f m=>∃ (i:Nat),q=xs.length - i/\i<=xs.length/\(∀ j,j < i->qt xs j=true)/\f=[(0,SV.c (.slice a xs.length cap)),(9,SV.c (.slice a xs.length cap)),(10,SV.c (.int .i64 (xs.length:Nat))),(11,SV.c (.int .i64 (i:Nat)))]/\m=[],xs.length,⟨_,_,⟨0,rfl,by omega,fun j h=>by omega,rfl,rfl⟩,⟨rfl,rfl,rfl,rfl,trivial⟩,trivial,rfl⟩,?_⟩
 rintro q f m ⟨i,rfl,hi,hok,rfl,rfl⟩
 refine ⟨fun h=>?_,fun h=>?_⟩
 ·have h:i < xs.length:=by have:=af h;omega
  obtain ⟨b,o,rfl,h5⟩:=h4 (by omega)
  obtain ⟨y,hy⟩:∃ y,xs[i]? = some y:=⟨_,List.getElem?_eq_getElem h⟩
  have hyi:=hin y (List.mem_of_getElem? hy)
  have hE':VOk (aT Tryz.prog tt Tryz.f55.ntmps w X (aF [] β)):=ai
  have L1:=bd hE' h5 NeQ.size hy (ty:=67) (ti:=lQ) rfl rfl rfl (p:=o+(i:Int).toNat*68) rfl
  have A1:=Gu hyi.price
  have C1:=oz (uF hyi.price) (s:=RQ.of 1000000000 1) (RQ.of_in (dP (n:=1000000000) (by decide) (by decide)) (by decide))
  have I1:=rb y.ins 1 12 true hyi.ins
  have ei:(cK true y.ins && (decide ((1:Int)<=y.ins.length) && decide ((y.ins.length:Int)<=12)))=bM y.ins:=by
   unfold bM
   congr 2
   ·rw [decide_eq_decide];omega
   ·rw [decide_eq_decide];omega
  rw [ei] at I1
  have K1:=jJ y.cur hyi.cur
  have S1:=mK hE' Tryz.underlying36 (j:=lQ) rfl (a:=some ⟨b,o,none⟩) (n:=xs.length) (cap:=cap) (k:=.i64) i rfl (by omega)
  have hlt:(xs.take i).length=i:=by rw [List.length_take,Nat.min_eq_left (by omega)]
  have T1:=Lst.take hv' (i:=i) (by omega) (ny NeQ.size xs i (by omega))
  have H1:=wQ hE2 (n:=y) (xs:=xs.take i) hlt.symm T1 (by omega)
  have hp:=By (r:=y.price) hb9
  have hs:qt xs i=((cZ y.price (-1000000000) 1000000000 && (bM y.ins && aD y.cur)) && !((xs.take i).any fun m=>decide (m.ins=y.ins))):=by unfold qt;rw [hy]
  have Y0:=y.g0
  have Y1:=y.g1
  have YP:=y.gprice
  have YF:=y.fits
  have AF:=(fF y.price).1.A_fits
  have WF:=(RQ.of 1000000000 1).A_fits
  have bad:qt xs i=false->fw xs=false:=fun e=>by unfold fw;rw [fi h e];rfl
  generalize hN1:qt xs i=N1 at bad hs
  generalize hAQ:fF y.price=AQ at *
  obtain ⟨aq,ae⟩:=AQ
  generalize (if (aq,ae).1.ok && (RQ.of 1000000000 1).ok then dp ((aq,ae).1.p*(RQ.of 1000000000 1).q) ((RQ.of 1000000000 1).p*(aq,ae).1.q) else 0)=HI at *
  generalize y.A=YA at *
  have nf:∀ {p:Prop},true=false->p:=fun h=>by cases h
  refine ⟨by omega,by omega,.inl ⟨_,L1,YF,?_⟩⟩
  refine ⟨by decide,_,YP,.inl ⟨_,A1,AF,?_⟩⟩
  refine .inl ⟨_,W1,.inl ⟨_,C1,by kernel_rfl,?_⟩⟩
  refine ⟨fun c1=>?_,fun c1=>?_⟩
  case refine_2 =>
   have c1:(ae != 0)=true:=c1
   exact ⟨nf,fun _=>⟨nf,fun _=>⟨fun _=>⟨[],[],⟨bv (bad (by rw [hs,hp,c1];rfl)).symm,rfl⟩,trivial,rfl⟩,nf⟩⟩⟩
  have c1:(ae != 0)=false:=c1
  refine ⟨fun c2=>?_,fun c2=>?_⟩
  case refine_2 =>
   have c2:decide (HI > 0)=true:=c2
   exact ⟨nf,fun _=>⟨fun _=>⟨[],[],⟨bv (bad (by rw [hs,hp,c2];simp)).symm,rfl⟩,trivial,rfl⟩,nf⟩⟩
  have c2:decide (HI > 0)=false:=c2
  refine ⟨_,Y0,.inl ⟨_,I1,fun c3=>?_,fun c3=>?_⟩⟩
  case refine_2 =>
   have c3:bM y.ins=false:=ba c3
   exact ⟨fun _=>⟨[],[],⟨bv (bad (by rw [hs,c3];simp)).symm,rfl⟩,trivial,rfl⟩,nf⟩
  have c3:bM y.ins=true:=bc c3
  refine ⟨_,Y1,.inl ⟨_,K1,fun c4=>?_,fun c4=>?_⟩⟩
  ·have c4:aD y.cur=false:=ba c4
   exact ⟨[],[],⟨bv (bad (by rw [hs,c4];simp)).symm,rfl⟩,trivial,rfl⟩
  have c4:aD y.cur=true:=bc c4
  refine ⟨_,S1,.inr (.inr (.inl ⟨[(7000,4)],[_,_],[_],_,[_],H1,rfl,⟨rfl,trivial⟩,rfl,rfl,fun c5=>?_,fun c5=>?_⟩))⟩
  ·have c5:((xs.take i).any fun m=>decide (m.ins=y.ins))=true:=c5
   exact ⟨[],[],⟨bv (bad (by rw [hs,c5];simp)).symm,rfl⟩,trivial,rfl⟩
  have c5:((xs.take i).any fun m=>decide (m.ins=y.ins))=false:=c5
  have hg:N1=true:=by rw [hs,hp,c1,c2,c3,c4,c5];rfl
  refine ⟨xs.length - (i+1),_,_,by omega,⟨i+1,rfl,by omega,fun j hj=>?_,rfl,rfl⟩,⟨rfl,rfl,rfl,am (ar (by omega)),trivial⟩,trivial,rfl⟩
  rcases Nat.lt_or_ge j i with h9 | h9
  ·exact hok j h9
  ·have:j=i:=by omega
   subst this
   rw [hN1];exact hg
 ·have h:i=xs.length:=by have:=ag h;omega
  subst h
  refine ⟨_,fun w' _=>al Tryz.underlying36 w',?_⟩
  refine ⟨[],[],⟨bv ?_,rfl⟩,trivial,rfl⟩
  unfold fw
  rw [fW hok,Bool.true_and,decide_eq_decide]
  omega
end Go.Proofs.YtklehfchdoikeaaGreatDoor
namespace Go.Proofs.YtklehfchdoikeaaGreatDoor
open Go Go.RowKit Go.SX
section
variable {α:Type} {g:α->Array Value} {s:Nat}
theorem If (hg:∀ x,(g x).size=s) {l:List α} {i:Nat} {x:α} (h:l[i]? = some x) {j n:Nat} (hj:j+n<=s):(cat g l).extract (i*s+j) (i*s+j+n)=(g x).extract j (j+n):=by
 have hlt:=(List.getElem?_eq_some_iff.1 h).1
 have hb:(i+1)*s<=l.length*s:=Nat.mul_le_mul_right s hlt
 rw [Nat.add_mul,Nat.one_mul] at hb
 apply Array.ext_getElem?
 intro k
 rw [Array.getElem?_extract,Array.getElem?_extract,Go.SX.cat_size hg,hg]
 by_cases hk:k < n
 ·rw [if_pos (by omega),if_pos (by omega),Nat.add_assoc,fC hg l i x (j+k) h (by omega)]
 ·rw [if_neg (by omega),if_neg (by omega)]
theorem zZ {E:VE} (hE:VOk E) {b o i j n:Nat} {xs:List α} {x:α} {ty:TypeId} {ti:TI} {B:Array Value} (h:∀ w,OldW E.toEnv w->∀ j u,(cat g xs)[j]? = some u->w.cell? ⟨b,o+j,none⟩=some u) (hg:∀ x,(g x).size=s) (hx:xs[i]? = some x) (hB:(g x).extract j (j+n)=B) (hj:j+n<=s) (hi:E.tt ty=some ti) (hr:ti.row=true) (hs:ti.size=n) {p:Nat} (hp:p=o+(i*s+j)):bB E.toEnv (Instr.loadAt ty (.pointer (some ⟨b,p,none⟩))) (.agg B):=by
 have hlt:=(List.getElem?_eq_some_iff.1 hx).1
 have hb:(i+1)*s<=xs.length*s:=Nat.mul_le_mul_right s hlt
 rw [Nat.add_mul,Nat.one_mul] at hb
 have:=t6 hE (off:=i*s+j) h hi hr (by rw [Go.SX.cat_size hg,hs];omega) hp
 rw [hs,If hg hx hj,hB] at this
 exact this
end
theorem lZ (o i s:Nat) (hs:s≠1):aL o ((i:Nat):Int) s=o+i*s:=by
 unfold aL
 split
 ·exact absurd rfl hs
 ·rfl
theorem D9 {E:Env} (hE:E.P=Tryz.prog) {v:Value} {xs:List NeQ} (hv:Lst E v 68 xs.length (cat NeQ.A xs)) (hn:xs.length<=2000000000000) (hin:∀ y∈xs,y.In):OwnC E 64 [SV.c v] [] (fun r U=>r=.bool (fw xs)/\U=[]):=by
 refine aA [] ai ak Rs E hE [SV.c v] [] _ rfl rfl fun w X β hT=>?_
 have hv':=hv.of_old hT
 obtain ⟨a,cap,rfl,hc,h4⟩:=id hv'.shape
 have hE':VOk (aT Tryz.prog tt Tryz.f64.ntmps w X (aF [] β)):=ai
 refine ⟨fun q f m=>∃ (i:Nat),q=xs.length - i/\i<=xs.length/\(∀ j,j < i->qt xs j=true)/\f=[(0,SV.c (.slice a xs.length cap)),(3,SV.c (.int .i64 (i:Nat)))]/\m=[],xs.length,⟨_,_,⟨0,rfl,by omega,fun j h=>by omega,rfl,rfl⟩,⟨rfl,rfl,trivial⟩,trivial,rfl⟩,?_⟩
 rintro q f m ⟨i,rfl,hi,hok,rfl,rfl⟩
 refine ⟨_,fun w' _=>al Tryz.underlying36 w',fun h=>?_,fun h=>?_⟩
 ·have h:i < xs.length:=by have:=af h;omega
  obtain ⟨b,o,rfl,h5⟩:=h4 (by omega)
  obtain ⟨y,hy⟩:∃ y,xs[i]? = some y:=⟨_,List.getElem?_eq_getElem h⟩
  have hyi:=hin y (List.mem_of_getElem? hy)
  have eo:aL o ((i:Nat):Int) lQ.size=o+i*68:=lZ o i 68 (by decide)
  have L0:=aW hE' h5 NeQ.size hy y.g0 (ty:=9) (ti:=ti9) rfl rfl (p:=aL o ((i:Nat):Int) lQ.size+0) (by rw [eo])
  have L1:=aW hE' h5 NeQ.size hy y.g1 (ty:=9) (ti:=ti9) rfl rfl (p:=aL o ((i:Nat):Int) lQ.size+1) (by rw [eo])
  have L2:=zZ hE' h5 NeQ.size hy y.gprice (by decide) (ty:=33) (ti:=bZ) rfl rfl rfl (p:=aL o ((i:Nat):Int) lQ.size+2) (by rw [eo,Nat.add_assoc])
  have I1:=tK y.ins hyi.ins
  have K1:=pE y.cur
  have B1:=jo hyi.price (lo:=-1000000000) (hi:=1000000000) (by decide) (by decide) (by decide) (by decide)
  have hs:qt xs i=((cZ y.price (-1000000000) 1000000000 && (bM y.ins && aD y.cur)) && !((xs.take i).any fun m=>decide (m.ins=y.ins))):=by unfold qt;rw [hy]
  have bad:qt xs i=false->fw xs=false:=fun e=>by unfold fw;rw [fi h e];rfl
  generalize hN1:qt xs i=N1 at bad hs
  have nf:∀ {p:Prop},true=false->p:=fun h=>by cases h
  refine ⟨by omega,by omega,.inl ⟨_,L0,.inl ⟨_,I1,fun c1=>?_,fun c1=>?_⟩⟩⟩
  case refine_2 =>
   have c1:bM y.ins=false:=ba c1
   exact ⟨nf,fun _=>⟨fun _=>⟨[],[],⟨bv (bad (by rw [hs,c1];simp)).symm,rfl⟩,trivial,rfl⟩,nf⟩⟩
  have c1:bM y.ins=true:=bc c1
  refine ⟨by omega,by omega,.inl ⟨_,L1,.inl ⟨_,K1,fun c2=>?_,fun c2=>?_⟩⟩⟩
  case refine_2 =>
   have c2:aD y.cur=false:=ba c2
   exact ⟨fun _=>⟨[],[],⟨bv (bad (by rw [hs,c2];simp)).symm,rfl⟩,trivial,rfl⟩,nf⟩
  have c2:aD y.cur=true:=bc c2
  refine ⟨by omega,by omega,.inl ⟨_,L2,.inl ⟨_,B1,fun c3=>?_,fun c3=>?_⟩⟩⟩
  ·have c3:cZ y.price (-1000000000) 1000000000=false:=ba c3
   exact ⟨[],[],⟨bv (bad (by rw [hs,c3];simp)).symm,rfl⟩,trivial,rfl⟩
  have c3:cZ y.price (-1000000000) 1000000000=true:=bc c3
  rw [c1,c2,c3,Bool.true_and,Bool.true_and] at hs
  refine ⟨fun q f m=>∃ (k:Nat),q=i - k/\k<=i/\(∀ (j:Nat) z,j < k->xs[j]? = some z->decide (z.ins=y.ins)=false)/\f=[(0,SV.c (.slice (some ⟨b,o,none⟩) xs.length cap)),(3,SV.c (.int .i64 (i:Nat))),(4,SV.c (.int .i64 (k:Nat)))]/\m=[],i,⟨_,_,⟨0,rfl,by omega,fun j z h=>by omega,rfl,rfl⟩,⟨rfl,rfl,rfl,trivial⟩,trivial,rfl⟩,?_⟩
  rintro q f m ⟨k,rfl,hk,hno,rfl,rfl⟩
  refine ⟨fun g=>?_,fun g=>?_⟩
  ·have g:k < i:=by have:=af g;omega
   obtain ⟨z,hz⟩:∃ z,xs[k]? = some z:=⟨_,List.getElem?_eq_getElem (by omega)⟩
   have ek:aL o ((k:Nat):Int) lQ.size=o+k*68:=lZ o k 68 (by decide)
   have M0:=aW hE' h5 NeQ.size hz z.g0 (ty:=9) (ti:=ti9) rfl rfl (p:=aL o ((k:Nat):Int) lQ.size+0) (by rw [ek])
   refine ⟨by omega,by omega,.inl ⟨_,M0,by omega,by omega,.inl ⟨_,L0,by kernel_rfl,fun c5=>?_,fun c5=>?_⟩⟩⟩
   ·have c5:decide (z.ins=y.ins)=true:=by rw [<- dn];exact c5
    refine ⟨[],[],⟨bv (bad ?_).symm,rfl⟩,trivial,rfl⟩
    rw [hs,zM (i:=k) (by rw [List.getElem?_take_of_lt g,hz]) c5];rfl
   ·have c5:decide (z.ins=y.ins)=false:=by rw [<- dn];exact c5
    refine ⟨i - (k+1),_,_,by omega,⟨k+1,rfl,by omega,fun j z' hj hz'=>?_,rfl,rfl⟩,⟨rfl,rfl,am (ar (by omega)),trivial⟩,trivial,rfl⟩
    rcases Nat.lt_or_ge j k with h9 | h9
    ·exact hno j z' h9 hz'
    ·have:j=k:=by omega
     subst this
     rw [hz] at hz';cases hz'
     exact c5
  ·have g:k=i:=by have:=ag g;omega
   subst g
   have hg:N1=true:=by
    rw [hs,vP fun j z hz=>?_];rfl
    have hj:j < k:=by
     have:=(List.getElem?_eq_some_iff.1 hz).1
     rw [List.length_take] at this;omega
    rw [List.getElem?_take_of_lt hj] at hz
    exact hno j z hj hz
   refine ⟨xs.length - (k+1),_,_,by omega,⟨k+1,rfl,by omega,fun j hj=>?_,rfl,rfl⟩,⟨rfl,am (ar (by omega)),trivial⟩,trivial,rfl⟩
   rcases Nat.lt_or_ge j k with h9 | h9
   ·exact hok j h9
   ·have:j=k:=by omega
    subst this
    rw [hN1];exact hg
 ·have h:i=xs.length:=by have:=ag h;omega
  subst h
  refine ⟨_,fun w' _=>al Tryz.underlying36 w',?_⟩
  refine ⟨[],[],⟨bv ?_,rfl⟩,trivial,rfl⟩
  unfold fw
  rw [fW hok,Bool.true_and,decide_eq_decide]
  omega
end Go.Proofs.YtklehfchdoikeaaGreatDoor
