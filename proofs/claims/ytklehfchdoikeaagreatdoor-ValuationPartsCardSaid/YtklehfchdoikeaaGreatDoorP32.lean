/- chapter 20: plain words. chapter 20: small walks. chapter 20; no condition. -/
import Derived.Test.YtklehfchdoikeaaGreatDoorP28
import Derived.Test.YtklehfchdoikeaaGreatDoorP31
set_option maxRecDepth 100000
set_option maxHeartbeats 4000000
namespace Go.Proofs.YtklehfchdoikeaaGreatDoor
open Go Go.RowKit Go.SX
/-! ### fees that accrue -/
structure AcQ where
 nm:Bs
 rate:RQ
 basis:Int
 exact:RQ
 paid:Int
 til:Int
def AcQ.A (a:AcQ):Array Value:=#[.string (S a.nm)]++(a.rate.A++(#[.int .i64 a.basis]++(a.exact.A++#[.int .i64 a.paid,.int .i64 a.til])))
structure AcQ.In (a:AcQ):Prop where
 nm:a.nm.length<=9223372036854775807
 rate:a.rate.In
 basis : -9223372036854775808<=a.basis/\a.basis<=9223372036854775807
 exact:a.exact.In
 paid : -9223372036854775808<=a.paid/\a.paid<=9223372036854775807
 til : -9223372036854775808<=a.til/\a.til<=9223372036854775807
theorem AcQ.size (a:AcQ):a.A.size=136:=by simp [AcQ.A,RQ.A_size]
theorem AcQ.fits (a:AcQ):Fits a.A 136:=⟨a.size,by
 rw [AcQ.A,Array.all_append,Array.all_append,Array.all_append,Array.all_append,a.rate.A_fits.one,a.exact.A_fits.one]
 simp [Value.oneCell']⟩
theorem AcQ.one (a:AcQ):a.A.all (·.oneCell')=true:=a.fits.one
theorem AcQ.g0 (a:AcQ):a.A[0]? = some (.string (S a.nm)):=by kernel_rfl
theorem AcQ.g67 (a:AcQ):a.A[67]? = some (.int .i64 a.basis):=by kernel_rfl
theorem AcQ.g134 (a:AcQ):a.A[134]? = some (.int .i64 a.paid):=by kernel_rfl
theorem AcQ.g135 (a:AcQ):a.A[135]? = some (.int .i64 a.til):=by kernel_rfl
theorem AcQ.grate (a:AcQ):a.A.extract 1 (1+66)=a.rate.A:=by kernel_rfl
theorem AcQ.gexact (a:AcQ):a.A.extract 68 (68+66)=a.exact.A:=by kernel_rfl
def o9 (nm:Bs) (rate:RQ) (basis:Int):Bool:=cQ nm && (j8 rate && (dE rate 0 1 && inB basis 1 4))
def jh (a:AcQ):Int:=(kR (f8 a.exact 0 6)).1
def cg (a:AcQ):Bool:=o9 a.nm a.rate a.basis && (dE a.exact 0 1000000000000000 && (decide (0<=a.paid) && (decide (a.paid<=jh a) && inB a.til 0 73048)))
def jN (a:AcQ):Int×Int:=if cg a then (jh a - a.paid,0) else (0,190)
/-! ### given prices -/
structure NeQ where
 ins:Bs
 cur:Bs
 price:RQ
def NeQ.A (n:NeQ):Array Value:=#[.string (S n.ins),.string (S n.cur)]++n.price.A
structure NeQ.In (n:NeQ):Prop where
 ins:n.ins.length<=9223372036854775807
 cur:n.cur.length<=9223372036854775807
 price:n.price.In
theorem NeQ.size (n:NeQ):n.A.size=68:=by simp [NeQ.A,RQ.A_size]
theorem NeQ.fits (n:NeQ):Fits n.A 68:=⟨n.size,by
 rw [NeQ.A,Array.all_append,n.price.A_fits.one]
 simp [Value.oneCell']⟩
theorem NeQ.one (n:NeQ):n.A.all (·.oneCell')=true:=n.fits.one
theorem NeQ.g0 (n:NeQ):n.A[0]? = some (.string (S n.ins)):=by kernel_rfl
theorem NeQ.g1 (n:NeQ):n.A[1]? = some (.string (S n.cur)):=by kernel_rfl
theorem NeQ.gprice (n:NeQ):n.A.extract 2 (2+66)=n.price.A:=by kernel_rfl
def Ag (l:List NeQ) (i:Nat):Bool:=match l[i]? with
 | some n=>(dE n.price (-1000000000) 1000000000 && (cB n.ins && aF n.cur)) && !((l.take i).any fun m=>decide (m.ins=n.ins))
 | none=>true
def jS (l:List NeQ):Bool:=cY (Ag l) l.length && decide (l.length<=8)
/-! ### lines -/
structure LnQ where
 kind:Int
 nm:Bs
 day:Int
 qty:Int
 price:RQ
 rate:RQ
 amt:Int
def LnQ.A (a:LnQ):Array Value:=#[.int .i64 a.kind,.string (S a.nm),.int .i64 a.day,.int .i64 a.qty]++(a.price.A++(a.rate.A++#[.int .i64 a.amt]))
structure LnQ.In (a:LnQ):Prop where
 nm:a.nm.length<=9223372036854775807
 kind : -9223372036854775808<=a.kind/\a.kind<=9223372036854775807
 day : -9223372036854775808<=a.day/\a.day<=9223372036854775807
 qty : -9223372036854775808<=a.qty/\a.qty<=9223372036854775807
 amt : -9223372036854775808<=a.amt/\a.amt<=9223372036854775807
 price:a.price.In
 rate:a.rate.In
theorem LnQ.size (a:LnQ):a.A.size=137:=by simp [LnQ.A,RQ.A_size]
theorem LnQ.fits (a:LnQ):Fits a.A 137:=⟨a.size,by
 rw [LnQ.A,Array.all_append,Array.all_append,Array.all_append,a.price.A_fits.one,a.rate.A_fits.one]
 simp [Value.oneCell']⟩
theorem LnQ.one (a:LnQ):a.A.all (·.oneCell')=true:=a.fits.one
theorem LnQ.g0 (a:LnQ):a.A[0]? = some (.int .i64 a.kind):=by kernel_rfl
theorem LnQ.g1 (a:LnQ):a.A[1]? = some (.string (S a.nm)):=by kernel_rfl
theorem LnQ.g2 (a:LnQ):a.A[2]? = some (.int .i64 a.day):=by kernel_rfl
theorem LnQ.g3 (a:LnQ):a.A[3]? = some (.int .i64 a.qty):=by kernel_rfl
theorem LnQ.g136 (a:LnQ):a.A[136]? = some (.int .i64 a.amt):=by kernel_rfl
theorem LnQ.gprice (a:LnQ):a.A.extract 4 (4+66)=a.price.A:=by kernel_rfl
theorem LnQ.grate (a:LnQ):a.A.extract 70 (70+66)=a.rate.A:=by kernel_rfl
def eL (n:Int) (p r:RQ):Int×Int:=if n < -1000000000000000\/n > 1000000000000000 then (0,33) else if p.ok && r.ok then (if (mkQ (p.p*r.p*n) (p.q*r.q)).2≠0 then (0,(mkQ (p.p*r.p*n) (p.q*r.q)).2) else kR (f8 (mkQ (p.p*r.p*n) (p.q*r.q)).1 2 6)) else (0,20)
/-! ### valuations -/
structure VQ where
 cur:Bs
 piv:Bs
 day:Int
 known:Int
 g:Led
 qs:List QC
 pol:PL
 nst:List NeQ
 acs:List AcQ
def VQ.A (v:VQ) (vh vc vp vq vs vn va:Value):Array Value:=#[.string (S v.cur),.string (S v.piv),.int .i64 v.day,.int .i64 v.known,vh,vc,vp,vq]++(v.pol.A vs++#[vn,va])
def cM (v:VQ):Bool:=(aF v.cur && (aF v.piv && (inB v.day 0 73048 && inB v.known 0 2147483647))) && ((bP v.g && (decide (cf v.qs=0) && (bc v.pol && jS v.nst))) && ((decide (v.acs.length<=16) && v.acs.all cg) && decide (v.g.h.length+v.g.c.length+v.g.p.length+v.acs.length<=512)))
inductive ItQ where
 | h (x:Bs×Int)
 | b (x:Ky×Int) (k:Int)
 | f (a:AcQ)
def aP (v:VQ):List ItQ:=v.g.h.map .h++(v.g.c.map (.b · 2)++(v.g.p.map (.b · 3)++v.acs.map .f))
def im:RQ:=(mkQ 1 100).1
def aU (v:VQ):ItQ->LnQ×Bs×Int
 | .h x=>match v.nst.find? (fun n=>decide (n.ins=x.1)) with
  | some n=>(⟨1,x.1,v.day,x.2,n.price,aG,0⟩,n.cur,0)
  | none=>(⟨1,x.1,(dt (bq v.qs v.known v.pol x.1 v.day) v.pol.tol).day,x.2,(dt (bq v.qs v.known v.pol x.1 v.day) v.pol.tol).price,aG,0⟩,(dt (bq v.qs v.known v.pol x.1 v.day) v.pol.tol).cur,oh v.qs v.known v.pol x.1 v.day)
 | .b x k=>(⟨k,x.1.1,if k=3 then x.1.2 else v.day,x.2,im,aG,0⟩,x.1.1,0)
 | .f a=>(⟨4,a.nm,a.til,-(jN a).1,im,aG,0⟩,v.cur,(jN a).2)
def bE (v:VQ) (i:ItQ):Except Int LnQ :=
 if (aU v i).2.2≠0 then .error (aU v i).2.2 else
 if (cv v.qs v.known v.pol v.day v.piv (aU v i).2.1 v.cur).2≠0 then .error (cv v.qs v.known v.pol v.day v.piv (aU v i).2.1 v.cur).2 else
 if (eL (aU v i).1.qty (aU v i).1.price (cv v.qs v.known v.pol v.day v.piv (aU v i).2.1 v.cur).1).2≠0 then .error (eL (aU v i).1.qty (aU v i).1.price (cv v.qs v.known v.pol v.day v.piv (aU v i).2.1 v.cur).1).2 else
 .ok { (aU v i).1 with rate:=(cv v.qs v.known v.pol v.day v.piv (aU v i).2.1 v.cur).1,amt:=(eL (aU v i).1.qty (aU v i).1.price (cv v.qs v.known v.pol v.day v.piv (aU v i).2.1 v.cur).1).1 }
def bz (v:VQ):List ItQ->Except Int (List LnQ)
 | []=>.ok []
 | i :: r=>match bE v i with
  | .error e=>.error e
  | .ok l=>match bz v r with
   | .error e=>.error e
   | .ok ls=>.ok (l :: ls)
def ba (l:List LnQ):Int:=(l.map LnQ.amt).sum
structure ShQ where
 cur:Bs
 day:Int
 known:Int
 lines:List LnQ
 total:Int
def ShQ.A (s:ShQ) (x:Value):Array Value:=#[.string (S s.cur),.int .i64 s.day,.int .i64 s.known,x,.int .i64 s.total]
def dJ:ShQ:=⟨[],0,0,[],0⟩
def aZ (v:VQ):ShQ×Int:=if cM v then (match bz v (aP v) with
 | .error e=>(dJ,e)
 | .ok ls=>if ba ls < -1000000000000000\/ba ls > 1000000000000000 then (dJ,33) else (⟨v.cur,v.day,v.known,ls,ba ls⟩,0)) else (dJ,201)
def iM (l:LnQ):Bool:=decide (eL l.qty l.price l.rate=(l.amt,0)) && (inB l.kind 1 4 && inB l.day 0 73048)
def eH (s:ShQ):Int:=if (aF s.cur && (inB s.day 0 73048 && (inB s.known 0 2147483647 && decide (s.lines.length<=512)))) && (s.lines.all iM && (decide (ba s.lines=s.total) && inB s.total (-1000000000000000) 1000000000000000)) then 0 else 200
/-! ### plain laws -/
theorem iw (v:VQ):∀ (a b:List ItQ),bz v (a++b)=match bz v a with
    | .error e=>.error e
    | .ok x=>match bz v b with
     | .error e=>.error e
     | .ok y=>.ok (x++y)
 | [],b=>by
  show bz v b=match bz v b with | .error e=>.error e | .ok y=>.ok ([]++y)
  cases bz v b<;>rfl
 | i :: a,b=>by
  rw [List.cons_append,bz,bz]
  cases bE v i with
  | error e=>rfl
  | ok l =>
   simp only
   rw [iw v a b]
   cases bz v a with
   | error e=>rfl
   | ok x =>
    simp only
    cases bz v b<;>rfl
theorem Ds {v:VQ} {l:List ItQ} {i:ItQ} {x:List LnQ} (h:bz v l=.ok x):bz v (l++[i])=match bE v i with
    | .error e=>.error e
    | .ok y=>.ok (x++[y]):=by
 rw [iw,h,bz,bz]
 cases bE v i<;>rfl
theorem Gg {v:VQ} {l r:List ItQ} {i:ItQ} {x:List LnQ} {e:Int} (h:bz v l=.ok x) (h2:bE v i=.error e):bz v (l++i :: r)=.error e:=by
 rw [iw,h,bz,h2]
theorem vV (x:Int×Int) : -1000000000000000<=(kR x).1/\(kR x).1<=1000000000000000:=by
 unfold kR
 split
 ·simp
 ·split
  ·simp
  ·simp only;omega
theorem lP (n:Int) (p r:RQ) : -1000000000000000<=(eL n p r).1/\(eL n p r).1<=1000000000000000:=by
 unfold eL
 split
 ·simp
 ·split
  ·split
   ·simp
   ·exact vV _
  ·simp
theorem uj (l:List LnQ) (x:LnQ):ba (l++[x])=ba l+x.amt:=by unfold ba;simp
theorem vH:∀ (l:List LnQ),(∀ x∈l,-1000000000000000<=x.amt/\x.amt<=1000000000000000)->-(1000000000000000*(l.length:Int))<=ba l/\ba l<=1000000000000000*(l.length:Int)
 | [],_=>by simp [ba]
 | x :: l,h=>by
  have h1:=h x (by simp)
  have h2:=vH l fun y hy=>h y (by simp [hy])
  have:ba (x :: l)=x.amt+ba l:=by simp [ba]
  rw [this,List.length_cons]
  omega
theorem qv {v:VQ} {i:ItQ} {l:LnQ} (h:bE v i=.ok l):(aU v i).2.2=0/\(cv v.qs v.known v.pol v.day v.piv (aU v i).2.1 v.cur).2=0/\eL l.qty l.price l.rate=(l.amt,0)/\l={ (aU v i).1 with rate:=(cv v.qs v.known v.pol v.day v.piv (aU v i).2.1 v.cur).1,amt:=l.amt }:=by
 unfold bE at h
 split at h
 ·cases h
 rename_i h1
 split at h
 ·cases h
 rename_i h2
 split at h
 ·cases h
 rename_i h3
 cases h
 refine ⟨Decidable.not_not.1 h1,Decidable.not_not.1 h2,?_,rfl⟩
 exact Prod.ext rfl (Decidable.not_not.1 h3)
theorem eX {v:VQ}:∀ {l:List ItQ} {x:List LnQ},bz v l=.ok x->x.length=l.length/\∀ y∈x,-1000000000000000<=y.amt/\y.amt<=1000000000000000
 | [],x,h=>by cases h;simp
 | i :: l,x,h=>by
  rw [bz] at h
  cases e:bE v i with
  | error e'=>rw [e] at h;cases h
  | ok y =>
   rw [e] at h
   simp only at h
   cases e2:bz v l with
   | error e'=>rw [e2] at h;cases h
   | ok z =>
    rw [e2] at h
    simp only [Except.ok.injEq] at h
    subst h
    obtain ⟨h1,h2⟩:=eX e2
    obtain ⟨-,-,h3,-⟩:=qv e
    refine ⟨by simp [h1],fun w hw=>?_⟩
    rcases List.mem_cons.1 hw with rfl | hw
    ·have:=lP w.qty w.price w.rate
     rw [h3] at this
     exact this
    ·exact h2 w hw
theorem tE (l:List UInt8) (lo hi:Int) (dg:Bool) (hl:l.length<=9223372036854775807):ay Tryz.prog 108 [SV.c (.string (S l)),SV.c (.int .i64 lo),SV.c (.int .i64 hi),SV.c (.bool dg)] (.bool (cz dg l && (decide (lo<=l.length) && decide ((l.length:Int)<=hi)))):=by
 refine al ai ak SQ _ _ rfl rfl fun w=>?_
 refine ⟨_,fun w _=>aH Tryz.underlying9 w,?_⟩
 refine ⟨fun q f m=>∃ i:Nat,q=l.length - i/\i<=l.length/\(∀ j,j < i->cX dg l j=true)/\f=[(0,SV.c (.string (S l))),(1,SV.c (.int .i64 lo)),(2,SV.c (.int .i64 hi)),(3,SV.c (.bool dg)),(11,SV.c (.int .i64 (l.length:Nat))),(12,SV.c (.int .i64 i))]/\m=[],l.length,⟨_,_,⟨0,rfl,Nat.zero_le _,fun j hj=>absurd hj (by omega),rfl,rfl⟩,⟨rfl,rfl,rfl,rfl,rfl,rfl,trivial⟩,trivial,rfl⟩,?_⟩
 rintro q f m ⟨i,rfl,hi1,hall,rfl,rfl⟩
 refine ⟨fun h=>?_,fun h=>?_⟩
 ·have h:i < l.length:=by have:=af h;omega
  have hx:=dO (E:=(iP Tryz.prog tt Tryz.f108.ntmps w).toEnv) Tryz.underlying9 (k:=.i64) i rfl h
  have hc:cX dg l i=((decide (65<=(l.getD i 0).toNat) && decide ((l.getD i 0).toNat<=90)) || (dg && !decide (i=0) && decide (48<=(l.getD i 0).toNat) && decide ((l.getD i 0).toNat<=57))):=rfl
  generalize (l.getD i 0).toNat=x at *
  have stop:cX dg l i=false->cW [.bool false]=.bool (cz dg l && (decide (lo<=l.length) && decide ((l.length:Int)<=hi))):=fun e=>by rw [de h e];rfl
  have hnext:cX dg l i=true->∀ j,j < i+1->cX dg l j=true:=fun e j hj=>by
   by_cases e2:j=i
   ·rw [e2];exact e
   ·exact hall j (by omega)
  refine ⟨_,hx,fun h1=>⟨_,hx,fun h2=>?_,fun h2=>?_⟩,fun h1=>⟨fun h2=>?_,nofun⟩⟩
  ·have h1:=ag h1
   have h2:=af h2
   have hlow:(decide (65<=x) && decide (x<=90))=false:=by rw [decide_eq_false (by omega:¬ x<=90),Bool.and_false]
   rw [hlow,Bool.false_or] at hc
   refine ⟨fun h3=>⟨fun h4=>⟨_,hx,fun h5=>⟨_,hx,fun h6=>⟨stop ?_,trivial⟩,fun h6=>?_⟩,fun h5=>⟨fun _=>⟨stop ?_,trivial⟩,nofun⟩⟩,fun h4=>⟨nofun,fun _=>⟨fun _=>⟨stop ?_,trivial⟩,nofun⟩⟩⟩,fun h3=>⟨nofun,fun _=>⟨nofun,fun _=>⟨fun _=>⟨stop ?_,trivial⟩,nofun⟩⟩⟩⟩
   ·have h6:=af h6
    rw [hc,decide_eq_false (by omega:¬ x<=57),Bool.and_false]
   ·have h3:dg=true:=bX h3
    have h4:¬ i=0:=by intro e;subst e;simp at h4
    have h5:=ag h5
    have h6:=ag h6
    exact ⟨l.length - (i+1),_,_,by omega,⟨i+1,rfl,by omega,hnext (by rw [hc,h3,decide_eq_false h4,decide_eq_true (by omega:48<=x),decide_eq_true (by omega:x<=57)];rfl),rfl,rfl⟩,⟨rfl,rfl,rfl,rfl,rfl,ar (by rw [i64_in (by omega)];rfl),trivial⟩,trivial,rfl⟩
   ·have h5:=af h5
    rw [hc,decide_eq_false (by omega:¬ 48<=x),Bool.and_false,Bool.false_and]
   ·have h4:i=0:=by have:(i:Int)=0:=by simpa using h4
                    omega
    rw [hc,decide_eq_true h4,Bool.not_true,Bool.and_false,Bool.false_and,Bool.false_and]
   ·have h3:dg=false:=bnt h3
    rw [hc,h3];rfl
  ·have h1:=ag h1
   have h2:=ag h2
   refine ⟨nofun,fun _=>?_⟩
   exact ⟨l.length - (i+1),_,_,by omega,⟨i+1,rfl,by omega,hnext (by rw [hc,decide_eq_true (by omega:65<=x),decide_eq_true (by omega:x<=90)];rfl),rfl,rfl⟩,⟨rfl,rfl,rfl,rfl,rfl,ar (by rw [i64_in (by omega)];rfl),trivial⟩,trivial,rfl⟩
  ·have h1:=af h1
   have hlow:(decide (65<=x) && decide (x<=90))=false:=by rw [decide_eq_false (by omega:¬ 65<=x),Bool.false_and]
   rw [hlow,Bool.false_or] at hc
   refine ⟨fun h3=>⟨fun h4=>⟨_,hx,fun h5=>⟨_,hx,fun h6=>⟨stop ?_,trivial⟩,fun h6=>?_⟩,fun h5=>⟨fun _=>⟨stop ?_,trivial⟩,nofun⟩⟩,fun h4=>⟨nofun,fun _=>⟨fun _=>⟨stop ?_,trivial⟩,nofun⟩⟩⟩,fun h3=>⟨nofun,fun _=>⟨nofun,fun _=>⟨fun _=>⟨stop ?_,trivial⟩,nofun⟩⟩⟩⟩
   ·have h6:=af h6
    rw [hc,decide_eq_false (by omega:¬ x<=57),Bool.and_false]
   ·have h3:dg=true:=bX h3
    have h4:¬ i=0:=by intro e;subst e;simp at h4
    have h5:=ag h5
    have h6:=ag h6
    exact ⟨l.length - (i+1),_,_,by omega,⟨i+1,rfl,by omega,hnext (by rw [hc,h3,decide_eq_false h4,decide_eq_true (by omega:48<=x),decide_eq_true (by omega:x<=57)];rfl),rfl,rfl⟩,⟨rfl,rfl,rfl,rfl,rfl,ar (by rw [i64_in (by omega)];rfl),trivial⟩,trivial,rfl⟩
   ·have h5:=af h5
    rw [hc,decide_eq_false (by omega:¬ 48<=x),Bool.and_false,Bool.false_and]
   ·have h4:i=0:=by have:(i:Int)=0:=by simpa using h4
                    omega
    rw [hc,decide_eq_true h4,Bool.not_true,Bool.and_false,Bool.false_and,Bool.false_and]
   ·have h3:dg=false:=bnt h3
    rw [hc,h3];rfl
 ·have h:i=l.length:=by have:=ag h;omega
  subst h
  rw [fO hall,Bool.true_and]
  refine ⟨_,fun w _=>aH Tryz.underlying9 w,fun h2=>⟨_,fun w _=>aH Tryz.underlying9 w,bv ?_,trivial⟩,fun h2=>⟨bv ?_,trivial⟩⟩
  ·rw [decide_eq_true (af h2:lo<=(l.length:Int)),Bool.true_and]
  ·rw [decide_eq_false (ag h2:¬ lo<=(l.length:Int)),Bool.false_and]
theorem jI (l:List UInt8) (hl:l.length<=9223372036854775807):ay Tryz.prog 51 [SV.c (.string (S l))] (.bool (aF l)):=by
 refine al ai ak UC _ _ rfl rfl fun w=>?_
 exact .inl ⟨_,tE l 3 3 false hl,rfl,trivial⟩
theorem eO (n lo hi:Int):ay Tryz.prog 45 [SV.c (.int .i64 n),SV.c (.int .i64 lo),SV.c (.int .i64 hi)] (.bool (inB n lo hi)):=by
 refine al ai ak UD _ _ rfl rfl fun w=>?_
 refine ⟨fun c=>⟨bv ?_,trivial⟩,fun c=>⟨bv ?_,trivial⟩⟩
 ·have c:=af (show decide (n >= lo)=true from c)
  unfold inB
  rw [decide_eq_true (show lo<=n by omega),Bool.true_and]
 ·have c:=ag (show decide (n >= lo)=false from c)
  unfold inB
  rw [decide_eq_false (show ¬ lo<=n by omega),Bool.false_and]
theorem uu {r:RQ} (hr:r.In):ay Tryz.prog 95 [SV.c (.agg r.A)] (.int .i64 (kR (f8 r 0 6)).1):=by
 refine al ai ak T5 _ _ rfl rfl fun w=>?_
 exact ⟨r.A_size,.inl ⟨_,sD hr 0 6,rfl,trivial⟩⟩
theorem qB {A B:Array Value} {x y:Int} (hA:IsI A x) (hB:IsI B y) (hl:(x*y).natAbs < BB ^ 32):ay Tryz.prog 102 [SV.c (.agg A),SV.c (.agg B)] (.agg (eA (x*y))):=by
 refine al ai ak SU _ _ rfl rfl fun w=>?_
 have h:=GI hA hB
 rw [eI,if_pos hl] at h
 exact ⟨hA.size,hB.size,.inl ⟨_,h,am _,am _,rfl,trivial⟩⟩
theorem vg {r:RQ} (hr:r.In) {n:Int} (hn:Bd 60 n) (hn1 : -9223372036854775808<=n/\n<=9223372036854775807):ay Tryz.prog 128 [SV.c (.agg r.A),SV.c (.int .i64 n)] (.bool (dE r 0 n)):=by
 refine al ai ak Sq _ _ rfl rfl fun w=>?_
 have C1:=qW hr (s:=RQ.of n 1) (RQ.of_in (hS (n:=n) hn1.1 hn1.2) (by decide))
 have S1:=BG hr
 have ho:=of_ok hn
 rw [ho,Bool.and_true,RQ.of_p,RQ.of_q] at C1
 have W1:=dK hn1.1 hn1.2
 have hb:dE r 0 n=(r.ok && (decide (sgn r.p >= 0) && decide (eK (r.p*1) (n*r.q)<=0))):=by
  unfold dE
  rw [FW,CG,Int.zero_mul,Int.mul_one]
 rw [hb]
 have RF:=r.A_size
 have NF:=(RQ.of n 1).A_fits
 generalize r.A=RA at *
 refine ⟨RF,.inl ⟨_,S1,.inl ⟨_,W1,.inl ⟨_,C1,by kernel_rfl,?_⟩⟩⟩⟩
 cases hk:r.ok
 ·exact ⟨fun c=>absurd c (by decide),fun _=>⟨fun c=>absurd c (by decide),fun _=>⟨rfl,trivial⟩⟩⟩
 ·refine ⟨fun _=>⟨fun c=>?_,fun c=>?_⟩,fun c=>absurd c (by decide)⟩
  ·have c:decide (sgn r.p >= 0)=true:=c
   exact ⟨bv (by rw [c];rfl),trivial⟩
  ·have c:decide (sgn r.p >= 0)=false:=c
   exact ⟨bv (by rw [c];rfl),trivial⟩
def zp (b:Int):List UInt8:=if b=1 then [97,99,116,51,54,48] else if b=2 then [97,99,116,51,54,53] else if b=3 then [97,99,116,97,99,116] else if b=4 then [116,104,105,114,116,121,51,54,48] else []
def mz:Array Value:=#[.string (S [97,99,116,51,54,48]),.string (S [97,99,116,51,54,53]),.string (S [97,99,116,97,99,116]),.string (S [116,104,105,114,116,121,51,54,48])]
theorem I6:ay Tryz.prog 236 [] (.agg mz):=by
 refine al ai ak QP _ _ rfl rfl fun w=>?_
 exact ⟨mz,by kernel_rfl,⟨rfl,by simp [mz,Value.oneCell']⟩,rfl,trivial⟩
theorem Ge {E:Env} (hE:E.P=Tryz.prog) {k:IntKind} {x:Int} {i:Nat} (hx:x=(i:Nat)) {s:List UInt8} (h:mz[i]? = some (.string (S s))):bH E (Instr.index 254 (.agg mz) (.int k x)) (.string (S s)):=by
 subst hx
 intro w _
 have hi:i < 4:=by
  have:=(Array.getElem?_eq_some_iff.1 h).1
  exact this
 have hc:(((i:Nat):Int):Int) < 4:=by omega
 have hp:=run_part_plain (P:=E.P) (e:=9) (by rw [hE];kernel_rfl) (w:=w) (xs:=mz) (off:=i) h
 have hsz:(sizeOf 9).run E.P w=.ok 1 w:=by rw [hE];exact Go.SX.run_sizeOf (P:=Tryz.prog) (ty:=9) (i:=ti9) (ai _ _ rfl) w
 simp only [Instr.index,asIntOf,Sem.run_bind,Sem.run_pure,Result.andThen_ok,run_underlying (show E.P.underlying 254=_ by rw [hE];exact Tryz.underlying254)]
 rw [if_pos ⟨by omega,hc⟩]
 simp only [Sem.run_bind,hsz,Result.andThen_ok,Int.toNat_natCast,Nat.mul_one,hp]
theorem HL {n:Int} (hn : -9223372036854775808<=n/\n<=9223372036854775807):ay Tryz.prog 187 [SV.c (.int .i64 n)] (.tuple #[.string (S (zp n)),.int .i64 (if inB n 1 4 then 0 else 60)]):=by
 refine al ai ak Rp _ _ rfl rfl fun w=>?_
 have bad:¬ (1<=n/\n<=4)->(Value.tuple #[.string (S []),.int .i64 60])=.tuple #[.string (S (zp n)),.int .i64 (if inB n 1 4 then 0 else 60)]:=fun h=>by
  have e1:inB n 1 4=false:=by unfold inB;rw [<- Bool.decide_and,decide_eq_false h]
  have e2:zp n=[]:=by unfold zp;rw [if_neg (by omega),if_neg (by omega),if_neg (by omega),if_neg (by omega)]
  rw [e1,e2];rfl
 refine ⟨fun c=>⟨fun c2=>?_,fun c2=>?_⟩,fun c=>?_⟩
 ·have c:=ag (show decide (n < 1)=false from c)
  have c2:=af (show decide (n > 4)=true from c2)
  exact ⟨bad (by omega),trivial⟩
 ·have c:=ag (show decide (n < 1)=false from c)
  have c2:=ag (show decide (n > 4)=false from c2)
  have e1:inB n 1 4=true:=by unfold inB;rw [<- Bool.decide_and,decide_eq_true (by omega)]
  have e0:IntKind.i64.wrap (n - 1)=(((n - 1).toNat:Nat):Int):=by rw [i64_in (by omega)];omega
  have key:mz[(n - 1).toNat]? = some (.string (S (zp n))):=by
   have h4:n=1\/n=2\/n=3\/n=4:=by omega
   rcases h4 with rfl | rfl | rfl | rfl<;>rfl
  refine .inl ⟨_,I6,_,Ge rfl e0 key,?_⟩
  rw [e1]
  exact ⟨rfl,trivial⟩
 ·have c:=af (show decide (n < 1)=true from c)
  exact ⟨fun _=>⟨bad (by omega),trivial⟩,fun h=>absurd h (by decide)⟩
def wA (nm:Bs) (rate:RQ) (basis:Int):Array Value:=#[.string (S nm)]++(rate.A++#[.int .i64 basis])
theorem El (nm:Bs) (rate:RQ) (basis:Int):Fits (wA nm rate basis) 68:=⟨by simp [wA,RQ.A_size],by
 rw [wA,Array.all_append,Array.all_append,rate.A_fits.one]
 simp [Value.oneCell']⟩
theorem Nq (nm:Bs) (rate:RQ) (basis:Int):(wA nm rate basis)[0]? = some (.string (S nm)):=by kernel_rfl
theorem Np (nm:Bs) (rate:RQ) (basis:Int):(wA nm rate basis).extract 1 (1+66)=rate.A:=by kernel_rfl
theorem No (nm:Bs) (rate:RQ) (basis:Int):(wA nm rate basis)[67]? = some (.int .i64 basis):=by kernel_rfl
theorem HY (nm:Bs) (rate:RQ) (basis:Int) {pl:List (Nat×Nat)} (hpl:pl=[(0,1),(1,66),(67,1)]):Instr.fill (fun k=>pl[k]?) FC.zero [(0,.string (S nm)),(1,.agg rate.A),(2,.int .i64 basis)]=some (wA nm rate basis):=by
 subst hpl;kernel_rfl
def tQ:AcQ:=⟨[],aG,0,aG,0,0⟩
theorem acZ:tQ.A=iY.zero:=by kernel_rfl
theorem H3 (nm:Bs) (rate:RQ) (basis:Int) {pl:List (Nat×Nat)} (hpl:pl=[(0,1),(1,66),(67,1),(68,66),(134,1),(135,1)]):Instr.fill (fun k=>pl[k]?) iY.zero [(0,.string (S nm)),(1,.agg rate.A),(2,.int .i64 basis)]=some (AcQ.A ⟨nm,rate,basis,aG,0,0⟩):=by
 subst hpl;kernel_rfl
theorem H2 (nm:Bs) (rate:RQ) (basis day:Int) (x:RQ) {pl:List (Nat×Nat)} (hpl:pl=[(0,1),(1,66),(67,1),(68,66),(134,1),(135,1)]):Instr.fill (fun k=>pl[k]?) iY.zero [(0,.string (S nm)),(1,.agg rate.A),(2,.int .i64 basis),(3,.agg x.A),(5,.int .i64 day)]=some (AcQ.A ⟨nm,rate,basis,x,0,day⟩):=by
 subst hpl;kernel_rfl
theorem ja {P A Q B:Array Value} {off:Nat} (ho:off=P.size) (h:B.size=A.size):aM (P++(A++Q)) off B.toList=P++(B++Q):=by
 subst ho
 rw [sr P B (A++Q) (by simp [h])]
 have e:(A++Q).extract B.size (A++Q).size=Q:=by
  rw [h,Array.extract_append]
  simp
 rw [e,Array.append_assoc]
theorem jb {P Q:Array Value} {i:Nat} (j:Nat) (h:i=P.size+j) (v:Value):(P++Q).setIfInBounds i v=P++Q.setIfInBounds j v:=by
 subst h
 rw [Array.setIfInBounds_append_right (by omega)]
 simp
theorem AcQ.setexact (a:AcQ) (x:RQ):aM a.A (0+68) x.A.toList=({ a with exact:=x }:AcQ).A:=by
 have e:∀ a:AcQ,a.A=(#[.string (S a.nm)]++(a.rate.A++#[.int .i64 a.basis]))++(a.exact.A++#[.int .i64 a.paid,.int .i64 a.til]):=fun a=>by simp [AcQ.A]
 rw [e,e,ja (by simp [RQ.A_size]) (by simp [RQ.A_size])]
theorem AcQ.settil (a:AcQ) (n:Int):a.A.setIfInBounds (0+135) (.int .i64 n)=({ a with til:=n }:AcQ).A:=by
 have e:∀ a:AcQ,a.A=(#[.string (S a.nm)]++(a.rate.A++(#[.int .i64 a.basis]++a.exact.A)))++#[.int .i64 a.paid,.int .i64 a.til]:=fun a=>by simp [AcQ.A]
 rw [e,e,jb 1 (by simp [RQ.A_size])]
 rfl
def nwQ (nm:Bs) (rate:RQ) (basis day:Int):AcQ×Int:=if o9 nm rate basis then (if day < 0\/day > 73048 then (tQ,50) else (⟨nm,rate,basis,.of 0 1,0,day⟩,0)) else (tQ,190)
theorem Pm {nm:Bs} {rate:RQ} {basis day:Int} (hn:nm.length<=9223372036854775807) (hr:rate.In) (hb : -9223372036854775808<=basis/\basis<=9223372036854775807):ay Tryz.prog 127 [SV.c (.agg (wA nm rate basis)),SV.c (.int .i64 day)] (.tuple #[.agg (nwQ nm rate basis day).1.A,.int .i64 (nwQ nm rate basis day).2]):=by
 refine al ai ak Sr _ _ rfl rfl fun w=>?_
 have F1:=HL hb
 have P1:=LE hr
 have N1:=Ai nm hn
 have B1:=vg hr (n:=1) (by unfold Bd;decide) (by decide)
 have W1:=dK (n:=0) (by decide) (by decide)
 have A0:=Nq nm rate basis
 have A1:=Np nm rate basis
 have A2:=No nm rate basis
 have AS:=(El nm rate basis).size
 have RF:=rate.A_fits
 have bad:o9 nm rate basis=false->(Value.tuple #[.agg iY.zero,.int .i64 190])=.tuple #[.agg (nwQ nm rate basis day).1.A,.int .i64 (nwQ nm rate basis day).2]:=fun h=>by
  unfold nwQ;rw [h,<- acZ];rfl
 have ht:o9 nm rate basis=(cQ nm && (j8 rate && (dE rate 0 1 && inB basis 1 4))):=rfl
 generalize wA nm rate basis=FA at *
 have hp:j8 rate=decide ((qF rate).2=0):=rfl
 generalize qF rate=PZ at *
 obtain ⟨ps,pe⟩:=PZ
 refine ⟨AS,_,A2,.inl ⟨_,F1,by decide,_,A1,.inl ⟨_,P1,?_⟩⟩⟩
 have nf:∀ {p:Prop},true=false->p:=fun h=>by cases h
 have nt:∀ {p:Prop},false=true->p:=fun h=>by cases h
 have zf:Fits iY.zero 136:=acZ ▸ tQ.fits
 cases h1:inB basis 1 4
 ·exact ⟨nf,fun _=>⟨nf,fun _=>⟨nf,fun _=>⟨fun _=>⟨_,rfl,zf,bad (by rw [ht,h1];simp),trivial⟩,nf⟩⟩⟩⟩
 refine ⟨fun _=>?_,nt⟩
 refine ⟨fun c2=>?_,fun c2=>?_⟩
 case refine_2 =>
  have c2:(pe != 0)=true:=c2
  have e2:j8 rate=false:=by rw [hp];simpa using c2
  exact ⟨nf,fun _=>⟨fun _=>⟨_,rfl,zf,bad (by rw [ht,e2];simp),trivial⟩,nf⟩⟩
 have c2:(pe != 0)=false:=c2
 have e2:j8 rate=true:=by rw [hp];simpa using c2
 refine ⟨_,A0,.inl ⟨_,N1,fun c3=>?_,fun c3=>?_⟩⟩
 case refine_2 =>
  have c3:=bu c3
  exact ⟨fun _=>⟨_,rfl,zf,bad (by rw [ht,c3];simp),trivial⟩,nf⟩
 have c3:=bw c3
 refine ⟨by decide,_,A1,.inl ⟨_,B1,fun c4=>?_,fun c4=>?_⟩⟩
 case refine_1 =>
  have c4:=bu c4
  exact ⟨_,rfl,zf,bad (by rw [ht,c4];simp),trivial⟩
 have c4:=bw c4
 have ht:o9 nm rate basis=true:=by rw [ht,c3,e2,c4,h1];rfl
 clear bad
 have q1:(day < 0\/day > 73048)->nwQ nm rate basis day=(tQ,50):=fun h=>by unfold nwQ;rw [if_pos ht,if_pos h]
 have q2:¬ (day < 0\/day > 73048)->nwQ nm rate basis day=(⟨nm,rate,basis,.of 0 1,0,day⟩,0):=fun h=>by unfold nwQ;rw [if_pos ht,if_neg h]
 generalize nwQ nm rate basis day=NQ at *
 refine ⟨fun c5=>⟨fun c6=>?_,fun c6=>?_⟩,fun c5=>?_⟩
 ·have c6:=af (show decide (day > 73048)=true from c6)
  exact ⟨_,rfl,zf,by rw [q1 (.inr c6),<- acZ];rfl,trivial⟩
 ·have c6:=ag (show decide (day > 73048)=false from c6)
  have c5:=ag (show decide (day < 0)=false from c5)
  refine ⟨_,A0,by decide,_,A1,_,A2,.inl ⟨_,W1,_,H2 nm rate basis day (RQ.of 0 1) rfl,AcQ.fits _,by kernel_rfl,by rw [q2 (by omega)];rfl,trivial⟩⟩
 ·have c5:=af (show decide (day < 0)=true from c5)
  exact ⟨fun _=>⟨_,rfl,zf,by rw [q1 (.inl c5),<- acZ];rfl,trivial⟩,nf⟩
def AcQ.beq (a b:AcQ):Bool:=decide (a.nm=b.nm) && (a.rate.beq b.rate && ((a.basis == b.basis) && (a.exact.beq b.exact && ((a.paid == b.paid) && ((a.til == b.til) && true)))))
theorem Eo {d:Nat} {a b:AcQ} (ha:a.In) (hb:b.In) (w:World):(Op.equalIn (d+1+1+1+1+1) 69 (.agg a.A) (.agg b.A)).run Tryz.prog w=.ok (a.beq b) w:=by
 rw [run_equalIn_struct w (d+1+1+1+1) 69 _ _ (by simp only [Program.fieldsOf,Tryz.underlying69]) (by kernel_rfl)]
 rw [show (Tryz.prog.fieldsOf 69).toList=[⟨ "Name",9,0,false,"","",0⟩,⟨ "Rate",33,1,false,"","",16⟩,⟨ "Basis",3,67,false,"","",280⟩,⟨ "Exact",33,68,false,"","",288⟩,⟨ "Paid",3,134,false,"","",552⟩,⟨ "Until",3,135,false,"","",560⟩] from by simp only [Program.fieldsOf,Tryz.underlying69]]
 refine bT (by decide) (be Jl rfl a.g0 w) (be Jl rfl b.g0 w) (H5 _ _ w) fun _=>?_
 refine bT (a:=.agg a.rate.A) (b:=.agg b.rate.A) (by decide) ?_ ?_ (ff ha.rate hb.rate w) fun _=>?_
 ·rw [bZ o8 rfl _ _ w];exact congrArg (fun x=>Result.ok (Value.agg x) w) a.grate
 ·rw [bZ o8 rfl _ _ w];exact congrArg (fun x=>Result.ok (Value.agg x) w) b.grate
 refine bT (by decide) (be mh rfl a.g67 w) (be mh rfl b.g67 w) (ie _ Tryz.underlying3 _ _ w) fun _=>?_
 refine bT (a:=.agg a.exact.A) (b:=.agg b.exact.A) (by decide) ?_ ?_ (ff ha.exact hb.exact w) fun _=>?_
 ·rw [bZ o8 rfl _ _ w];exact congrArg (fun x=>Result.ok (Value.agg x) w) a.gexact
 ·rw [bZ o8 rfl _ _ w];exact congrArg (fun x=>Result.ok (Value.agg x) w) b.gexact
 refine bT (by decide) (be mh rfl a.g134 w) (be mh rfl b.g134 w) (ie _ Tryz.underlying3 _ _ w) fun _=>?_
 refine bT (by decide) (be mh rfl a.g135 w) (be mh rfl b.g135 w) (ie _ Tryz.underlying3 _ _ w) fun _=>rO
theorem HG:Tryz.prog.eqGuardType Tryz.prog.depth 69=false:=by kernel_rfl
theorem AcQ.beq_self (a:AcQ):a.beq a=true:=by simp [AcQ.beq,RQ.beq_self]
theorem Ns {E:Env} (hE:E.P=Tryz.prog) {a:AcQ} (ha:a.In) {u v:Operand}:bH E (do eqGuard .eql 69 u v (.agg a.A) (.agg a.A);binOp .eql 69 (.agg a.A) (.agg a.A)) (.bool true):=by
 have:=pr (A:=a.A) (B:=a.A) (x:=u) (y:=v) (by rw [hE];exact HG) fun w=>by rw [hE];exact Eo ha ha w
 rwa [AcQ.beq_self] at this
theorem Bu {a:AcQ} (ha:a.In):ay Tryz.prog 58 [SV.c (.agg a.A)] (.bool (cg a)):=by
 refine al ai ak Uv _ _ rfl rfl fun w=>?_
 have A0:=a.g0
 have A1:=a.grate
 have A2:=a.g67
 have A3:=a.gexact
 have A4:=a.g134
 have A5:=a.g135
 have AS:=a.size
 have N1:=Pm (day:=a.til) ha.nm ha.rate ha.basis
 have W1:=dK (n:=0) (by decide) (by decide)
 have F3:=H3 a.nm a.rate a.basis rfl
 have FF:=HY a.nm a.rate a.basis rfl
 have C1:=AcQ.fits ⟨a.nm,a.rate,a.basis,aG,0,0⟩
 have NF:=(nwQ a.nm a.rate a.basis a.til).1.fits
 have X1:=AcQ.setexact ⟨a.nm,a.rate,a.basis,aG,0,0⟩ (RQ.of 0 1)
 have X2:=AcQ.settil ⟨a.nm,a.rate,a.basis,.of 0 1,0,0⟩ a.til
 have B1:=vg ha.exact (n:=1000000000000000) (by unfold Bd;decide) (by decide)
 have R1:=uu ha.exact
 have E1:=fun (u v:Operand)=>Ns (E:=(iP Tryz.prog tt Tryz.f58.ntmps w).toEnv) rfl (a:=⟨a.nm,a.rate,a.basis,.of 0 1,0,a.til⟩) ⟨ha.nm,ha.rate,ha.basis,RQ.of_in (by decide) (by decide),⟨by show (-9223372036854775808:Int)<=0;decide,by show (0:Int)<=9223372036854775807;decide⟩,ha.til⟩ (u:=u) (v:=v)
 have Z0:=(RQ.of 0 1).A_fits
 have hq:(nwQ a.nm a.rate a.basis a.til).2=0->(nwQ a.nm a.rate a.basis a.til).1=⟨a.nm,a.rate,a.basis,.of 0 1,0,a.til⟩/\o9 a.nm a.rate a.basis=true/\inB a.til 0 73048=true:=fun h=>by
  unfold nwQ at h ⊢
  split at h
  ·rename_i h1
   split at h
   ·cases h
   ·rename_i h2
    rw [if_pos h1,if_neg h2]
    refine ⟨rfl,h1,?_⟩
    unfold inB
    rw [<- Bool.decide_and,decide_eq_true (by omega)]
  ·cases h
 have hn:(nwQ a.nm a.rate a.basis a.til).2≠0->cg a=false:=fun h=>by
  unfold nwQ at h
  split at h
  ·split at h
   ·rename_i h2
    have:inB a.til 0 73048=false:=by unfold inB;rw [<- Bool.decide_and,decide_eq_false (by omega)]
    unfold cg;rw [this];simp
   ·exact absurd rfl h
  ·rename_i h1
   unfold cg;rw [show o9 a.nm a.rate a.basis=false by simpa using h1];rfl
 have hk:o9 a.nm a.rate a.basis=true->inB a.til 0 73048=true->cg a=(dE a.exact 0 1000000000000000 && (decide (0<=a.paid) && decide (a.paid<=(kR (f8 a.exact 0 6)).1))):=fun h1 h2=>by
  unfold cg jh;rw [h1,h2];simp
 have nt:∀ {p:Prop},false=true->p:=fun h=>by cases h
 generalize cg a=AO at *
 generalize nwQ a.nm a.rate a.basis a.til=NQ at *
 obtain ⟨N,e⟩:=NQ
 refine ⟨AS,_,A0,by decide,_,A1,_,A2,_,F3,C1,?_⟩
 refine ⟨_,A0,by decide,_,A1,_,A2,_,FF,_,A5,.inl ⟨_,N1,NF,?_⟩⟩
 refine .inl ⟨_,W1,_,A5,by decide,Z0,_,X1,by decide,rfl,_,X2,by kernel_rfl,?_⟩
 refine ⟨fun c=>?_,fun c=>?_⟩
 case refine_2 =>
  have c:(e == 0)=false:=c
  exact ⟨nt,fun _=>⟨nt,fun _=>⟨nt,fun _=>⟨by kernel_rfl,bv (by rw [hn (by simpa using c)]),trivial⟩⟩⟩⟩
 have c:(e == 0)=true:=c
 obtain ⟨h1,h2,h3⟩:=hq (by simpa using c)
 have h1:N=_:=h1
 subst h1
 have hk:=hk h2 h3
 clear hn hq
 refine ⟨_,E1 _ _,fun _=>?_,fun h=>absurd h (by decide)⟩
 refine ⟨by decide,_,A3,.inl ⟨_,B1,fun c2=>?_,fun c2=>?_⟩⟩
 case refine_2 =>
  have c2:dE a.exact 0 1000000000000000=false:=c2
  exact ⟨nt,fun _=>⟨by kernel_rfl,bv (by rw [hk,c2];rfl),trivial⟩⟩
 have c2:dE a.exact 0 1000000000000000=true:=c2
 rw [c2,Bool.true_and] at hk
 refine ⟨_,A4,fun c3=>?_,fun c3=>?_⟩
 case refine_2 =>
  have c3:decide (a.paid >= 0)=false:=c3
  exact ⟨by kernel_rfl,bv (by rw [hk,show decide (0<=a.paid)=false from c3];rfl),trivial⟩
 have c3:decide (a.paid >= 0)=true:=c3
 rw [show decide (0<=a.paid)=true from c3,Bool.true_and] at hk
 refine ⟨_,A4,by decide,_,A3,.inl ⟨_,R1,?_⟩⟩
 exact ⟨by kernel_rfl,bv hk.symm,trivial⟩
theorem IC {a:AcQ} (ha:a.In):ay Tryz.prog 38 [SV.c (.agg a.A)] (.tuple #[.int .i64 (jN a).1,.int .i64 (jN a).2]):=by
 refine al ai ak UJ _ _ rfl rfl fun w=>?_
 have A3:=a.gexact
 have A4:=a.g134
 have AS:=a.size
 have V1:=Bu ha
 have R1:=uu ha.exact
 have e1:cg a=false->jN a=(0,190):=fun h=>by unfold jN;rw [h];rfl
 have e2:cg a=true->jN a=(jh a - a.paid,0):=fun h=>by unfold jN;rw [h];rfl
 have hp:cg a=true->0<=a.paid/\a.paid<=jh a:=fun h=>by
  unfold cg at h
  simp only [Bool.and_eq_true,decide_eq_true_eq] at h
  exact ⟨h.2.2.1,h.2.2.2.1⟩
 have hb : -1000000000000000<=jh a/\jh a<=1000000000000000:=vV _
 have ho:jh a=(kR (f8 a.exact 0 6)).1:=rfl
 generalize jN a=BQ at *
 generalize cg a=AO at *
 generalize a.A=AA at *
 refine ⟨AS,.inl ⟨_,V1,fun c=>?_,fun c=>?_⟩⟩
 ·have c:=bu c
  exact ⟨by rw [e1 c];rfl,trivial⟩
 ·have c:=bw c
  have c0:=hp c
  have hw:IntKind.i64.wrap ((kR (f8 a.exact 0 6)).1 - a.paid)=jh a - a.paid:=by rw [<- ho];exact i64_in (by omega)
  refine ⟨by decide,_,A3,.inl ⟨_,R1,_,A4,by kernel_rfl,?_,trivial⟩⟩
  rw [e2 c,<- hw];rfl
theorem Iw {a:AcQ} (ha:a.In):ay Tryz.prog 57 [SV.c (.agg a.A)] (.bool (!cg a)):=by
 refine al ai ak Uw _ _ rfl rfl fun w=>?_
 exact ⟨a.size,.inl ⟨_,Bu ha,rfl,trivial⟩⟩
theorem Li {xs:List AcQ} {i:Nat} {y:AcQ} (hy:xs[i]? = some y) (h:cg y=false):xs.all cg=false:=by
 rw [List.all_eq_false]
 exact ⟨y,List.mem_of_getElem? hy,by rw [h];simp⟩
theorem IV {xs:List AcQ} (h:∀ (j:Nat) y,xs[j]? = some y->cg y=true):xs.all cg=true:=by
 rw [List.all_eq_true]
 intro x hx
 obtain ⟨j,hj⟩:=List.getElem?_of_mem hx
 exact h j x hj
theorem Hq {E:Env} (hE:E.P=Tryz.prog) {v:Value} {xs:List AcQ} (hv:Lst E v 136 xs.length (cat AcQ.A xs)) (hn:xs.length<=2000000000000) (hin:∀ y∈xs,y.In):OwnC E 126 [SV.c v,SV.c (fnW 57)] [] (fun r U=>(∃ n:Int,r=.int .i64 n/\decide (n >= 0)=!(xs.all cg))/\U=[]):=by
 refine aD [] ai ak Ss E hE [SV.c v,SV.c (fnW 57)] [] _ rfl rfl fun w X β hT=>?_
 obtain ⟨a,cap,rfl,hc,h4⟩:=(hv.of_old hT).shape
 refine ⟨_,fun w' _=>ao Tryz.underlying37 w',?_⟩
 refine ⟨fun q f m=>∃ (i:Nat),q=xs.length - i/\i<=xs.length/\(∀ (j:Nat) y,j < i->xs[j]? = some y->cg y=true)/\f=[(0,SV.c (.slice a xs.length cap)),(1,SV.c (fnW 57)),(6,SV.c (.slice a xs.length cap)),(7,SV.c (.int .i64 (xs.length:Nat))),(8,SV.c (.int .i64 (i:Nat)))]/\m=[],xs.length,⟨_,_,⟨0,rfl,by omega,fun j y h=>by omega,rfl,rfl⟩,⟨rfl,rfl,rfl,rfl,rfl,trivial⟩,trivial,rfl⟩,?_⟩
 rintro q f m ⟨i,rfl,hi,hok,rfl,rfl⟩
 refine ⟨fun h=>?_,fun h=>?_⟩
 ·have h:i < xs.length:=by have:=af h;omega
  obtain ⟨b,o,rfl,h5⟩:=h4 (by omega)
  obtain ⟨y,hy⟩:∃ y,xs[i]? = some y:=⟨_,List.getElem?_eq_getElem h⟩
  have hE':VOk (aY Tryz.prog tt Tryz.f126.ntmps w X (aJ [] β)):=ai
  have L1:=bN hE' h5 AcQ.size hy (ty:=69) (ti:=iY) rfl rfl rfl (p:=o+(i:Int).toNat*136) rfl
  have K1:=Iw (hin y (List.mem_of_getElem? hy))
  generalize hY:y.A=YA at L1 K1
  refine ⟨by omega,by omega,.inl ⟨_,L1,.inl ⟨_,K1,fun c=>?_,fun c=>?_⟩⟩⟩
  ·have c:=bu c
   have hb:=Li hy c
   exact ⟨[],[],⟨⟨(i:Nat),rfl,by rw [hb];simp⟩,rfl⟩,trivial,rfl⟩
  ·have c:=bw c
   refine ⟨xs.length - (i+1),_,_,by omega,⟨i+1,rfl,by omega,fun j z hj hz=>?_,rfl,rfl⟩,⟨rfl,rfl,rfl,rfl,ar (ax (by omega)),trivial⟩,trivial,rfl⟩
   rcases Nat.lt_or_ge j i with h9 | h9
   ·exact hok j z h9 hz
   ·have:j=i:=by omega
    subst this
    rw [hy] at hz;cases hz
    exact c
 ·have h:i=xs.length:=by have:=ag h;omega
  subst h
  have hg:=IV fun j y hy=>hok j y (List.getElem?_eq_some_iff.1 hy).1 hy
  exact ⟨[],[],⟨⟨-1,rfl,by rw [hg];rfl⟩,rfl⟩,trivial,rfl⟩
theorem yV {E:Env} (hE:E.P=Tryz.prog) {v:Value} {xs:List AcQ} (hv:Lst E v 136 xs.length (cat AcQ.A xs)) (hn:xs.length<=2000000000000) (hin:∀ y∈xs,y.In):OwnC E 56 [SV.c v,SV.c (fnW 57)] [] (fun r U=>r=.bool (!(xs.all cg))/\U=[]):=by
 refine aD [] ai ak Ux E hE [SV.c v,SV.c (fnW 57)] [] _ rfl rfl fun w X β hT=>?_
 have I1:=Hq rfl (hv.of_old hT) hn hin
 refine .inr (.inr (.inr ⟨[],[],[_,_],[],_,I1,rfl,trivial,rfl,trivial,?_⟩))
 rintro r U ⟨⟨n,rfl,h1⟩,rfl⟩
 exact ⟨rfl,[],[],⟨by rw [<- h1];rfl,rfl⟩,trivial,rfl⟩
theorem JV {E:Env} (hE:E.P=Tryz.prog) {y n:NeQ}:OwnC E 125 [SV.c (.agg y.A),SV.ptr 7000 0] [(7000,Blk.row 67 68 n.A)] (fun x U=>x=.bool (decide (y.ins=n.ins))/\U=[(7000,Blk.row 67 68 n.A)]):=by
 refine aD [] ai ak Su E hE [SV.c (.agg y.A),SV.ptr 7000 0] [(7000,Blk.row 67 68 n.A)] _ rfl rfl fun w X β hT=>?_
 have Y0:=y.g0
 have N0:=n.g0
 have YF:=y.fits
 generalize y.A=YA at *
 generalize n.A=NA at *
 refine ⟨YF.size,_,Y0,_,N0,?_⟩
 refine ⟨[(7000,Blk.row 67 68 NA)],[],⟨?_,rfl⟩,⟨rfl,trivial⟩,rfl⟩
 rw [<- eG];rfl
theorem J0 {xs:List NeQ} {i:Nat} {y n:NeQ} (hy:xs[i]? = some y) (h:decide (y.ins=n.ins)=true):(xs.any fun m=>decide (m.ins=n.ins))=true:=by
 rw [List.any_eq_true]
 exact ⟨y,List.mem_of_getElem? hy,h⟩
theorem GG {xs:List NeQ} {n:NeQ} (h:∀ (j:Nat) y,xs[j]? = some y->decide (y.ins=n.ins)=false):(xs.any fun m=>decide (m.ins=n.ins))=false:=by
 rw [List.any_eq_false]
 intro x hx
 obtain ⟨j,hj⟩:=List.getElem?_of_mem hx
 rw [h j x hj];simp
theorem Hs {E:Env} (hE:E.P=Tryz.prog) {v:Value} {xs:List NeQ} {n:NeQ} {l:Nat} (hl:l=xs.length) (hv:Lst E v 68 l (cat NeQ.A xs)) (hn:xs.length<=2000000000000):OwnC E 186 [SV.c v,SV.clo 125 [7000]] [(7000,Blk.row 67 68 n.A)] (fun r U=>(∃ k:Int,r=.int .i64 k/\decide (k >= 0)=(xs.any fun m=>decide (m.ins=n.ins)))/\U=[(7000,Blk.row 67 68 n.A)]):=by
 subst hl
 refine aD [] ai ak Rq E hE [SV.c v,SV.clo 125 [7000]] [(7000,Blk.row 67 68 n.A)] _ rfl rfl fun w X β hT=>?_
 obtain ⟨a,cap,rfl,hc,h4⟩:=(hv.of_old hT).shape
 have hE2:(aY Tryz.prog tt Tryz.f186.ntmps w X (aJ [(7000,Blk.row 67 68 n.A)] β)).toEnv.P=Tryz.prog:=rfl
 refine ⟨_,fun w' _=>ao Tryz.underlying36 w',?_⟩
 refine ⟨fun q f m=>∃ (i:Nat),q=xs.length - i/\i<=xs.length/\(∀ (j:Nat) y,j < i->xs[j]? = some y->decide (y.ins=n.ins)=false)/\f=[(0,SV.c (.slice a xs.length cap)),(1,SV.clo 125 [7000]),(6,SV.c (.slice a xs.length cap)),(7,SV.c (.int .i64 (xs.length:Nat))),(8,SV.c (.int .i64 (i:Nat)))]/\m=[(7000,Blk.row 67 68 n.A)],xs.length,⟨_,_,⟨0,rfl,by omega,fun j y h=>by omega,rfl,rfl⟩,⟨rfl,rfl,rfl,rfl,rfl,trivial⟩,⟨rfl,trivial⟩,rfl⟩,?_⟩
 rintro q f m ⟨i,rfl,hi,hok,rfl,rfl⟩
 refine ⟨fun h=>?_,fun h=>?_⟩
 ·have h:i < xs.length:=by have:=af h;omega
  obtain ⟨b,o,rfl,h5⟩:=h4 (by omega)
  obtain ⟨y,hy⟩:∃ y,xs[i]? = some y:=⟨_,List.getElem?_eq_getElem h⟩
  have hE':VOk (aY Tryz.prog tt Tryz.f186.ntmps w X (aJ [(7000,Blk.row 67 68 n.A)] β)):=ai
  have L1:=bN hE' h5 NeQ.size hy (ty:=67) (ti:=tT) rfl rfl rfl (p:=o+(i:Int).toNat*68) rfl
  have K1:=JV hE2 (y:=y) (n:=n)
  generalize hY:y.A=YA at L1 K1
  generalize n.A=NA at *
  refine ⟨by omega,by omega,.inl ⟨_,L1,.inr (.inr (.inl ⟨[],[_,_],[_],_,[_],K1,rfl,⟨rfl,trivial⟩,rfl,rfl,fun c=>?_,fun c=>?_⟩))⟩⟩
  ·have c:decide (y.ins=n.ins)=true:=c
   exact ⟨[(7000,Blk.row 67 68 NA)],[],⟨⟨(i:Nat),rfl,by rw [J0 hy c];simp⟩,rfl⟩,⟨rfl,trivial⟩,rfl⟩
  ·have c:decide (y.ins=n.ins)=false:=c
   refine ⟨xs.length - (i+1),_,_,by omega,⟨i+1,rfl,by omega,fun j z hj hz=>?_,rfl,rfl⟩,⟨rfl,rfl,rfl,rfl,ar (ax (by omega)),trivial⟩,⟨rfl,trivial⟩,rfl⟩
   rcases Nat.lt_or_ge j i with h9 | h9
   ·exact hok j z h9 hz
   ·have:j=i:=by omega
    subst this
    rw [hy] at hz;cases hz
    exact c
 ·have h:i=xs.length:=by have:=ag h;omega
  subst h
  have hg:=GG (n:=n) fun j y hy=>hok j y (List.getElem?_eq_some_iff.1 hy).1 hy
  exact ⟨[(7000,Blk.row 67 68 n.A)],[],⟨⟨-1,rfl,by rw [hg];rfl⟩,rfl⟩,⟨rfl,trivial⟩,rfl⟩
theorem yW {E:Env} (hE:E.P=Tryz.prog) {v:Value} {xs:List NeQ} {n:NeQ} {l:Nat} (hl:l=xs.length) (hv:Lst E v 68 l (cat NeQ.A xs)) (hn:xs.length<=2000000000000):OwnC E 124 [SV.c v,SV.clo 125 [7000]] [(7000,Blk.row 67 68 n.A)] (fun r U=>r=.bool (xs.any fun m=>decide (m.ins=n.ins))/\U=[(7000,Blk.row 67 68 n.A)]):=by
 refine aD [] ai ak Sv E hE [SV.c v,SV.clo 125 [7000]] [(7000,Blk.row 67 68 n.A)] _ rfl rfl fun w X β hT=>?_
 have I1:=Hs rfl (n:=n) hl (hv.of_old hT) hn
 refine .inr (.inr (.inr ⟨[],[],[_,_],[_],_,I1,rfl,⟨rfl,trivial⟩,rfl,trivial,?_⟩))
 rintro r U ⟨⟨k,rfl,h1⟩,rfl⟩
 exact ⟨rfl,[(7000,Blk.row 67 68 n.A)],[],⟨by rw [<- h1];rfl,rfl⟩,⟨rfl,trivial⟩,rfl⟩
theorem Is (a b:Int):decide (eK a b > 0)=decide (b < a):=by
 rw [decide_eq_decide];unfold eK;split
 ·omega
 ·split<;>omega
theorem DF {r:RQ} (hb:(RQ.of 1000000000 1).ok=true):dE r (-1000000000) 1000000000=!(((fi r).2 != 0) || decide ((if (fi r).1.ok && (RQ.of 1000000000 1).ok then eK ((fi r).1.p*(RQ.of 1000000000 1).q) ((RQ.of 1000000000 1).p*(fi r).1.q) else 0) > 0)):=by
 rw [hb,Bool.and_true,RQ.of_p,RQ.of_q]
 cases hk:r.ok
 ·unfold dE fi;rw [hk];rfl
 ·obtain ⟨k1,k2,k3,k4,k5⟩:=RQ.ok_bits hk
  have e:fi r=(.of (r.p.natAbs:Int) r.q,0):=by unfold fi;rw [if_pos hk]
  have hok:(RQ.of (r.p.natAbs:Int) r.q).ok=true:=RQ.ok_of (by simpa using k1) k2 k3 (by show Nat.gcd (r.p.natAbs:Int).natAbs r.q.natAbs=1;rw [Int.natAbs_natCast];exact k4)
  rw [e]
  simp only [hok,if_true]
  rw [RQ.of_p,RQ.of_q,Is,dE,hk,Bool.true_and,<- Bool.decide_and,Bool.eq_iff_iff]
  simp
  omega
theorem GF {E:Env} (hE:E.P=Tryz.prog) {v:Value} {xs:List NeQ} (hv:Lst E v 68 xs.length (cat NeQ.A xs)) (hn:xs.length<=2000000000000) (hin:∀ y∈xs,y.In):OwnC E 55 [SV.c v] [] (fun r U=>r=.bool (jS xs)/\U=[]):=by
 refine aD [] ai ak Uy E hE [SV.c v] [] _ rfl rfl fun w X β hT=>?_
 have hv':=hv.of_old hT
 obtain ⟨a,cap,rfl,hc,h4⟩:=id hv'.shape
 have hE2:(aY Tryz.prog tt Tryz.f55.ntmps w X (aJ [] β)).toEnv.P=Tryz.prog:=rfl
 have W1:=dK (n:=1000000000) (by decide) (by decide)
 have hb9:(RQ.of 1000000000 1).ok=true:=of_ok (by unfold Bd;decide)
 refine ⟨_,fun w' _=>ao Tryz.underlying36 w',?_⟩
 refine ⟨fun q f m=>∃ (i:Nat),q=xs.length - i/\i<=xs.length/\(∀ j,j < i->Ag xs j=true)/\f=[(0,SV.c (.slice a xs.length cap)),(9,SV.c (.slice a xs.length cap)),(10,SV.c (.int .i64 (xs.length:Nat))),(11,SV.c (.int .i64 (i:Nat)))]/\m=[],xs.length,⟨_,_,⟨0,rfl,by omega,fun j h=>by omega,rfl,rfl⟩,⟨rfl,rfl,rfl,rfl,trivial⟩,trivial,rfl⟩,?_⟩
 rintro q f m ⟨i,rfl,hi,hok,rfl,rfl⟩
 refine ⟨fun h=>?_,fun h=>?_⟩
 ·have h:i < xs.length:=by have:=af h;omega
  obtain ⟨b,o,rfl,h5⟩:=h4 (by omega)
  obtain ⟨y,hy⟩:∃ y,xs[i]? = some y:=⟨_,List.getElem?_eq_getElem h⟩
  have hyi:=hin y (List.mem_of_getElem? hy)
  have hE':VOk (aY Tryz.prog tt Tryz.f55.ntmps w X (aJ [] β)):=ai
  have L1:=bN hE' h5 NeQ.size hy (ty:=67) (ti:=tT) rfl rfl rfl (p:=o+(i:Int).toNat*68) rfl
  have A1:=IX hyi.price
  have C1:=qW (wT hyi.price) (s:=RQ.of 1000000000 1) (RQ.of_in (hS (n:=1000000000) (by decide) (by decide)) (by decide))
  have I1:=tE y.ins 1 12 true hyi.ins
  have ei:(cz true y.ins && (decide ((1:Int)<=y.ins.length) && decide ((y.ins.length:Int)<=12)))=cB y.ins:=by
   unfold cB
   congr 2
   ·rw [decide_eq_decide];omega
   ·rw [decide_eq_decide];omega
  rw [ei] at I1
  have K1:=jI y.cur hyi.cur
  have S1:=fL hE' Tryz.underlying36 (j:=tT) rfl (a:=some ⟨b,o,none⟩) (n:=xs.length) (cap:=cap) (k:=.i64) i rfl (by omega)
  have hlt:(xs.take i).length=i:=by rw [List.length_take,Nat.min_eq_left (by omega)]
  have T1:=Lst.take hv' (i:=i) (by omega) (qd NeQ.size xs i (by omega))
  have H1:=yW hE2 (n:=y) (xs:=xs.take i) hlt.symm T1 (by omega)
  have hp:=DF (r:=y.price) hb9
  have hs:Ag xs i=((dE y.price (-1000000000) 1000000000 && (cB y.ins && aF y.cur)) && !((xs.take i).any fun m=>decide (m.ins=y.ins))):=by unfold Ag;rw [hy]
  have Y0:=y.g0
  have Y1:=y.g1
  have YP:=y.gprice
  have YF:=y.fits
  have AF:=(fi y.price).1.A_fits
  have WF:=(RQ.of 1000000000 1).A_fits
  have bad:Ag xs i=false->jS xs=false:=fun e=>by unfold jS;rw [jm h e];rfl
  generalize hN1:Ag xs i=N1 at bad hs
  generalize hAQ:fi y.price=AQ at *
  obtain ⟨aq,ae⟩:=AQ
  generalize (if (aq,ae).1.ok && (RQ.of 1000000000 1).ok then eK ((aq,ae).1.p*(RQ.of 1000000000 1).q) ((RQ.of 1000000000 1).p*(aq,ae).1.q) else 0)=HI at *
  generalize y.A=YA at *
  have nf:∀ {p:Prop},true=false->p:=fun h=>by cases h
  refine ⟨by omega,by omega,.inl ⟨_,L1,YF,?_⟩⟩
  refine ⟨by decide,_,YP,.inl ⟨_,A1,AF,?_⟩⟩
  refine .inl ⟨_,W1,.inl ⟨_,C1,by kernel_rfl,?_⟩⟩
  refine ⟨fun c1=>?_,fun c1=>?_⟩
  case refine_2 =>
   have c1:(ae != 0)=true:=c1
   exact ⟨nf,fun _=>⟨nf,fun _=>⟨fun _=>⟨[],[],⟨bv (bad (by rw [hs,hp,c1];rfl)).symm,rfl⟩,trivial,rfl⟩,nf⟩⟩⟩
  have c1:(ae != 0)=false:=c1
  refine ⟨fun c2=>?_,fun c2=>?_⟩
  case refine_2 =>
   have c2:decide (HI > 0)=true:=c2
   exact ⟨nf,fun _=>⟨fun _=>⟨[],[],⟨bv (bad (by rw [hs,hp,c2];simp)).symm,rfl⟩,trivial,rfl⟩,nf⟩⟩
  have c2:decide (HI > 0)=false:=c2
  refine ⟨_,Y0,.inl ⟨_,I1,fun c3=>?_,fun c3=>?_⟩⟩
  case refine_2 =>
   have c3:cB y.ins=false:=bu c3
   exact ⟨fun _=>⟨[],[],⟨bv (bad (by rw [hs,c3];simp)).symm,rfl⟩,trivial,rfl⟩,nf⟩
  have c3:cB y.ins=true:=bw c3
  refine ⟨_,Y1,.inl ⟨_,K1,fun c4=>?_,fun c4=>?_⟩⟩
  ·have c4:aF y.cur=false:=bu c4
   exact ⟨[],[],⟨bv (bad (by rw [hs,c4];simp)).symm,rfl⟩,trivial,rfl⟩
  have c4:aF y.cur=true:=bw c4
  refine ⟨_,S1,.inr (.inr (.inl ⟨[(7000,4)],[_,_],[_],_,[_],H1,rfl,⟨rfl,trivial⟩,rfl,rfl,fun c5=>?_,fun c5=>?_⟩))⟩
  ·have c5:((xs.take i).any fun m=>decide (m.ins=y.ins))=true:=c5
   exact ⟨[],[],⟨bv (bad (by rw [hs,c5];simp)).symm,rfl⟩,trivial,rfl⟩
  have c5:((xs.take i).any fun m=>decide (m.ins=y.ins))=false:=c5
  have hg:N1=true:=by rw [hs,hp,c1,c2,c3,c4,c5];rfl
  refine ⟨xs.length - (i+1),_,_,by omega,⟨i+1,rfl,by omega,fun j hj=>?_,rfl,rfl⟩,⟨rfl,rfl,rfl,ar (ax (by omega)),trivial⟩,trivial,rfl⟩
  rcases Nat.lt_or_ge j i with h9 | h9
  ·exact hok j h9
  ·have:j=i:=by omega
   subst this
   rw [hN1];exact hg
 ·have h:i=xs.length:=by have:=ag h;omega
  subst h
  refine ⟨_,fun w' _=>ao Tryz.underlying36 w',?_⟩
  refine ⟨[],[],⟨bv ?_,rfl⟩,trivial,rfl⟩
  unfold jS
  rw [cN hok,Bool.true_and,decide_eq_decide]
  omega
end Go.Proofs.YtklehfchdoikeaaGreatDoor
namespace Go.Proofs.YtklehfchdoikeaaGreatDoor
open Go Go.RowKit Go.SX
section
variable {α:Type} {g:α->Array Value} {s:Nat}
end
theorem MW (o i s:Nat) (hs:s≠1):aO o ((i:Nat):Int) s=o+i*s:=by
 unfold aO
 split
 ·exact absurd rfl hs
 ·rfl
end Go.Proofs.YtklehfchdoikeaaGreatDoor
namespace Go.Proofs.YtklehfchdoikeaaGreatDoor
open Go Go.RowKit Go.SX
theorem Nk:2 ^ lg*2 ^ 60 < BB ^ 32:=by decide +kernel
theorem CU {p r:RQ} (hp:p.ok=true) (hr:r.ok=true) {n:Int} (hn : -1000000000000000<=n/\n<=1000000000000000):(p.p*r.p).natAbs < BB ^ 32/\(p.p*r.p*n).natAbs < BB ^ 32/\(p.q*r.q).natAbs < BB ^ 32:=by
 have k1:=RQ.ok_bits hp
 have k2:=RQ.ok_bits hr
 refine ⟨dS k1.1 k2.1,?_,dS k1.2.1 k2.2.1⟩
 have h1:=ln k1.1 k2.1
 rw [Int.natAbs_mul]
 refine Nat.lt_of_le_of_lt (Nat.mul_le_mul (Nat.le_of_lt h1) (show n.natAbs<=2 ^ 60 by omega)) Nk
theorem IR {n:Int} {p r:RQ} (h:¬ (-1000000000000000<=n/\n<=1000000000000000)):eL n p r=(0,33):=by unfold eL;rw [if_pos (by omega)]
theorem IQ {n:Int} {p r:RQ} (h : -1000000000000000<=n/\n<=1000000000000000) (h2:(p.ok && r.ok)=false):eL n p r=(0,20):=by unfold eL;rw [if_neg (by omega),h2];rfl
theorem IP {n:Int} {p r:RQ} (h : -1000000000000000<=n/\n<=1000000000000000) (h2:(p.ok && r.ok)=true) (h3:(mkQ (p.p*r.p*n) (p.q*r.q)).2≠0):eL n p r=(0,(mkQ (p.p*r.p*n) (p.q*r.q)).2):=by unfold eL;rw [if_neg (by omega),if_pos h2,if_pos h3]
theorem IN {n:Int} {p r:RQ} (h : -1000000000000000<=n/\n<=1000000000000000) (h2:(p.ok && r.ok)=true) (h3:(mkQ (p.p*r.p*n) (p.q*r.q)).2=0):eL n p r=kR (f8 (mkQ (p.p*r.p*n) (p.q*r.q)).1 2 6):=by unfold eL;rw [if_neg (by omega),if_pos h2,if_neg (fun g=>g h3)]
theorem tL {n:Int} {p r:RQ} (hn : -9223372036854775808<=n/\n<=9223372036854775807) (hp:p.In) (hr:r.In):ay Tryz.prog 44 [SV.c (.int .i64 n),SV.c (.agg p.A),SV.c (.agg r.A)] (JE (eL n p r)):=by
 refine al ai ak UE _ _ rfl rfl fun w=>?_
 have D1:=eO n (-1000000000000000) 1000000000000000
 have V1:=cG hp
 have V2:=cG hr
 have P0:=p.cat_l
 have P1:=p.cat_r
 have R0:=r.cat_l
 have R1:=r.cat_r
 have PS:=p.A_size
 have RS:=r.A_size
 have q1:=IR (n:=n) (p:=p) (r:=r)
 have q2:=IQ (n:=n) (p:=p) (r:=r)
 have q3:=IP (n:=n) (p:=p) (r:=r)
 have q4:=IN (n:=n) (p:=p) (r:=r)
 generalize eL n p r=AQ at *
 refine ⟨PS,RS,.inl ⟨_,D1,fun c=>?_,fun c=>?_⟩⟩
 ·have c:=bu c
  have hno:¬ (-1000000000000000<=n/\n<=1000000000000000):=fun h=>by
   unfold inB at c
   rw [decide_eq_true h.1,decide_eq_true h.2] at c;cases c
  exact ⟨by rw [q1 hno];rfl,trivial⟩
 ·have c:=bw c
  have h0 : -1000000000000000<=n/\n<=1000000000000000:=by
   unfold inB at c
   simp only [Bool.and_eq_true,decide_eq_true_eq] at c
   exact c
  refine .inl ⟨_,V1,fun c1=>.inl ⟨_,V2,fun c2=>?_,fun c2=>?_⟩,fun c1=>?_⟩
  ·have c1:p.ok=true:=bX c1
   have c2:r.ok=false:=bu c2
   exact ⟨by rw [q2 h0 (by rw [c1,c2];rfl)];rfl,trivial⟩
  ·have c1:p.ok=true:=bX c1
   have c2:r.ok=true:=bw c2
   obtain ⟨f1,f2,f3⟩:=CU c1 c2 h0
   have F1:=qB hp.num hr.num f1
   have F2:=eD n hn.1 hn.2
   have F3:=qB (aI f1) (aI (z:=n) (hS hn.1 hn.2)) f2
   have F4:=qB hp.den hr.den f3
   have M1:=wi (aI f2) (aI f3)
   have q3:=q3 h0 (by rw [c1,c2];rfl)
   have q4:=q4 h0 (by rw [c1,c2];rfl)
   have hin:=cD (p.p*r.p*n) (p.q*r.q)
   have MF:=(mkQ (p.p*r.p*n) (p.q*r.q)).1.A_fits
   have RI:=sD hin 2 6
   generalize mkQ (p.p*r.p*n) (p.q*r.q)=MQ at *
   obtain ⟨m,e⟩:=MQ
   refine ⟨by decide,_,P0,by decide,_,R0,.inl ⟨_,F1,.inl ⟨_,F2,.inl ⟨_,F3,by decide,_,P1,by decide,_,R1,.inl ⟨_,F4,.inl ⟨_,M1,MF,by kernel_rfl,fun c3=>?_,fun c3=>?_⟩⟩⟩⟩⟩⟩
   ·have c3:(e != 0)=true:=c3
    exact ⟨by rw [q3 (by simpa using c3)];rfl,trivial⟩
   ·have c3:(e != 0)=false:=c3
    refine .inl ⟨_,RI,by rw [q4 (by simpa using c3)];rfl,trivial⟩
  ·have c1:p.ok=false:=bnt c1
   exact ⟨fun _=>⟨by rw [q2 h0 (by rw [c1];rfl)];rfl,trivial⟩,fun h=>absurd h (by decide)⟩
theorem zt {n:Int} {p r:RQ} (hn : -9223372036854775808<=n/\n<=9223372036854775807) (hp:p.In) (hr:r.In):ay Tryz.prog 75 [SV.c (.int .i64 n),SV.c (.agg p.A),SV.c (.agg r.A)] (JE (eL n p r)):=by
 refine al ai ak Uk _ _ rfl rfl fun w=>?_
 have V1:=eS hp
 have V2:=eS hr
 have P0:=p.cat_l
 have P1:=p.cat_r
 have R0:=r.cat_l
 have R1:=r.cat_r
 have PS:=p.A_size
 have RS:=r.A_size
 have q1:=IR (n:=n) (p:=p) (r:=r)
 have q2:=IQ (n:=n) (p:=p) (r:=r)
 have q3:=IP (n:=n) (p:=p) (r:=r)
 have q4:=IN (n:=n) (p:=p) (r:=r)
 generalize eL n p r=AQ at *
 refine ⟨PS,RS,fun c=>⟨fun c'=>?_,fun c'=>?_⟩,fun c=>?_⟩
 ·have c':=af (show decide (n < -1000000000000000)=true from c')
  exact ⟨by rw [q1 (by omega)];rfl,trivial⟩
 ·have c:=ag (show decide (n > 1000000000000000)=false from c)
  have c':=ag (show decide (n < -1000000000000000)=false from c')
  have h0 : -1000000000000000<=n/\n<=1000000000000000:=by omega
  refine .inl ⟨_,V1,fun c1=>.inl ⟨_,V2,fun c2=>?_,fun c2=>?_⟩,fun c1=>?_⟩
  ·have c1:p.ok=true:=bX c1
   have c2:r.ok=false:=bu c2
   exact ⟨by rw [q2 h0 (by rw [c1,c2];rfl)];rfl,trivial⟩
  ·have c1:p.ok=true:=bX c1
   have c2:r.ok=true:=bw c2
   obtain ⟨f1,f2,f3⟩:=CU c1 c2 h0
   have F1:=x6 hp.num hr.num
   rw [eI,if_pos f1] at F1
   have F2:=eF n hn.1 hn.2
   have F3:=x6 (aI f1) (aI (z:=n) (hS hn.1 hn.2))
   rw [eI,if_pos f2] at F3
   have F4:=x6 hp.den hr.den
   rw [eI,if_pos f3] at F4
   have M1:=ov (aI f2) (aI f3)
   have q3:=q3 h0 (by rw [c1,c2];rfl)
   have q4:=q4 h0 (by rw [c1,c2];rfl)
   have hin:=cD (p.p*r.p*n) (p.q*r.q)
   have MF:=(mkQ (p.p*r.p*n) (p.q*r.q)).1.A_fits
   have RI:=z6 hin 2 6
   have E1:=am (p.p*r.p)
   have E2:=am (p.p*r.p*n)
   have E3:=am (p.q*r.q)
   generalize mkQ (p.p*r.p*n) (p.q*r.q)=MQ at *
   obtain ⟨m,e⟩:=MQ
   refine ⟨by decide,_,P0,by decide,_,R0,.inl ⟨_,F1,E1,.inl ⟨_,F2,.inl ⟨_,F3,E2,by kernel_rfl,by decide,_,P1,by decide,_,R1,.inl ⟨_,F4,E3,.inl ⟨_,M1,MF,fun c3=>?_,fun c3=>?_⟩⟩⟩⟩⟩⟩
   ·have c3:(e != 0)=true:=c3
    exact ⟨by rw [q3 (by simpa using c3)];rfl,trivial⟩
   ·have c3:(e != 0)=false:=c3
    refine .inl ⟨_,RI,by rw [q4 (by simpa using c3)];rfl,trivial⟩
  ·have c1:p.ok=false:=bnt c1
   exact ⟨fun _=>⟨by rw [q2 h0 (by rw [c1];rfl)];rfl,trivial⟩,fun h=>absurd h (by decide)⟩
 ·have c:=af (show decide (n > 1000000000000000)=true from c)
  exact ⟨fun _=>⟨by rw [q1 (by omega)];rfl,trivial⟩,fun h=>absurd h (by decide)⟩
theorem Iy:ay Tryz.prog 360 [] (.agg im.A):=by
 refine al ai ak PV _ _ rfl rfl fun w=>?_
 have O:=TR (n:=1) (d:=100) (by decide) (by decide) (by decide) (by decide)
 exact .inl ⟨_,O,RQ.A_fits _,RQ.A_fits _,rfl,trivial⟩
end Go.Proofs.YtklehfchdoikeaaGreatDoor
