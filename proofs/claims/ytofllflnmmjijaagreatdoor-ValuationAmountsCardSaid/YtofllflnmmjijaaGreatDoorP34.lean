/- chapter 20: plain words. chapter 20: small walks. chapter 20: fees as they lie. chapter 20: accruals, the program. chapter 20: accruals, the document. chapter 20: given prices; no condition. -/
import Derived.Test.YtofllflnmmjijaaGreatDoorP31
import Derived.Test.YtofllflnmmjijaaGreatDoorP33
set_option maxRecDepth 100000
set_option maxHeartbeats 4000000
namespace Go.Proofs.YtofllflnmmjijaaGreatDoor
open Go Go.RowKit Go.SX
/-! ### fees that accrue -/
structure AcQ where
 nm:Bs
 rate:RQ
 basis:Int
 exact:RQ
 paid:Int
 til:Int
def AcQ.A (a:AcQ):Array Value:=#[.string (S a.nm)]++(a.rate.A++(#[.int .i64 a.basis]++(a.exact.A++#[.int .i64 a.paid,.int .i64 a.til])))
structure AcQ.In (a:AcQ):Prop where
 nm:a.nm.length≤9223372036854775807
 rate:a.rate.In
 basis : -9223372036854775808≤a.basis∧a.basis≤9223372036854775807
 exact:a.exact.In
 paid : -9223372036854775808≤a.paid∧a.paid≤9223372036854775807
 til : -9223372036854775808≤a.til∧a.til≤9223372036854775807
theorem AcQ.size (a:AcQ):a.A.size=136:=by simp [AcQ.A,RQ.A_size]
theorem AcQ.fits (a:AcQ):Fits a.A 136:=⟨a.size,by
 rw [AcQ.A,Array.all_append,Array.all_append,Array.all_append,Array.all_append,a.rate.A_fits.one,a.exact.A_fits.one]
 simp [Value.oneCell']⟩
theorem AcQ.one (a:AcQ):a.A.all (·.oneCell')=true:=a.fits.one
theorem AcQ.g0 (a:AcQ):a.A[0]? = some (.string (S a.nm)):=by kernel_rfl
theorem AcQ.g67 (a:AcQ):a.A[67]? = some (.int .i64 a.basis):=by kernel_rfl
theorem AcQ.g134 (a:AcQ):a.A[134]? = some (.int .i64 a.paid):=by kernel_rfl
theorem AcQ.g135 (a:AcQ):a.A[135]? = some (.int .i64 a.til):=by kernel_rfl
theorem AcQ.grate (a:AcQ):a.A.extract 1 (1+66)=a.rate.A:=by kernel_rfl
theorem AcQ.gexact (a:AcQ):a.A.extract 68 (68+66)=a.exact.A:=by kernel_rfl
def termB (nm:Bs) (rate:RQ) (basis:Int):Bool:=usable nm && (pctB rate && (betQ rate 0 1 && inB basis 1 4))
def owedQ (a:AcQ):Int:=(rndI (rndQ a.exact 0 6)).1
def accOk (a:AcQ):Bool:=termB a.nm a.rate a.basis && (betQ a.exact 0 1000000000000000 && (decide (0≤a.paid) && (decide (a.paid≤owedQ a) && inB a.til 0 73048)))
def bkdQ (a:AcQ):Int×Int:=if accOk a then (owedQ a - a.paid,0) else (0,190)
/-! ### given prices -/
structure NeQ where
 ins:Bs
 cur:Bs
 price:RQ
def NeQ.A (n:NeQ):Array Value:=#[.string (S n.ins),.string (S n.cur)]++n.price.A
structure NeQ.In (n:NeQ):Prop where
 ins:n.ins.length≤9223372036854775807
 cur:n.cur.length≤9223372036854775807
 price:n.price.In
theorem NeQ.size (n:NeQ):n.A.size=68:=by simp [NeQ.A,RQ.A_size]
theorem NeQ.fits (n:NeQ):Fits n.A 68:=⟨n.size,by
 rw [NeQ.A,Array.all_append,n.price.A_fits.one]
 simp [Value.oneCell']⟩
theorem NeQ.one (n:NeQ):n.A.all (·.oneCell')=true:=n.fits.one
theorem NeQ.g0 (n:NeQ):n.A[0]? = some (.string (S n.ins)):=by kernel_rfl
theorem NeQ.g1 (n:NeQ):n.A[1]? = some (.string (S n.cur)):=by kernel_rfl
theorem NeQ.gprice (n:NeQ):n.A.extract 2 (2+66)=n.price.A:=by kernel_rfl
def nes1 (l:List NeQ) (i:Nat):Bool:=match l[i]? with
 | some n=>(betQ n.price (-1000000000) 1000000000 && (insOk n.ins && curOk n.cur)) && !((l.take i).any fun m=>decide (m.ins=n.ins))
 | none=>true
def nesOk (l:List NeQ):Bool:=allAt (nes1 l) l.length && decide (l.length≤8)
/-! ### lines -/
structure LnQ where
 kind:Int
 nm:Bs
 day:Int
 qty:Int
 price:RQ
 rate:RQ
 amt:Int
def LnQ.A (a:LnQ):Array Value:=#[.int .i64 a.kind,.string (S a.nm),.int .i64 a.day,.int .i64 a.qty]++(a.price.A++(a.rate.A++#[.int .i64 a.amt]))
structure LnQ.In (a:LnQ):Prop where
 nm:a.nm.length≤9223372036854775807
 kind : -9223372036854775808≤a.kind∧a.kind≤9223372036854775807
 day : -9223372036854775808≤a.day∧a.day≤9223372036854775807
 qty : -9223372036854775808≤a.qty∧a.qty≤9223372036854775807
 amt : -9223372036854775808≤a.amt∧a.amt≤9223372036854775807
 price:a.price.In
 rate:a.rate.In
theorem LnQ.size (a:LnQ):a.A.size=137:=by simp [LnQ.A,RQ.A_size]
theorem LnQ.fits (a:LnQ):Fits a.A 137:=⟨a.size,by
 rw [LnQ.A,Array.all_append,Array.all_append,Array.all_append,a.price.A_fits.one,a.rate.A_fits.one]
 simp [Value.oneCell']⟩
theorem LnQ.one (a:LnQ):a.A.all (·.oneCell')=true:=a.fits.one
theorem LnQ.g0 (a:LnQ):a.A[0]? = some (.int .i64 a.kind):=by kernel_rfl
theorem LnQ.g1 (a:LnQ):a.A[1]? = some (.string (S a.nm)):=by kernel_rfl
theorem LnQ.g2 (a:LnQ):a.A[2]? = some (.int .i64 a.day):=by kernel_rfl
theorem LnQ.g3 (a:LnQ):a.A[3]? = some (.int .i64 a.qty):=by kernel_rfl
theorem LnQ.g136 (a:LnQ):a.A[136]? = some (.int .i64 a.amt):=by kernel_rfl
theorem LnQ.gprice (a:LnQ):a.A.extract 4 (4+66)=a.price.A:=by kernel_rfl
theorem LnQ.grate (a:LnQ):a.A.extract 70 (70+66)=a.rate.A:=by kernel_rfl
def amtQ (n:Int) (p r:RQ):Int×Int:=if n < -1000000000000000∨n > 1000000000000000 then (0,33) else if p.ok && r.ok then (if (mkQ (p.p*r.p*n) (p.q*r.q)).2≠0 then (0,(mkQ (p.p*r.p*n) (p.q*r.q)).2) else rndI (rndQ (mkQ (p.p*r.p*n) (p.q*r.q)).1 2 6)) else (0,20)
/-! ### valuations -/
structure VQ where
 cur:Bs
 piv:Bs
 day:Int
 known:Int
 g:Led
 qs:List QC
 pol:PL
 nst:List NeQ
 acs:List AcQ
def VQ.A (v:VQ) (vh vc vp vq vs vn va:Value):Array Value:=#[.string (S v.cur),.string (S v.piv),.int .i64 v.day,.int .i64 v.known,vh,vc,vp,vq]++(v.pol.A vs++#[vn,va])
def chkV (v:VQ):Bool:=(curOk v.cur && (curOk v.piv && (inB v.day 0 73048 && inB v.known 0 2147483647))) && ((validP v.g && (decide (chkQ v.qs=0) && (polOk v.pol && nesOk v.nst))) && ((decide (v.acs.length≤16) && v.acs.all accOk) && decide (v.g.h.length+v.g.c.length+v.g.p.length+v.acs.length≤512)))
inductive ItQ where
 | h (x:Bs×Int)
 | b (x:Ky×Int) (k:Int)
 | f (a:AcQ)
def itemsQ (v:VQ):List ItQ:=v.g.h.map .h++(v.g.c.map (.b · 2)++(v.g.p.map (.b · 3)++v.acs.map .f))
def centQ:RQ:=(mkQ 1 100).1
def lineQ (v:VQ):ItQ→LnQ×Bs×Int
 | .h x=>match v.nst.find? (fun n=>decide (n.ins=x.1)) with
  | some n=>(⟨1,x.1,v.day,x.2,n.price,zeroQ,0⟩,n.cur,0)
  | none=>(⟨1,x.1,(selCh (cands v.qs v.known v.pol x.1 v.day) v.pol.tol).day,x.2,(selCh (cands v.qs v.known v.pol x.1 v.day) v.pol.tol).price,zeroQ,0⟩,(selCh (cands v.qs v.known v.pol x.1 v.day) v.pol.tol).cur,selE v.qs v.known v.pol x.1 v.day)
 | .b x k=>(⟨k,x.1.1,if k=3 then x.1.2 else v.day,x.2,centQ,zeroQ,0⟩,x.1.1,0)
 | .f a=>(⟨4,a.nm,a.til,-(bkdQ a).1,centQ,zeroQ,0⟩,v.cur,(bkdQ a).2)
def stepQ (v:VQ) (i:ItQ):Except Int LnQ :=
 if (lineQ v i).2.2≠0 then .error (lineQ v i).2.2 else
 if (rateQ v.qs v.known v.pol v.day v.piv (lineQ v i).2.1 v.cur).2≠0 then .error (rateQ v.qs v.known v.pol v.day v.piv (lineQ v i).2.1 v.cur).2 else
 if (amtQ (lineQ v i).1.qty (lineQ v i).1.price (rateQ v.qs v.known v.pol v.day v.piv (lineQ v i).2.1 v.cur).1).2≠0 then .error (amtQ (lineQ v i).1.qty (lineQ v i).1.price (rateQ v.qs v.known v.pol v.day v.piv (lineQ v i).2.1 v.cur).1).2 else
 .ok { (lineQ v i).1 with rate:=(rateQ v.qs v.known v.pol v.day v.piv (lineQ v i).2.1 v.cur).1,amt:=(amtQ (lineQ v i).1.qty (lineQ v i).1.price (rateQ v.qs v.known v.pol v.day v.piv (lineQ v i).2.1 v.cur).1).1 }
def runV (v:VQ):List ItQ→Except Int (List LnQ)
 | []=>.ok []
 | i :: r=>match stepQ v i with
  | .error e=>.error e
  | .ok l=>match runV v r with
   | .error e=>.error e
   | .ok ls=>.ok (l :: ls)
def totQ (l:List LnQ):Int:=(l.map LnQ.amt).sum
structure ShQ where
 cur:Bs
 day:Int
 known:Int
 lines:List LnQ
 total:Int
def ShQ.A (s:ShQ) (x:Value):Array Value:=#[.string (S s.cur),.int .i64 s.day,.int .i64 s.known,x,.int .i64 s.total]
def shZero:ShQ:=⟨[],0,0,[],0⟩
def valQ (v:VQ):ShQ×Int:=if chkV v then (match runV v (itemsQ v) with
 | .error e=>(shZero,e)
 | .ok ls=>if totQ ls < -1000000000000000∨totQ ls > 1000000000000000 then (shZero,33) else (⟨v.cur,v.day,v.known,ls,totQ ls⟩,0)) else (shZero,201)
def lnOk (l:LnQ):Bool:=decide (amtQ l.qty l.price l.rate=(l.amt,0)) && (inB l.kind 1 4 && inB l.day 0 73048)
def verQ (s:ShQ):Int:=if (curOk s.cur && (inB s.day 0 73048 && (inB s.known 0 2147483647 && decide (s.lines.length≤512)))) && (s.lines.all lnOk && (decide (totQ s.lines=s.total) && inB s.total (-1000000000000000) 1000000000000000)) then 0 else 200
/-! ### plain laws -/
theorem runV_append (v:VQ):∀ (a b:List ItQ),runV v (a++b)=match runV v a with
    | .error e=>.error e
    | .ok x=>match runV v b with
     | .error e=>.error e
     | .ok y=>.ok (x++y)
 | [],b=>by
  show runV v b=match runV v b with | .error e=>.error e | .ok y=>.ok ([]++y)
  cases runV v b<;>rfl
 | i :: a,b=>by
  rw [List.cons_append,runV,runV]
  cases stepQ v i with
  | error e=>rfl
  | ok l =>
   simp only
   rw [runV_append v a b]
   cases runV v a with
   | error e=>rfl
   | ok x =>
    simp only
    cases runV v b<;>rfl
theorem runV_snoc {v:VQ} {l:List ItQ} {i:ItQ} {x:List LnQ} (h:runV v l=.ok x):runV v (l++[i])=match stepQ v i with
    | .error e=>.error e
    | .ok y=>.ok (x++[y]):=by
 rw [runV_append,h,runV,runV]
 cases stepQ v i<;>rfl
theorem runV_bad {v:VQ} {l r:List ItQ} {i:ItQ} {x:List LnQ} {e:Int} (h:runV v l=.ok x) (h2:stepQ v i=.error e):runV v (l++i :: r)=.error e:=by
 rw [runV_append,h,runV,h2]
theorem rndI_bd (x:Int×Int) : -1000000000000000≤(rndI x).1∧(rndI x).1≤1000000000000000:=by
 unfold rndI
 split
 ·simp
 ·split
  ·simp
  ·simp only;omega
theorem amtQ_bd (n:Int) (p r:RQ) : -1000000000000000≤(amtQ n p r).1∧(amtQ n p r).1≤1000000000000000:=by
 unfold amtQ
 split
 ·simp
 ·split
  ·split
   ·simp
   ·exact rndI_bd _
  ·simp
theorem totQ_snoc (l:List LnQ) (x:LnQ):totQ (l++[x])=totQ l+x.amt:=by unfold totQ;simp
theorem totQ_bd:∀ (l:List LnQ),(∀ x∈l,-1000000000000000≤x.amt∧x.amt≤1000000000000000)→-(1000000000000000*(l.length:Int))≤totQ l∧totQ l≤1000000000000000*(l.length:Int)
 | [],_=>by simp [totQ]
 | x :: l,h=>by
  have h1:=h x (by simp)
  have h2:=totQ_bd l fun y hy=>h y (by simp [hy])
  have:totQ (x :: l)=x.amt+totQ l:=by simp [totQ]
  rw [this,List.length_cons]
  omega
theorem stepQ_amt {v:VQ} {i:ItQ} {l:LnQ} (h:stepQ v i=.ok l):(lineQ v i).2.2=0∧(rateQ v.qs v.known v.pol v.day v.piv (lineQ v i).2.1 v.cur).2=0∧amtQ l.qty l.price l.rate=(l.amt,0)∧l={ (lineQ v i).1 with rate:=(rateQ v.qs v.known v.pol v.day v.piv (lineQ v i).2.1 v.cur).1,amt:=l.amt }:=by
 unfold stepQ at h
 split at h
 ·cases h
 rename_i h1
 split at h
 ·cases h
 rename_i h2
 split at h
 ·cases h
 rename_i h3
 cases h
 refine ⟨Decidable.not_not.1 h1,Decidable.not_not.1 h2,?_,rfl⟩
 exact Prod.ext rfl (Decidable.not_not.1 h3)
theorem runV_amt {v:VQ}:∀ {l:List ItQ} {x:List LnQ},runV v l=.ok x→x.length=l.length∧∀ y∈x,-1000000000000000≤y.amt∧y.amt≤1000000000000000
 | [],x,h=>by cases h;simp
 | i :: l,x,h=>by
  rw [runV] at h
  cases e:stepQ v i with
  | error e'=>rw [e] at h;cases h
  | ok y =>
   rw [e] at h
   simp only at h
   cases e2:runV v l with
   | error e'=>rw [e2] at h;cases h
   | ok z =>
    rw [e2] at h
    simp only [Except.ok.injEq] at h
    subst h
    obtain ⟨h1,h2⟩:=runV_amt e2
    obtain ⟨-,-,h3,-⟩:=stepQ_amt e
    refine ⟨by simp [h1],fun w hw=>?_⟩
    rcases List.mem_cons.1 hw with rfl | hw
    ·have:=amtQ_bd w.qty w.price w.rate
     rw [h3] at this
     exact this
    ·exact h2 w hw
theorem capitals_v (l:List UInt8) (lo hi:Int) (dg:Bool) (hl:l.length≤9223372036854775807):Pure Tryz.prog 59 [SV.c (.string (S l)),SV.c (.int .i64 lo),SV.c (.int .i64 hi),SV.c (.bool dg)] (.bool (capAll dg l && (decide (lo≤l.length) && decide ((l.length:Int)≤hi)))):=by
 refine sx_pure tt_ok mixed at59 _ _ rfl rfl fun w=>?_
 refine ⟨_,fun w _=>run_len_S Tryz.underlying9 w,?_⟩
 refine ⟨fun q f m=>∃ i:Nat,q=l.length - i∧i≤l.length∧(∀ j,j < i→capAt dg l j=true)∧f=[(0,SV.c (.string (S l))),(1,SV.c (.int .i64 lo)),(2,SV.c (.int .i64 hi)),(3,SV.c (.bool dg)),(11,SV.c (.int .i64 (l.length:Nat))),(12,SV.c (.int .i64 i))]∧m=[],l.length,⟨_,_,⟨0,rfl,Nat.zero_le _,fun j hj=>absurd hj (by omega),rfl,rfl⟩,⟨rfl,rfl,rfl,rfl,rfl,rfl,trivial⟩,trivial,rfl⟩,?_⟩
 rintro q f m ⟨i,rfl,hi1,hall,rfl,rfl⟩
 refine ⟨fun h=>?_,fun h=>?_⟩
 ·have h:i < l.length:=by have:=of_decide_eq_true h;omega
  have hx:=runs_idx (E:=(envP Tryz.prog tt Tryz.f59.ntmps w).toEnv) Tryz.underlying9 (k:=.i64) i rfl h
  have hc:capAt dg l i=((decide (65≤(l.getD i 0).toNat) && decide ((l.getD i 0).toNat≤90)) || (dg && !decide (i=0) && decide (48≤(l.getD i 0).toNat) && decide ((l.getD i 0).toNat≤57))):=rfl
  generalize (l.getD i 0).toNat=x at *
  have stop:capAt dg l i=false→mkRes [.bool false]=.bool (capAll dg l && (decide (lo≤l.length) && decide ((l.length:Int)≤hi))):=fun e=>by rw [capAll_false h e];rfl
  have hnext:capAt dg l i=true→∀ j,j < i+1→capAt dg l j=true:=fun e j hj=>by
   by_cases e2:j=i
   ·rw [e2];exact e
   ·exact hall j (by omega)
  refine ⟨_,hx,fun h1=>⟨_,hx,fun h2=>?_,fun h2=>?_⟩,fun h1=>⟨fun h2=>?_,nofun⟩⟩
  ·have h1:=of_decide_eq_false h1
   have h2:=of_decide_eq_true h2
   have hlow:(decide (65≤x) && decide (x≤90))=false:=by rw [decide_eq_false (by omega:¬ x≤90),Bool.and_false]
   rw [hlow,Bool.false_or] at hc
   refine ⟨fun h3=>⟨fun h4=>⟨_,hx,fun h5=>⟨_,hx,fun h6=>⟨stop ?_,trivial⟩,fun h6=>?_⟩,fun h5=>⟨fun _=>⟨stop ?_,trivial⟩,nofun⟩⟩,fun h4=>⟨nofun,fun _=>⟨fun _=>⟨stop ?_,trivial⟩,nofun⟩⟩⟩,fun h3=>⟨nofun,fun _=>⟨nofun,fun _=>⟨fun _=>⟨stop ?_,trivial⟩,nofun⟩⟩⟩⟩
   ·have h6:=of_decide_eq_true h6
    rw [hc,decide_eq_false (by omega:¬ x≤57),Bool.and_false]
   ·have h3:dg=true:=of_bnf h3
    have h4:¬ i=0:=by intro e;subst e;simp at h4
    have h5:=of_decide_eq_false h5
    have h6:=of_decide_eq_false h6
    exact ⟨l.length - (i+1),_,_,by omega,⟨i+1,rfl,by omega,hnext (by rw [hc,h3,decide_eq_false h4,decide_eq_true (by omega:48≤x),decide_eq_true (by omega:x≤57)];rfl),rfl,rfl⟩,⟨rfl,rfl,rfl,rfl,rfl,c_int (by rw [i64_in (by omega)];rfl),trivial⟩,trivial,rfl⟩
   ·have h5:=of_decide_eq_true h5
    rw [hc,decide_eq_false (by omega:¬ 48≤x),Bool.and_false,Bool.false_and]
   ·have h4:i=0:=by have:(i:Int)=0:=by simpa using h4
                    omega
    rw [hc,decide_eq_true h4,Bool.not_true,Bool.and_false,Bool.false_and,Bool.false_and]
   ·have h3:dg=false:=bnt h3
    rw [hc,h3];rfl
  ·have h1:=of_decide_eq_false h1
   have h2:=of_decide_eq_false h2
   refine ⟨nofun,fun _=>?_⟩
   exact ⟨l.length - (i+1),_,_,by omega,⟨i+1,rfl,by omega,hnext (by rw [hc,decide_eq_true (by omega:65≤x),decide_eq_true (by omega:x≤90)];rfl),rfl,rfl⟩,⟨rfl,rfl,rfl,rfl,rfl,c_int (by rw [i64_in (by omega)];rfl),trivial⟩,trivial,rfl⟩
  ·have h1:=of_decide_eq_true h1
   have hlow:(decide (65≤x) && decide (x≤90))=false:=by rw [decide_eq_false (by omega:¬ 65≤x),Bool.false_and]
   rw [hlow,Bool.false_or] at hc
   refine ⟨fun h3=>⟨fun h4=>⟨_,hx,fun h5=>⟨_,hx,fun h6=>⟨stop ?_,trivial⟩,fun h6=>?_⟩,fun h5=>⟨fun _=>⟨stop ?_,trivial⟩,nofun⟩⟩,fun h4=>⟨nofun,fun _=>⟨fun _=>⟨stop ?_,trivial⟩,nofun⟩⟩⟩,fun h3=>⟨nofun,fun _=>⟨nofun,fun _=>⟨fun _=>⟨stop ?_,trivial⟩,nofun⟩⟩⟩⟩
   ·have h6:=of_decide_eq_true h6
    rw [hc,decide_eq_false (by omega:¬ x≤57),Bool.and_false]
   ·have h3:dg=true:=of_bnf h3
    have h4:¬ i=0:=by intro e;subst e;simp at h4
    have h5:=of_decide_eq_false h5
    have h6:=of_decide_eq_false h6
    exact ⟨l.length - (i+1),_,_,by omega,⟨i+1,rfl,by omega,hnext (by rw [hc,h3,decide_eq_false h4,decide_eq_true (by omega:48≤x),decide_eq_true (by omega:x≤57)];rfl),rfl,rfl⟩,⟨rfl,rfl,rfl,rfl,rfl,c_int (by rw [i64_in (by omega)];rfl),trivial⟩,trivial,rfl⟩
   ·have h5:=of_decide_eq_true h5
    rw [hc,decide_eq_false (by omega:¬ 48≤x),Bool.and_false,Bool.false_and]
   ·have h4:i=0:=by have:(i:Int)=0:=by simpa using h4
                    omega
    rw [hc,decide_eq_true h4,Bool.not_true,Bool.and_false,Bool.false_and,Bool.false_and]
   ·have h3:dg=false:=bnt h3
    rw [hc,h3];rfl
 ·have h:i=l.length:=by have:=of_decide_eq_false h;omega
  subst h
  rw [capAll_true hall,Bool.true_and]
  refine ⟨_,fun w _=>run_len_S Tryz.underlying9 w,fun h2=>⟨_,fun w _=>run_len_S Tryz.underlying9 w,bv ?_,trivial⟩,fun h2=>⟨bv ?_,trivial⟩⟩
  ·rw [decide_eq_true (of_decide_eq_true h2:lo≤(l.length:Int)),Bool.true_and]
  ·rw [decide_eq_false (of_decide_eq_false h2:¬ lo≤(l.length:Int)),Bool.false_and]
theorem currency_v (l:List UInt8) (hl:l.length≤9223372036854775807):Pure Tryz.prog 26 [SV.c (.string (S l))] (.bool (curOk l)):=by
 refine sx_pure tt_ok mixed at26 _ _ rfl rfl fun w=>?_
 exact .inl ⟨_,capitals_v l 3 3 false hl,rfl,trivial⟩
theorem within_v (n lo hi:Int):Pure Tryz.prog 18 [SV.c (.int .i64 n),SV.c (.int .i64 lo),SV.c (.int .i64 hi)] (.bool (inB n lo hi)):=by
 refine sx_pure tt_ok mixed at18 _ _ rfl rfl fun w=>?_
 refine ⟨fun c=>⟨bv ?_,trivial⟩,fun c=>⟨bv ?_,trivial⟩⟩
 ·have c:=of_decide_eq_true (show decide (n ≥ lo)=true from c)
  unfold inB
  rw [decide_eq_true (show lo≤n by omega),Bool.true_and]
 ·have c:=of_decide_eq_false (show decide (n ≥ lo)=false from c)
  unfold inB
  rw [decide_eq_false (show ¬ lo≤n by omega),Bool.false_and]
theorem rounded_a {r:RQ} (hr:r.In):Pure Tryz.prog 80 [SV.c (.agg r.A)] (.int .i64 (rndI (rndQ r 0 6)).1):=by
 refine sx_pure tt_ok mixed at80 _ _ rfl rfl fun w=>?_
 exact ⟨r.A_size,.inl ⟨_,roundInt_z hr 0 6,rfl,trivial⟩⟩
theorem product_v {A B:Array Value} {x y:Int} (hA:IsI A x) (hB:IsI B y) (hl:(x*y).natAbs < BB ^ 32):Pure Tryz.prog 43 [SV.c (.agg A),SV.c (.agg B)] (.agg (eA (x*y))):=by
 refine sx_pure tt_ok mixed at43 _ _ rfl rfl fun w=>?_
 have h:=mul_z hA hB
 rw [fitR,if_pos hl] at h
 exact ⟨hA.size,hB.size,.inl ⟨_,h,eA_fits _,eA_fits _,rfl,trivial⟩⟩
theorem between_a {r:RQ} (hr:r.In) {n:Int} (hn:Bd 60 n) (hn1 : -9223372036854775808≤n∧n≤9223372036854775807):Pure Tryz.prog 79 [SV.c (.agg r.A),SV.c (.int .i64 n)] (.bool (betQ r 0 n)):=by
 refine sx_pure tt_ok mixed at79 _ _ rfl rfl fun w=>?_
 have C1:=cmpR_z hr (s:=RQ.of n 1) (RQ.of_in (i64_lt (n:=n) hn1.1 hn1.2) (by decide))
 have S1:=signR_z hr
 have ho:=of_ok hn
 rw [ho,Bool.and_true,RQ.of_p,RQ.of_q] at C1
 have W1:=whole1_z hn1.1 hn1.2
 have hb:betQ r 0 n=(r.ok && (decide (sgn r.p ≥ 0) && decide (cmpI (r.p*1) (n*r.q)≤0))):=by
  unfold betQ
  rw [sgn_ge,cmpI_le,Int.zero_mul,Int.mul_one]
 rw [hb]
 have RF:=r.A_size
 have NF:=(RQ.of n 1).A_fits
 generalize r.A=RA at *
 refine ⟨RF,.inl ⟨_,S1,.inl ⟨_,W1,.inl ⟨_,C1,by kernel_rfl,?_⟩⟩⟩⟩
 cases hk:r.ok
 ·exact ⟨fun c=>absurd c (by decide),fun _=>⟨fun c=>absurd c (by decide),fun _=>⟨rfl,trivial⟩⟩⟩
 ·refine ⟨fun _=>⟨fun c=>?_,fun c=>?_⟩,fun c=>absurd c (by decide)⟩
  ·have c:decide (sgn r.p ≥ 0)=true:=c
   exact ⟨bv (by rw [c];rfl),trivial⟩
  ·have c:decide (sgn r.p ≥ 0)=false:=c
   exact ⟨bv (by rw [c];rfl),trivial⟩
def baseW (b:Int):List UInt8:=if b=1 then [97,99,116,51,54,48] else if b=2 then [97,99,116,51,54,53] else if b=3 then [97,99,116,97,99,116] else if b=4 then [116,104,105,114,116,121,51,54,48] else []
def wordsA:Array Value:=#[.string (S [97,99,116,51,54,48]),.string (S [97,99,116,51,54,53]),.string (S [97,99,116,97,99,116]),.string (S [116,104,105,114,116,121,51,54,48])]
theorem words_v:Pure Tryz.prog 181 [] (.agg wordsA):=by
 refine sx_pure tt_ok mixed at181 _ _ rfl rfl fun w=>?_
 exact ⟨wordsA,by kernel_rfl,⟨rfl,by simp [wordsA,Value.oneCell']⟩,rfl,trivial⟩
theorem run_word {E:Env} (hE:E.P=Tryz.prog) {k:IntKind} {x:Int} {i:Nat} (hx:x=(i:Nat)) {s:List UInt8} (h:wordsA[i]? = some (.string (S s))):Runs E (Instr.index 218 (.agg wordsA) (.int k x)) (.string (S s)):=by
 subst hx
 intro w _
 have hi:i < 4:=by
  have:=(Array.getElem?_eq_some_iff.1 h).1
  exact this
 have hc:(((i:Nat):Int):Int) < 4:=by omega
 have hp:=run_part_plain (P:=E.P) (e:=9) (by rw [hE];kernel_rfl) (w:=w) (xs:=wordsA) (off:=i) h
 have hsz:(sizeOf 9).run E.P w=.ok 1 w:=by rw [hE];exact Go.SX.run_sizeOf (P:=Tryz.prog) (ty:=9) (i:=ti9) (tt_ok _ _ rfl) w
 simp only [Instr.index,asIntOf,Sem.run_bind,Sem.run_pure,Result.andThen_ok,run_underlying (show E.P.underlying 218=_ by rw [hE];exact Tryz.underlying218)]
 rw [if_pos ⟨by omega,hc⟩]
 simp only [Sem.run_bind,hsz,Result.andThen_ok,Int.toNat_natCast,Nat.mul_one,hp]
theorem format_v {n:Int} (hn : -9223372036854775808≤n∧n≤9223372036854775807):Pure Tryz.prog 129 [SV.c (.int .i64 n)] (.tuple #[.string (S (baseW n)),.int .i64 (if inB n 1 4 then 0 else 60)]):=by
 refine sx_pure tt_ok mixed at129 _ _ rfl rfl fun w=>?_
 have bad:¬ (1≤n∧n≤4)→(Value.tuple #[.string (S []),.int .i64 60])=.tuple #[.string (S (baseW n)),.int .i64 (if inB n 1 4 then 0 else 60)]:=fun h=>by
  have e1:inB n 1 4=false:=by unfold inB;rw [← Bool.decide_and,decide_eq_false h]
  have e2:baseW n=[]:=by unfold baseW;rw [if_neg (by omega),if_neg (by omega),if_neg (by omega),if_neg (by omega)]
  rw [e1,e2];rfl
 refine ⟨fun c=>⟨fun c2=>?_,fun c2=>?_⟩,fun c=>?_⟩
 ·have c:=of_decide_eq_false (show decide (n < 1)=false from c)
  have c2:=of_decide_eq_true (show decide (n > 4)=true from c2)
  exact ⟨bad (by omega),trivial⟩
 ·have c:=of_decide_eq_false (show decide (n < 1)=false from c)
  have c2:=of_decide_eq_false (show decide (n > 4)=false from c2)
  have e1:inB n 1 4=true:=by unfold inB;rw [← Bool.decide_and,decide_eq_true (by omega)]
  have e0:IntKind.i64.wrap (n - 1)=(((n - 1).toNat:Nat):Int):=by rw [i64_in (by omega)];omega
  have key:wordsA[(n - 1).toNat]? = some (.string (S (baseW n))):=by
   have h4:n=1∨n=2∨n=3∨n=4:=by omega
   rcases h4 with rfl | rfl | rfl | rfl<;>rfl
  refine .inl ⟨_,words_v,_,run_word rfl e0 key,?_⟩
  rw [e1]
  exact ⟨rfl,trivial⟩
 ·have c:=of_decide_eq_true (show decide (n < 1)=true from c)
  exact ⟨fun _=>⟨bad (by omega),trivial⟩,fun h=>absurd h (by decide)⟩
def feeA (nm:Bs) (rate:RQ) (basis:Int):Array Value:=#[.string (S nm)]++(rate.A++#[.int .i64 basis])
theorem feeA_fits (nm:Bs) (rate:RQ) (basis:Int):Fits (feeA nm rate basis) 68:=⟨by simp [feeA,RQ.A_size],by
 rw [feeA,Array.all_append,Array.all_append,rate.A_fits.one]
 simp [Value.oneCell']⟩
theorem feeA_0 (nm:Bs) (rate:RQ) (basis:Int):(feeA nm rate basis)[0]? = some (.string (S nm)):=by kernel_rfl
theorem feeA_1 (nm:Bs) (rate:RQ) (basis:Int):(feeA nm rate basis).extract 1 (1+66)=rate.A:=by kernel_rfl
theorem feeA_2 (nm:Bs) (rate:RQ) (basis:Int):(feeA nm rate basis)[67]? = some (.int .i64 basis):=by kernel_rfl
theorem fill_fee (nm:Bs) (rate:RQ) (basis:Int) {pl:List (Nat×Nat)} (hpl:pl=[(0,1),(1,66),(67,1)]):Instr.fill (fun k=>pl[k]?) ti135.zero [(0,.string (S nm)),(1,.agg rate.A),(2,.int .i64 basis)]=some (feeA nm rate basis):=by
 subst hpl;kernel_rfl
def acZero:AcQ:=⟨[],zeroQ,0,zeroQ,0,0⟩
theorem acZ:acZero.A=ti71.zero:=by kernel_rfl
theorem fill_ac3 (nm:Bs) (rate:RQ) (basis:Int) {pl:List (Nat×Nat)} (hpl:pl=[(0,1),(1,66),(67,1),(68,66),(134,1),(135,1)]):Instr.fill (fun k=>pl[k]?) ti71.zero [(0,.string (S nm)),(1,.agg rate.A),(2,.int .i64 basis)]=some (AcQ.A ⟨nm,rate,basis,zeroQ,0,0⟩):=by
 subst hpl;kernel_rfl
theorem fill_ac5 (nm:Bs) (rate:RQ) (basis day:Int) (x:RQ) {pl:List (Nat×Nat)} (hpl:pl=[(0,1),(1,66),(67,1),(68,66),(134,1),(135,1)]):Instr.fill (fun k=>pl[k]?) ti71.zero [(0,.string (S nm)),(1,.agg rate.A),(2,.int .i64 basis),(3,.agg x.A),(5,.int .i64 day)]=some (AcQ.A ⟨nm,rate,basis,x,0,day⟩):=by
 subst hpl;kernel_rfl
theorem splice_in {P A Q B:Array Value} {off:Nat} (ho:off=P.size) (h:B.size=A.size):splice (P++(A++Q)) off B.toList=P++(B++Q):=by
 subst ho
 rw [splice_mid P B (A++Q) (by simp [h])]
 have e:(A++Q).extract B.size (A++Q).size=Q:=by
  rw [h,Array.extract_append]
  simp
 rw [e,Array.append_assoc]
theorem set_right {P Q:Array Value} {i:Nat} (j:Nat) (h:i=P.size+j) (v:Value):(P++Q).setIfInBounds i v=P++Q.setIfInBounds j v:=by
 subst h
 rw [Array.setIfInBounds_append_right (by omega)]
 simp
theorem AcQ.setexact (a:AcQ) (x:RQ):splice a.A (0+68) x.A.toList=({ a with exact:=x }:AcQ).A:=by
 have e:∀ a:AcQ,a.A=(#[.string (S a.nm)]++(a.rate.A++#[.int .i64 a.basis]))++(a.exact.A++#[.int .i64 a.paid,.int .i64 a.til]):=fun a=>by simp [AcQ.A]
 rw [e,e,splice_in (by simp [RQ.A_size]) (by simp [RQ.A_size])]
theorem AcQ.settil (a:AcQ) (n:Int):a.A.setIfInBounds (0+135) (.int .i64 n)=({ a with til:=n }:AcQ).A:=by
 have e:∀ a:AcQ,a.A=(#[.string (S a.nm)]++(a.rate.A++(#[.int .i64 a.basis]++a.exact.A)))++#[.int .i64 a.paid,.int .i64 a.til]:=fun a=>by simp [AcQ.A]
 rw [e,e,set_right 1 (by simp [RQ.A_size])]
 rfl
def nwQ (nm:Bs) (rate:RQ) (basis day:Int):AcQ×Int:=if termB nm rate basis then (if day < 0∨day > 73048 then (acZero,50) else (⟨nm,rate,basis,.of 0 1,0,day⟩,0)) else (acZero,190)
theorem new_a {nm:Bs} {rate:RQ} {basis day:Int} (hn:nm.length≤9223372036854775807) (hr:rate.In) (hb : -9223372036854775808≤basis∧basis≤9223372036854775807):Pure Tryz.prog 78 [SV.c (.agg (feeA nm rate basis)),SV.c (.int .i64 day)] (.tuple #[.agg (nwQ nm rate basis day).1.A,.int .i64 (nwQ nm rate basis day).2]):=by
 refine sx_pure tt_ok mixed at78 _ _ rfl rfl fun w=>?_
 have F1:=format_v hb
 have P1:=pct_z hr
 have N1:=name_t nm hn
 have B1:=between_a hr (n:=1) (by unfold Bd;decide) (by decide)
 have W1:=whole1_z (n:=0) (by decide) (by decide)
 have A0:=feeA_0 nm rate basis
 have A1:=feeA_1 nm rate basis
 have A2:=feeA_2 nm rate basis
 have AS:=(feeA_fits nm rate basis).size
 have RF:=rate.A_fits
 have bad:termB nm rate basis=false→(Value.tuple #[.agg ti71.zero,.int .i64 190])=.tuple #[.agg (nwQ nm rate basis day).1.A,.int .i64 (nwQ nm rate basis day).2]:=fun h=>by
  unfold nwQ;rw [h,← acZ];rfl
 have ht:termB nm rate basis=(usable nm && (pctB rate && (betQ rate 0 1 && inB basis 1 4))):=rfl
 generalize feeA nm rate basis=FA at *
 have hp:pctB rate=decide ((pctZ rate).2=0):=rfl
 generalize pctZ rate=PZ at *
 obtain ⟨ps,pe⟩:=PZ
 refine ⟨AS,_,A2,.inl ⟨_,F1,by decide,_,A1,.inl ⟨_,P1,?_⟩⟩⟩
 have nf:∀ {p:Prop},true=false→p:=fun h=>by cases h
 have nt:∀ {p:Prop},false=true→p:=fun h=>by cases h
 have zf:Fits ti71.zero 136:=acZ ▸ acZero.fits
 cases h1:inB basis 1 4
 ·exact ⟨nf,fun _=>⟨nf,fun _=>⟨nf,fun _=>⟨fun _=>⟨_,rfl,zf,bad (by rw [ht,h1];simp),trivial⟩,nf⟩⟩⟩⟩
 refine ⟨fun _=>?_,nt⟩
 refine ⟨fun c2=>?_,fun c2=>?_⟩
 case refine_2 =>
  have c2:(pe != 0)=true:=c2
  have e2:pctB rate=false:=by rw [hp];simpa using c2
  exact ⟨nf,fun _=>⟨fun _=>⟨_,rfl,zf,bad (by rw [ht,e2];simp),trivial⟩,nf⟩⟩
 have c2:(pe != 0)=false:=c2
 have e2:pctB rate=true:=by rw [hp];simpa using c2
 refine ⟨_,A0,.inl ⟨_,N1,fun c3=>?_,fun c3=>?_⟩⟩
 case refine_2 =>
  have c3:=bnot_t c3
  exact ⟨fun _=>⟨_,rfl,zf,bad (by rw [ht,c3];simp),trivial⟩,nf⟩
 have c3:=bnot_f c3
 refine ⟨by decide,_,A1,.inl ⟨_,B1,fun c4=>?_,fun c4=>?_⟩⟩
 case refine_1 =>
  have c4:=bnot_t c4
  exact ⟨_,rfl,zf,bad (by rw [ht,c4];simp),trivial⟩
 have c4:=bnot_f c4
 have ht:termB nm rate basis=true:=by rw [ht,c3,e2,c4,h1];rfl
 clear bad
 have q1:(day < 0∨day > 73048)→nwQ nm rate basis day=(acZero,50):=fun h=>by unfold nwQ;rw [if_pos ht,if_pos h]
 have q2:¬ (day < 0∨day > 73048)→nwQ nm rate basis day=(⟨nm,rate,basis,.of 0 1,0,day⟩,0):=fun h=>by unfold nwQ;rw [if_pos ht,if_neg h]
 generalize nwQ nm rate basis day=NQ at *
 refine ⟨fun c5=>⟨fun c6=>?_,fun c6=>?_⟩,fun c5=>?_⟩
 ·have c6:=of_decide_eq_true (show decide (day > 73048)=true from c6)
  exact ⟨_,rfl,zf,by rw [q1 (.inr c6),← acZ];rfl,trivial⟩
 ·have c6:=of_decide_eq_false (show decide (day > 73048)=false from c6)
  have c5:=of_decide_eq_false (show decide (day < 0)=false from c5)
  refine ⟨_,A0,by decide,_,A1,_,A2,.inl ⟨_,W1,_,fill_ac5 nm rate basis day (RQ.of 0 1) rfl,AcQ.fits _,by kernel_rfl,by rw [q2 (by omega)];rfl,trivial⟩⟩
 ·have c5:=of_decide_eq_true (show decide (day < 0)=true from c5)
  exact ⟨fun _=>⟨_,rfl,zf,by rw [q1 (.inl c5),← acZ];rfl,trivial⟩,nf⟩
def AcQ.beq (a b:AcQ):Bool:=decide (a.nm=b.nm) && (a.rate.beq b.rate && ((a.basis == b.basis) && (a.exact.beq b.exact && ((a.paid == b.paid) && ((a.til == b.til) && true)))))
theorem eq_ac_raw {d:Nat} {a b:AcQ} (ha:a.In) (hb:b.In) (w:World):(Op.equalIn (d+1+1+1+1+1) 71 (.agg a.A) (.agg b.A)).run Tryz.prog w=.ok (a.beq b) w:=by
 rw [run_equalIn_struct w (d+1+1+1+1) 71 _ _ (by simp only [Program.fieldsOf,Tryz.underlying71]) (by kernel_rfl)]
 rw [show (Tryz.prog.fieldsOf 71).toList=[⟨ "Name",9,0,false,"","",0⟩,⟨ "Rate",33,1,false,"","",16⟩,⟨ "Basis",3,67,false,"","",280⟩,⟨ "Exact",33,68,false,"","",288⟩,⟨ "Paid",3,134,false,"","",552⟩,⟨ "Until",3,135,false,"","",560⟩] from by simp only [Program.fieldsOf,Tryz.underlying71]]
 refine eqF_cons (by decide) (part_cell tok9 rfl a.g0 w) (part_cell tok9 rfl b.g0 w) (eq_str _ _ w) fun _=>?_
 refine eqF_cons (a:=.agg a.rate.A) (b:=.agg b.rate.A) (by decide) ?_ ?_ (eq_ratio_raw ha.rate hb.rate w) fun _=>?_
 ·rw [part_agg tok33 rfl _ _ w];exact congrArg (fun x=>Result.ok (Value.agg x) w) a.grate
 ·rw [part_agg tok33 rfl _ _ w];exact congrArg (fun x=>Result.ok (Value.agg x) w) b.grate
 refine eqF_cons (by decide) (part_cell tok3 rfl a.g67 w) (part_cell tok3 rfl b.g67 w) (eq_int64 _ Tryz.underlying3 _ _ w) fun _=>?_
 refine eqF_cons (a:=.agg a.exact.A) (b:=.agg b.exact.A) (by decide) ?_ ?_ (eq_ratio_raw ha.exact hb.exact w) fun _=>?_
 ·rw [part_agg tok33 rfl _ _ w];exact congrArg (fun x=>Result.ok (Value.agg x) w) a.gexact
 ·rw [part_agg tok33 rfl _ _ w];exact congrArg (fun x=>Result.ok (Value.agg x) w) b.gexact
 refine eqF_cons (by decide) (part_cell tok3 rfl a.g134 w) (part_cell tok3 rfl b.g134 w) (eq_int64 _ Tryz.underlying3 _ _ w) fun _=>?_
 refine eqF_cons (by decide) (part_cell tok3 rfl a.g135 w) (part_cell tok3 rfl b.g135 w) (eq_int64 _ Tryz.underlying3 _ _ w) fun _=>eqF_nil
theorem guard_ac:Tryz.prog.eqGuardType Tryz.prog.depth 71=false:=by kernel_rfl
theorem AcQ.beq_self (a:AcQ):a.beq a=true:=by simp [AcQ.beq,RQ.beq_self]
theorem eqs_ac {E:Env} (hE:E.P=Tryz.prog) {a:AcQ} (ha:a.In) {u v:Operand}:Runs E (do eqGuard .eql 71 u v (.agg a.A) (.agg a.A);binOp .eql 71 (.agg a.A) (.agg a.A)) (.bool true):=by
 have:=runs_eql (A:=a.A) (B:=a.A) (x:=u) (y:=v) (by rw [hE];exact guard_ac) fun w=>by rw [hE];exact eq_ac_raw ha ha w
 rwa [AcQ.beq_self] at this
theorem valid_a {a:AcQ} (ha:a.In):Pure Tryz.prog 33 [SV.c (.agg a.A)] (.bool (accOk a)):=by
 refine sx_pure tt_ok mixed at33 _ _ rfl rfl fun w=>?_
 have A0:=a.g0
 have A1:=a.grate
 have A2:=a.g67
 have A3:=a.gexact
 have A4:=a.g134
 have A5:=a.g135
 have AS:=a.size
 have N1:=new_a (day:=a.til) ha.nm ha.rate ha.basis
 have W1:=whole1_z (n:=0) (by decide) (by decide)
 have F3:=fill_ac3 a.nm a.rate a.basis rfl
 have FF:=fill_fee a.nm a.rate a.basis rfl
 have C1:=AcQ.fits ⟨a.nm,a.rate,a.basis,zeroQ,0,0⟩
 have NF:=(nwQ a.nm a.rate a.basis a.til).1.fits
 have X1:=AcQ.setexact ⟨a.nm,a.rate,a.basis,zeroQ,0,0⟩ (RQ.of 0 1)
 have X2:=AcQ.settil ⟨a.nm,a.rate,a.basis,.of 0 1,0,0⟩ a.til
 have B1:=between_a ha.exact (n:=1000000000000000) (by unfold Bd;decide) (by decide)
 have R1:=rounded_a ha.exact
 have E1:=fun (u v:Operand)=>eqs_ac (E:=(envP Tryz.prog tt Tryz.f33.ntmps w).toEnv) rfl (a:=⟨a.nm,a.rate,a.basis,.of 0 1,0,a.til⟩) ⟨ha.nm,ha.rate,ha.basis,RQ.of_in (by decide) (by decide),⟨by show (-9223372036854775808:Int)≤0;decide,by show (0:Int)≤9223372036854775807;decide⟩,ha.til⟩ (u:=u) (v:=v)
 have Z0:=(RQ.of 0 1).A_fits
 have hq:(nwQ a.nm a.rate a.basis a.til).2=0→(nwQ a.nm a.rate a.basis a.til).1=⟨a.nm,a.rate,a.basis,.of 0 1,0,a.til⟩∧termB a.nm a.rate a.basis=true∧inB a.til 0 73048=true:=fun h=>by
  unfold nwQ at h ⊢
  split at h
  ·rename_i h1
   split at h
   ·cases h
   ·rename_i h2
    rw [if_pos h1,if_neg h2]
    refine ⟨rfl,h1,?_⟩
    unfold inB
    rw [← Bool.decide_and,decide_eq_true (by omega)]
  ·cases h
 have hn:(nwQ a.nm a.rate a.basis a.til).2≠0→accOk a=false:=fun h=>by
  unfold nwQ at h
  split at h
  ·split at h
   ·rename_i h2
    have:inB a.til 0 73048=false:=by unfold inB;rw [← Bool.decide_and,decide_eq_false (by omega)]
    unfold accOk;rw [this];simp
   ·exact absurd rfl h
  ·rename_i h1
   unfold accOk;rw [show termB a.nm a.rate a.basis=false by simpa using h1];rfl
 have hk:termB a.nm a.rate a.basis=true→inB a.til 0 73048=true→accOk a=(betQ a.exact 0 1000000000000000 && (decide (0≤a.paid) && decide (a.paid≤(rndI (rndQ a.exact 0 6)).1))):=fun h1 h2=>by
  unfold accOk owedQ;rw [h1,h2];simp
 have nt:∀ {p:Prop},false=true→p:=fun h=>by cases h
 generalize accOk a=AO at *
 generalize nwQ a.nm a.rate a.basis a.til=NQ at *
 obtain ⟨N,e⟩:=NQ
 refine ⟨AS,_,A0,by decide,_,A1,_,A2,_,F3,C1,?_⟩
 refine ⟨_,A0,by decide,_,A1,_,A2,_,FF,_,A5,.inl ⟨_,N1,NF,?_⟩⟩
 refine .inl ⟨_,W1,_,A5,by decide,Z0,_,X1,by decide,rfl,_,X2,by kernel_rfl,?_⟩
 refine ⟨fun c=>?_,fun c=>?_⟩
 case refine_2 =>
  have c:(e == 0)=false:=c
  exact ⟨nt,fun _=>⟨nt,fun _=>⟨nt,fun _=>⟨by kernel_rfl,bv (by rw [hn (by simpa using c)]),trivial⟩⟩⟩⟩
 have c:(e == 0)=true:=c
 obtain ⟨h1,h2,h3⟩:=hq (by simpa using c)
 have h1:N=_:=h1
 subst h1
 have hk:=hk h2 h3
 clear hn hq
 refine ⟨_,E1 _ _,fun _=>?_,fun h=>absurd h (by decide)⟩
 refine ⟨by decide,_,A3,.inl ⟨_,B1,fun c2=>?_,fun c2=>?_⟩⟩
 case refine_2 =>
  have c2:betQ a.exact 0 1000000000000000=false:=c2
  exact ⟨nt,fun _=>⟨by kernel_rfl,bv (by rw [hk,c2];rfl),trivial⟩⟩
 have c2:betQ a.exact 0 1000000000000000=true:=c2
 rw [c2,Bool.true_and] at hk
 refine ⟨_,A4,fun c3=>?_,fun c3=>?_⟩
 case refine_2 =>
  have c3:decide (a.paid ≥ 0)=false:=c3
  exact ⟨by kernel_rfl,bv (by rw [hk,show decide (0≤a.paid)=false from c3];rfl),trivial⟩
 have c3:decide (a.paid ≥ 0)=true:=c3
 rw [show decide (0≤a.paid)=true from c3,Bool.true_and] at hk
 refine ⟨_,A4,by decide,_,A3,.inl ⟨_,R1,?_⟩⟩
 exact ⟨by kernel_rfl,bv hk.symm,trivial⟩
theorem booked_a {a:AcQ} (ha:a.In):Pure Tryz.prog 327 [SV.c (.agg a.A)] (.tuple #[.int .i64 (bkdQ a).1,.int .i64 (bkdQ a).2]):=by
 refine sx_pure tt_ok mixed at327 _ _ rfl rfl fun w=>?_
 have A3:=a.gexact
 have A4:=a.g134
 have AS:=a.size
 have V1:=valid_a ha
 have R1:=rounded_a ha.exact
 have e1:accOk a=false→bkdQ a=(0,190):=fun h=>by unfold bkdQ;rw [h];rfl
 have e2:accOk a=true→bkdQ a=(owedQ a - a.paid,0):=fun h=>by unfold bkdQ;rw [h];rfl
 have hp:accOk a=true→0≤a.paid∧a.paid≤owedQ a:=fun h=>by
  unfold accOk at h
  simp only [Bool.and_eq_true,decide_eq_true_eq] at h
  exact ⟨h.2.2.1,h.2.2.2.1⟩
 have hb : -1000000000000000≤owedQ a∧owedQ a≤1000000000000000:=rndI_bd _
 have ho:owedQ a=(rndI (rndQ a.exact 0 6)).1:=rfl
 generalize bkdQ a=BQ at *
 generalize accOk a=AO at *
 generalize a.A=AA at *
 refine ⟨AS,.inl ⟨_,V1,fun c=>?_,fun c=>?_⟩⟩
 ·have c:=bnot_t c
  exact ⟨by rw [e1 c];rfl,trivial⟩
 ·have c:=bnot_f c
  have c0:=hp c
  have hw:IntKind.i64.wrap ((rndI (rndQ a.exact 0 6)).1 - a.paid)=owedQ a - a.paid:=by rw [← ho];exact i64_in (by omega)
  refine ⟨by decide,_,A3,.inl ⟨_,R1,_,A4,by kernel_rfl,?_,trivial⟩⟩
  rw [e2 c,← hw];rfl
theorem check1_v {a:AcQ} (ha:a.In):Pure Tryz.prog 32 [SV.c (.agg a.A)] (.bool (!accOk a)):=by
 refine sx_pure tt_ok mixed at32 _ _ rfl rfl fun w=>?_
 exact ⟨a.size,.inl ⟨_,valid_a ha,rfl,trivial⟩⟩
theorem acc_bad {xs:List AcQ} {i:Nat} {y:AcQ} (hy:xs[i]? = some y) (h:accOk y=false):xs.all accOk=false:=by
 rw [List.all_eq_false]
 exact ⟨y,List.mem_of_getElem? hy,by rw [h];simp⟩
theorem acc_good {xs:List AcQ} (h:∀ (j:Nat) y,xs[j]? = some y→accOk y=true):xs.all accOk=true:=by
 rw [List.all_eq_true]
 intro x hx
 obtain ⟨j,hj⟩:=List.getElem?_of_mem hx
 exact h j x hj
theorem indexF_v {E:Env} (hE:E.P=Tryz.prog) {v:Value} {xs:List AcQ} (hv:Lst E v 136 xs.length (cat AcQ.A xs)) (hn:xs.length≤2000000000000) (hin:∀ y∈xs,y.In):OwnC E 77 [SV.c v,SV.c (fnW 32)] [] (fun r U=>(∃ n:Int,r=.int .i64 n∧decide (n ≥ 0)=!(xs.all accOk))∧U=[]):=by
 refine sx_ownC [] tt_ok mixed at77 E hE [SV.c v,SV.c (fnW 32)] [] _ rfl rfl fun w X β hT=>?_
 obtain ⟨a,cap,rfl,hc,h4⟩:=(hv.of_old hT).shape
 refine ⟨_,fun w' _=>run_len_sl Tryz.underlying37 w',?_⟩
 refine ⟨fun q f m=>∃ (i:Nat),q=xs.length - i∧i≤xs.length∧(∀ (j:Nat) y,j < i→xs[j]? = some y→accOk y=true)∧f=[(0,SV.c (.slice a xs.length cap)),(1,SV.c (fnW 32)),(6,SV.c (.slice a xs.length cap)),(7,SV.c (.int .i64 (xs.length:Nat))),(8,SV.c (.int .i64 (i:Nat)))]∧m=[],xs.length,⟨_,_,⟨0,rfl,by omega,fun j y h=>by omega,rfl,rfl⟩,⟨rfl,rfl,rfl,rfl,rfl,trivial⟩,trivial,rfl⟩,?_⟩
 rintro q f m ⟨i,rfl,hi,hok,rfl,rfl⟩
 refine ⟨fun h=>?_,fun h=>?_⟩
 ·have h:i < xs.length:=by have:=of_decide_eq_true h;omega
  obtain ⟨b,o,rfl,h5⟩:=h4 (by omega)
  obtain ⟨y,hy⟩:∃ y,xs[i]? = some y:=⟨_,List.getElem?_eq_getElem h⟩
  have hE':VOk (envC Tryz.prog tt Tryz.f77.ntmps w X (tiedK [] β)):=tt_ok
  have L1:=lst_elem hE' h5 AcQ.size hy (ty:=71) (ti:=ti71) rfl rfl rfl (p:=o+(i:Int).toNat*136) rfl
  have K1:=check1_v (hin y (List.mem_of_getElem? hy))
  generalize hY:y.A=YA at L1 K1
  refine ⟨by omega,by omega,.inl ⟨_,L1,.inl ⟨_,K1,fun c=>?_,fun c=>?_⟩⟩⟩
  ·have c:=bnot_t c
   have hb:=acc_bad hy c
   exact ⟨[],[],⟨⟨(i:Nat),rfl,by rw [hb];simp⟩,rfl⟩,trivial,rfl⟩
  ·have c:=bnot_f c
   refine ⟨xs.length - (i+1),_,_,by omega,⟨i+1,rfl,by omega,fun j z hj hz=>?_,rfl,rfl⟩,⟨rfl,rfl,rfl,rfl,c_int (i64_succ (by omega)),trivial⟩,trivial,rfl⟩
   rcases Nat.lt_or_ge j i with h9 | h9
   ·exact hok j z h9 hz
   ·have:j=i:=by omega
    subst this
    rw [hy] at hz;cases hz
    exact c
 ·have h:i=xs.length:=by have:=of_decide_eq_false h;omega
  subst h
  have hg:=acc_good fun j y hy=>hok j y (List.getElem?_eq_some_iff.1 hy).1 hy
  exact ⟨[],[],⟨⟨-1,rfl,by rw [hg];rfl⟩,rfl⟩,trivial,rfl⟩
theorem containsF_v {E:Env} (hE:E.P=Tryz.prog) {v:Value} {xs:List AcQ} (hv:Lst E v 136 xs.length (cat AcQ.A xs)) (hn:xs.length≤2000000000000) (hin:∀ y∈xs,y.In):OwnC E 31 [SV.c v,SV.c (fnW 32)] [] (fun r U=>r=.bool (!(xs.all accOk))∧U=[]):=by
 refine sx_ownC [] tt_ok mixed at31 E hE [SV.c v,SV.c (fnW 32)] [] _ rfl rfl fun w X β hT=>?_
 have I1:=indexF_v rfl (hv.of_old hT) hn hin
 refine .inr (.inr (.inr ⟨[],[],[_,_],[],_,I1,rfl,trivial,rfl,trivial,?_⟩))
 rintro r U ⟨⟨n,rfl,h1⟩,rfl⟩
 exact ⟨rfl,[],[],⟨by rw [← h1];rfl,rfl⟩,trivial,rfl⟩
theorem other_n {E:Env} (hE:E.P=Tryz.prog) {y n:NeQ}:OwnC E 76 [SV.c (.agg y.A),SV.ptr 7000 0] [(7000,Blk.row 127 68 n.A)] (fun x U=>x=.bool (decide (y.ins=n.ins))∧U=[(7000,Blk.row 127 68 n.A)]):=by
 refine sx_ownC [] tt_ok mixed at76 E hE [SV.c (.agg y.A),SV.ptr 7000 0] [(7000,Blk.row 127 68 n.A)] _ rfl rfl fun w X β hT=>?_
 have Y0:=y.g0
 have N0:=n.g0
 have YF:=y.fits
 generalize y.A=YA at *
 generalize n.A=NA at *
 refine ⟨YF.size,_,Y0,_,N0,?_⟩
 refine ⟨[(7000,Blk.row 127 68 NA)],[],⟨?_,rfl⟩,⟨rfl,trivial⟩,rfl⟩
 rw [← S_beq];rfl
theorem nes_any {xs:List NeQ} {i:Nat} {y n:NeQ} (hy:xs[i]? = some y) (h:decide (y.ins=n.ins)=true):(xs.any fun m=>decide (m.ins=n.ins))=true:=by
 rw [List.any_eq_true]
 exact ⟨y,List.mem_of_getElem? hy,h⟩
theorem nes_none {xs:List NeQ} {n:NeQ} (h:∀ (j:Nat) y,xs[j]? = some y→decide (y.ins=n.ins)=false):(xs.any fun m=>decide (m.ins=n.ins))=false:=by
 rw [List.any_eq_false]
 intro x hx
 obtain ⟨j,hj⟩:=List.getElem?_of_mem hx
 rw [h j x hj];simp
theorem indexF_n {E:Env} (hE:E.P=Tryz.prog) {v:Value} {xs:List NeQ} {n:NeQ} {l:Nat} (hl:l=xs.length) (hv:Lst E v 68 l (cat NeQ.A xs)) (hn:xs.length≤2000000000000):OwnC E 128 [SV.c v,SV.clo 76 [7000]] [(7000,Blk.row 127 68 n.A)] (fun r U=>(∃ k:Int,r=.int .i64 k∧decide (k ≥ 0)=(xs.any fun m=>decide (m.ins=n.ins)))∧U=[(7000,Blk.row 127 68 n.A)]):=by
 subst hl
 refine sx_ownC [] tt_ok mixed at128 E hE [SV.c v,SV.clo 76 [7000]] [(7000,Blk.row 127 68 n.A)] _ rfl rfl fun w X β hT=>?_
 obtain ⟨a,cap,rfl,hc,h4⟩:=(hv.of_old hT).shape
 have hE2:(envC Tryz.prog tt Tryz.f128.ntmps w X (tiedK [(7000,Blk.row 127 68 n.A)] β)).toEnv.P=Tryz.prog:=rfl
 refine ⟨_,fun w' _=>run_len_sl Tryz.underlying36 w',?_⟩
 refine ⟨fun q f m=>∃ (i:Nat),q=xs.length - i∧i≤xs.length∧(∀ (j:Nat) y,j < i→xs[j]? = some y→decide (y.ins=n.ins)=false)∧f=[(0,SV.c (.slice a xs.length cap)),(1,SV.clo 76 [7000]),(6,SV.c (.slice a xs.length cap)),(7,SV.c (.int .i64 (xs.length:Nat))),(8,SV.c (.int .i64 (i:Nat)))]∧m=[(7000,Blk.row 127 68 n.A)],xs.length,⟨_,_,⟨0,rfl,by omega,fun j y h=>by omega,rfl,rfl⟩,⟨rfl,rfl,rfl,rfl,rfl,trivial⟩,⟨rfl,trivial⟩,rfl⟩,?_⟩
 rintro q f m ⟨i,rfl,hi,hok,rfl,rfl⟩
 refine ⟨fun h=>?_,fun h=>?_⟩
 ·have h:i < xs.length:=by have:=of_decide_eq_true h;omega
  obtain ⟨b,o,rfl,h5⟩:=h4 (by omega)
  obtain ⟨y,hy⟩:∃ y,xs[i]? = some y:=⟨_,List.getElem?_eq_getElem h⟩
  have hE':VOk (envC Tryz.prog tt Tryz.f128.ntmps w X (tiedK [(7000,Blk.row 127 68 n.A)] β)):=tt_ok
  have L1:=lst_elem hE' h5 NeQ.size hy (ty:=127) (ti:=ti127) rfl rfl rfl (p:=o+(i:Int).toNat*68) rfl
  have K1:=other_n hE2 (y:=y) (n:=n)
  generalize hY:y.A=YA at L1 K1
  generalize n.A=NA at *
  refine ⟨by omega,by omega,.inl ⟨_,L1,.inr (.inr (.inl ⟨[],[_,_],[_],_,[_],K1,rfl,⟨rfl,trivial⟩,rfl,rfl,fun c=>?_,fun c=>?_⟩))⟩⟩
  ·have c:decide (y.ins=n.ins)=true:=c
   exact ⟨[(7000,Blk.row 127 68 NA)],[],⟨⟨(i:Nat),rfl,by rw [nes_any hy c];simp⟩,rfl⟩,⟨rfl,trivial⟩,rfl⟩
  ·have c:decide (y.ins=n.ins)=false:=c
   refine ⟨xs.length - (i+1),_,_,by omega,⟨i+1,rfl,by omega,fun j z hj hz=>?_,rfl,rfl⟩,⟨rfl,rfl,rfl,rfl,c_int (i64_succ (by omega)),trivial⟩,⟨rfl,trivial⟩,rfl⟩
   rcases Nat.lt_or_ge j i with h9 | h9
   ·exact hok j z h9 hz
   ·have:j=i:=by omega
    subst this
    rw [hy] at hz;cases hz
    exact c
 ·have h:i=xs.length:=by have:=of_decide_eq_false h;omega
  subst h
  have hg:=nes_none (n:=n) fun j y hy=>hok j y (List.getElem?_eq_some_iff.1 hy).1 hy
  exact ⟨[(7000,Blk.row 127 68 n.A)],[],⟨⟨-1,rfl,by rw [hg];rfl⟩,rfl⟩,⟨rfl,trivial⟩,rfl⟩
theorem containsF_n {E:Env} (hE:E.P=Tryz.prog) {v:Value} {xs:List NeQ} {n:NeQ} {l:Nat} (hl:l=xs.length) (hv:Lst E v 68 l (cat NeQ.A xs)) (hn:xs.length≤2000000000000):OwnC E 75 [SV.c v,SV.clo 76 [7000]] [(7000,Blk.row 127 68 n.A)] (fun r U=>r=.bool (xs.any fun m=>decide (m.ins=n.ins))∧U=[(7000,Blk.row 127 68 n.A)]):=by
 refine sx_ownC [] tt_ok mixed at75 E hE [SV.c v,SV.clo 76 [7000]] [(7000,Blk.row 127 68 n.A)] _ rfl rfl fun w X β hT=>?_
 have I1:=indexF_n rfl (n:=n) hl (hv.of_old hT) hn
 refine .inr (.inr (.inr ⟨[],[],[_,_],[_],_,I1,rfl,⟨rfl,trivial⟩,rfl,trivial,?_⟩))
 rintro r U ⟨⟨k,rfl,h1⟩,rfl⟩
 exact ⟨rfl,[(7000,Blk.row 127 68 n.A)],[],⟨by rw [← h1];rfl,rfl⟩,⟨rfl,trivial⟩,rfl⟩
theorem cmpI_gt0 (a b:Int):decide (cmpI a b > 0)=decide (b < a):=by
 rw [decide_eq_decide];unfold cmpI;split
 ·omega
 ·split<;>omega
theorem nes_price {r:RQ} (hb:(RQ.of 1000000000 1).ok=true):betQ r (-1000000000) 1000000000=!(((absQ r).2 != 0) || decide ((if (absQ r).1.ok && (RQ.of 1000000000 1).ok then cmpI ((absQ r).1.p*(RQ.of 1000000000 1).q) ((RQ.of 1000000000 1).p*(absQ r).1.q) else 0) > 0)):=by
 rw [hb,Bool.and_true,RQ.of_p,RQ.of_q]
 cases hk:r.ok
 ·unfold betQ absQ;rw [hk];rfl
 ·obtain ⟨k1,k2,k3,k4,k5⟩:=RQ.ok_bits hk
  have e:absQ r=(.of (r.p.natAbs:Int) r.q,0):=by unfold absQ;rw [if_pos hk]
  have hok:(RQ.of (r.p.natAbs:Int) r.q).ok=true:=RQ.ok_of (by simpa using k1) k2 k3 (by show Nat.gcd (r.p.natAbs:Int).natAbs r.q.natAbs=1;rw [Int.natAbs_natCast];exact k4)
  rw [e]
  simp only [hok,if_true]
  rw [RQ.of_p,RQ.of_q,cmpI_gt0,betQ,hk,Bool.true_and,← Bool.decide_and,Bool.eq_iff_iff]
  simp
  omega
theorem nested_v {E:Env} (hE:E.P=Tryz.prog) {v:Value} {xs:List NeQ} (hv:Lst E v 68 xs.length (cat NeQ.A xs)) (hn:xs.length≤2000000000000) (hin:∀ y∈xs,y.In):OwnC E 30 [SV.c v] [] (fun r U=>r=.bool (nesOk xs)∧U=[]):=by
 refine sx_ownC [] tt_ok mixed at30 E hE [SV.c v] [] _ rfl rfl fun w X β hT=>?_
 have hv':=hv.of_old hT
 obtain ⟨a,cap,rfl,hc,h4⟩:=id hv'.shape
 have hE2:(envC Tryz.prog tt Tryz.f30.ntmps w X (tiedK [] β)).toEnv.P=Tryz.prog:=rfl
 have W1:=whole1_z (n:=1000000000) (by decide) (by decide)
 have hb9:(RQ.of 1000000000 1).ok=true:=of_ok (by unfold Bd;decide)
 refine ⟨_,fun w' _=>run_len_sl Tryz.underlying36 w',?_⟩
 refine ⟨fun q f m=>∃ (i:Nat),q=xs.length - i∧i≤xs.length∧(∀ j,j < i→nes1 xs j=true)∧f=[(0,SV.c (.slice a xs.length cap)),(9,SV.c (.slice a xs.length cap)),(10,SV.c (.int .i64 (xs.length:Nat))),(11,SV.c (.int .i64 (i:Nat)))]∧m=[],xs.length,⟨_,_,⟨0,rfl,by omega,fun j h=>by omega,rfl,rfl⟩,⟨rfl,rfl,rfl,rfl,trivial⟩,trivial,rfl⟩,?_⟩
 rintro q f m ⟨i,rfl,hi,hok,rfl,rfl⟩
 refine ⟨fun h=>?_,fun h=>?_⟩
 ·have h:i < xs.length:=by have:=of_decide_eq_true h;omega
  obtain ⟨b,o,rfl,h5⟩:=h4 (by omega)
  obtain ⟨y,hy⟩:∃ y,xs[i]? = some y:=⟨_,List.getElem?_eq_getElem h⟩
  have hyi:=hin y (List.mem_of_getElem? hy)
  have hE':VOk (envC Tryz.prog tt Tryz.f30.ntmps w X (tiedK [] β)):=tt_ok
  have L1:=lst_elem hE' h5 NeQ.size hy (ty:=127) (ti:=ti127) rfl rfl rfl (p:=o+(i:Int).toNat*68) rfl
  have A1:=absR_z hyi.price
  have C1:=cmpR_z (absQ_in hyi.price) (s:=RQ.of 1000000000 1) (RQ.of_in (i64_lt (n:=1000000000) (by decide) (by decide)) (by decide))
  have I1:=capitals_v y.ins 1 12 true hyi.ins
  have ei:(capAll true y.ins && (decide ((1:Int)≤y.ins.length) && decide ((y.ins.length:Int)≤12)))=insOk y.ins:=by
   unfold insOk
   congr 2
   ·rw [decide_eq_decide];omega
   ·rw [decide_eq_decide];omega
  rw [ei] at I1
  have K1:=currency_v y.cur hyi.cur
  have S1:=runs_shi hE' Tryz.underlying36 (j:=ti127) rfl (a:=some ⟨b,o,none⟩) (n:=xs.length) (cap:=cap) (k:=.i64) i rfl (by omega)
  have hlt:(xs.take i).length=i:=by rw [List.length_take,Nat.min_eq_left (by omega)]
  have T1:=Lst.take hv' (i:=i) (by omega) (cat_take NeQ.size xs i (by omega))
  have H1:=containsF_n hE2 (n:=y) (xs:=xs.take i) hlt.symm T1 (by omega)
  have hp:=nes_price (r:=y.price) hb9
  have hs:nes1 xs i=((betQ y.price (-1000000000) 1000000000 && (insOk y.ins && curOk y.cur)) && !((xs.take i).any fun m=>decide (m.ins=y.ins))):=by unfold nes1;rw [hy]
  have Y0:=y.g0
  have Y1:=y.g1
  have YP:=y.gprice
  have YF:=y.fits
  have AF:=(absQ y.price).1.A_fits
  have WF:=(RQ.of 1000000000 1).A_fits
  have bad:nes1 xs i=false→nesOk xs=false:=fun e=>by unfold nesOk;rw [allAt_bad h e];rfl
  generalize hN1:nes1 xs i=N1 at bad hs
  generalize hAQ:absQ y.price=AQ at *
  obtain ⟨aq,ae⟩:=AQ
  generalize (if (aq,ae).1.ok && (RQ.of 1000000000 1).ok then cmpI ((aq,ae).1.p*(RQ.of 1000000000 1).q) ((RQ.of 1000000000 1).p*(aq,ae).1.q) else 0)=HI at *
  generalize y.A=YA at *
  have nf:∀ {p:Prop},true=false→p:=fun h=>by cases h
  refine ⟨by omega,by omega,.inl ⟨_,L1,YF,?_⟩⟩
  refine ⟨by decide,_,YP,.inl ⟨_,A1,AF,?_⟩⟩
  refine .inl ⟨_,W1,.inl ⟨_,C1,by kernel_rfl,?_⟩⟩
  refine ⟨fun c1=>?_,fun c1=>?_⟩
  case refine_2 =>
   have c1:(ae != 0)=true:=c1
   exact ⟨nf,fun _=>⟨nf,fun _=>⟨fun _=>⟨[],[],⟨bv (bad (by rw [hs,hp,c1];rfl)).symm,rfl⟩,trivial,rfl⟩,nf⟩⟩⟩
  have c1:(ae != 0)=false:=c1
  refine ⟨fun c2=>?_,fun c2=>?_⟩
  case refine_2 =>
   have c2:decide (HI > 0)=true:=c2
   exact ⟨nf,fun _=>⟨fun _=>⟨[],[],⟨bv (bad (by rw [hs,hp,c2];simp)).symm,rfl⟩,trivial,rfl⟩,nf⟩⟩
  have c2:decide (HI > 0)=false:=c2
  refine ⟨_,Y0,.inl ⟨_,I1,fun c3=>?_,fun c3=>?_⟩⟩
  case refine_2 =>
   have c3:insOk y.ins=false:=bnot_t c3
   exact ⟨fun _=>⟨[],[],⟨bv (bad (by rw [hs,c3];simp)).symm,rfl⟩,trivial,rfl⟩,nf⟩
  have c3:insOk y.ins=true:=bnot_f c3
  refine ⟨_,Y1,.inl ⟨_,K1,fun c4=>?_,fun c4=>?_⟩⟩
  ·have c4:curOk y.cur=false:=bnot_t c4
   exact ⟨[],[],⟨bv (bad (by rw [hs,c4];simp)).symm,rfl⟩,trivial,rfl⟩
  have c4:curOk y.cur=true:=bnot_f c4
  refine ⟨_,S1,.inr (.inr (.inl ⟨[(7000,4)],[_,_],[_],_,[_],H1,rfl,⟨rfl,trivial⟩,rfl,rfl,fun c5=>?_,fun c5=>?_⟩))⟩
  ·have c5:((xs.take i).any fun m=>decide (m.ins=y.ins))=true:=c5
   exact ⟨[],[],⟨bv (bad (by rw [hs,c5];simp)).symm,rfl⟩,trivial,rfl⟩
  have c5:((xs.take i).any fun m=>decide (m.ins=y.ins))=false:=c5
  have hg:N1=true:=by rw [hs,hp,c1,c2,c3,c4,c5];rfl
  refine ⟨xs.length - (i+1),_,_,by omega,⟨i+1,rfl,by omega,fun j hj=>?_,rfl,rfl⟩,⟨rfl,rfl,rfl,c_int (i64_succ (by omega)),trivial⟩,trivial,rfl⟩
  rcases Nat.lt_or_ge j i with h9 | h9
  ·exact hok j h9
  ·have:j=i:=by omega
   subst this
   rw [hN1];exact hg
 ·have h:i=xs.length:=by have:=of_decide_eq_false h;omega
  subst h
  refine ⟨_,fun w' _=>run_len_sl Tryz.underlying36 w',?_⟩
  refine ⟨[],[],⟨bv ?_,rfl⟩,trivial,rfl⟩
  unfold nesOk
  rw [allAt_good hok,Bool.true_and,decide_eq_decide]
  omega
end Go.Proofs.YtofllflnmmjijaaGreatDoor
