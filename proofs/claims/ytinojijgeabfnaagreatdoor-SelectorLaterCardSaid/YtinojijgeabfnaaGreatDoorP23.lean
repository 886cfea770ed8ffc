/- walks: days and actions that are made. walks: a number that is made. walks: ratios that are made. walks: the law ActionPlays. a tape that came in. plain laws on made ratios, and the walks of the laws ActionValue, ActionDividend, ActionMonotone, ActionInverse; no condition. -/
import Derived.Lib.MinMax
import Derived.Test.YtinojijgeabfnaaGreatDoorP22
set_option maxRecDepth 100000
set_option maxHeartbeats 4000000
namespace Go.Proofs.YtinojijgeabfnaaGreatDoor
open Go Go.RowKit Go.SX
theorem day_g:Gen 18 [] 2 (RI fun i=>0≤i∧i≤73048):=by
 intro zs k hk
 obtain ⟨r1,k1,a1,b1,⟨i1,rfl,c1⟩,O1⟩:=next_g (n:=12) (by decide) zs k (by omega)
 by_cases h0:i1=0
 ·obtain ⟨r2,k2,a2,b2,⟨i2,rfl,c2⟩,O2⟩:=next_g (n:=40) (by decide) zs k1 (by omega)
  refine ⟨_,k2,by omega,by omega,⟨i2,rfl,by omega⟩,fun E v d hE hv=>?_⟩
  refine sx_ownT1 [] tt_ok mixed at18 E hE d (48,2,tb v k,tb v k2) [SV.ptr 1000 0] _ rfl rfl fun w b hT=>?_
  have hv:=hv.of_old hE.symm hT
  subst h0
  exact .inr ⟨_,_,_,O1 _ v 1000 rfl hv,⟨rfl,trivial⟩,rfl,fun _=>.inr ⟨_,_,_,O2 _ v 1000 rfl hv,⟨rfl,trivial⟩,rfl,rfl,rfl,trivial⟩,nofun⟩
 by_cases h1:i1=1
 ·obtain ⟨r2,k2,a2,b2,⟨i2,rfl,c2⟩,O2⟩:=next_g (n:=40) (by decide) zs k1 (by omega)
  refine ⟨_,k2,by omega,by omega,⟨73048 - i2,rfl,by omega⟩,fun E v d hE hv=>?_⟩
  refine sx_ownT1 [] tt_ok mixed at18 E hE d (48,2,tb v k,tb v k2) [SV.ptr 1000 0] _ rfl rfl fun w b hT=>?_
  have hv:=hv.of_old hE.symm hT
  subst h1
  exact .inr ⟨_,_,_,O1 _ v 1000 rfl hv,⟨rfl,trivial⟩,rfl,nofun,fun _=>⟨fun _=>.inr ⟨_,_,_,O2 _ v 1000 rfl hv,⟨rfl,trivial⟩,rfl,vi (i64_in (by omega)),rfl,trivial⟩,nofun⟩⟩
 by_cases h2:i1=2
 ·obtain ⟨r2,k2,a2,b2,⟨i2,rfl,c2⟩,O2⟩:=next_g (n:=73049) (by decide) zs k1 (by omega)
  refine ⟨_,k2,by omega,by omega,⟨i2,rfl,by omega⟩,fun E v d hE hv=>?_⟩
  refine sx_ownT1 [] tt_ok mixed at18 E hE d (48,2,tb v k,tb v k2) [SV.ptr 1000 0] _ rfl rfl fun w b hT=>?_
  have hv:=hv.of_old hE.symm hT
  subst h2
  exact .inr ⟨_,_,_,O1 _ v 1000 rfl hv,⟨rfl,trivial⟩,rfl,nofun,fun _=>⟨nofun,fun _=>⟨fun _=>.inr ⟨_,_,_,O2 _ v 1000 rfl hv,⟨rfl,trivial⟩,rfl,rfl,rfl,trivial⟩,nofun⟩⟩⟩
 by_cases h3:i1=3
 ·obtain ⟨r2,k2,a2,b2,⟨i2,rfl,c2⟩,O2⟩:=pick_g (xs:=[59,60,365,366,1520,8825,36584,36583,36525,9861,9862]) (by decide) (by decide) zs k1 (by omega)
  refine ⟨_,k2,by omega,by omega,⟨i2,rfl,by simp at c2;omega⟩,fun E v d hE hv=>?_⟩
  refine sx_ownT1 [] tt_ok mixed at18 E hE d (48,2,tb v k,tb v k2) [SV.ptr 1000 0] _ rfl rfl fun w b hT=>?_
  have hv:=hv.of_old hE.symm hT
  subst h3
  exact .inr ⟨_,_,_,O1 _ v 1000 rfl hv,⟨rfl,trivial⟩,rfl,nofun,fun _=>⟨nofun,fun _=>⟨nofun,fun _=>⟨fun _=>⟨by decide,by decide,ints [59,60,365,366,1520,8825,36584,36583,36525,9861,9862],by kernel_rfl,rfl,.inr ⟨_,_,_,O2 _ v 1000 21 (by decide) rfl hv,⟨rfl,rfl,trivial⟩,rfl,rfl,rfl,trivial⟩⟩,nofun⟩⟩⟩⟩
 ·obtain ⟨r2,k2,a2,b2,⟨i2,rfl,c2⟩,O2⟩:=next_g (n:=60) (by decide) zs k1 (by omega)
  refine ⟨_,k2,by omega,by omega,⟨9487+i2,rfl,by omega⟩,fun E v d hE hv=>?_⟩
  refine sx_ownT1 [] tt_ok mixed at18 E hE d (48,2,tb v k,tb v k2) [SV.ptr 1000 0] _ rfl rfl fun w b hT=>?_
  have hv:=hv.of_old hE.symm hT
  have n:∀ {j:Int},¬ i1=j→∀ {C:Prop},(i1 == j)=true→C:=fun h _ e=>absurd (eq_of_beq e) h
  exact .inr ⟨_,_,_,O1 _ v 1000 rfl hv,⟨rfl,trivial⟩,rfl,n h0,fun _=>⟨n h1,fun _=>⟨n h2,fun _=>⟨n h3,fun _=>.inr ⟨_,_,_,O2 _ v 1000 rfl hv,⟨rfl,trivial⟩,rfl,vi (i64_in (by omega)),rfl,trivial⟩⟩⟩⟩⟩
theorem AC.set3 (a:AC) (l:List UInt8):a.A.setIfInBounds (0+3) (.string (S l))=({ a with into:=l }:AC).A:=by kernel_rfl
theorem AC.set0 (a:AC) (n:Int):a.A.setIfInBounds (0+0) (.int .i64 n)=({ a with kind:=n }:AC).A:=by kernel_rfl
theorem run_min_ct {P:Program} {ats:Array TypeId} {ty:TypeId} {cs:Array Bool} (x y:Int) (w:World):(builtin .min ats ty cs #[.int .i64 x,.int .i64 y]).run P w=.ok (.value (.int .i64 (min x y))) w:=by
 simp [builtin,Go.Lib.run_min_ints]
end Go.Proofs.YtinojijgeabfnaaGreatDoor
namespace Go.Proofs.YtinojijgeabfnaaGreatDoor
open Go Go.RowKit Go.SX
def nx (zs:List Int) (k:Nat) (n:Int):Int:=foldI (if k < zs.length then zs.getD k 0 else (IntKind.i64.wrap ((k:Nat)*7)).tmod 11) n
end Go.Proofs.YtinojijgeabfnaaGreatDoor
namespace Go.Proofs.YtinojijgeabfnaaGreatDoor
open Go Go.RowKit Go.SX
def rats:List RQ→Array Value
 | []=>#[]
 | x :: r=>x.A++rats r
theorem rats_get:∀ {xs:List RQ} {i:Nat} (h:i < xs.length),(rats xs).extract (0+i*66) (0+i*66+66)=xs[i].A
 | x :: r,0,_=>by
  have:=@ext_mid #[] x.A (rats r) 0 66 rfl x.A_size
  simpa [rats] using this
 | x :: r,i+1,h=>by
  have ih:=rats_get (xs:=r) (i:=i) (by simpa using h)
  rw [rats,Array.extract_append,x.A_size]
  have e1:0+(i+1)*66 - 66=0+i*66:=by omega
  have e2:0+(i+1)*66+66 - 66=0+i*66+66:=by omega
  rw [e1,e2,ih,Array.extract_empty_of_size_le_start (by rw [x.A_size];omega)]
  simp
theorem pickratio4_g {a b c d':RQ} (hin:∀ x∈[a,b,c,d'],x.In):GenL 26 29 (rats [a,b,c,d']) 264 4 1 (RA RQ.In):=by
 intro zs k hk
 obtain ⟨r,k',h4,h5,⟨i,rfl,h6,h7⟩,hO⟩:=next_g (n:=4) (by decide) zs k hk
 have hi:i.toNat < [a,b,c,d'].length:=by show i.toNat < 4;omega
 refine ⟨_,k',h4,h5,⟨[a,b,c,d'][i.toNat],rfl,hin _ (List.getElem_mem hi)⟩,fun E v d e hde hE hv=>?_⟩
 refine sx_ownT2 [] tt_ok mixed at26 E hE d e hde (48,2,tb v k,tb v k') (29,264,rats [a,b,c,d'],rats [a,b,c,d']) [SV.ptr 1000 0,SV.sl 1001 0 4 4] _ rfl rfl fun w b b' hT=>?_
 have:=hO _ v 1000 rfl (hv.of_old hE.symm hT)
 have hoff:0+i.toNat*66+66≤264:=by omega
 exact ⟨nofun,fun _=>.inr ⟨_,_,_,this,⟨rfl,trivial⟩,rfl,h6,by show i < 4;omega,hoff,_,rats_get hi,RQ.A_fits _,rfl,rfl,rfl,trivial⟩⟩
end Go.Proofs.YtinojijgeabfnaaGreatDoor
namespace Go.Proofs.YtinojijgeabfnaaGreatDoor
open Go Go.RowKit Go.SX
theorem fill_tape (a:Option Addr) (len cap:Nat) {pl:List (Nat×Nat)} (hpl:pl=[(0,1),(1,1)]):Instr.fill (fun k=>pl[k]?) ti48.zero [(0,.slice a len cap)]=some (tb (.slice a len cap) 0):=by
 subst hpl
 rfl
theorem fill_rats3 (a b c:RQ):Instr.fill (fun k=>some (k*ti29.size,ti29.size)) (madeCells ti29.zero (3*ti29.size)) [(0,.agg a.A),(1,.agg b.A),(2,.agg c.A)]=some (rats [a,b,c]):=by kernel_rfl
end Go.Proofs.YtinojijgeabfnaaGreatDoor
namespace Go.Proofs.YtinojijgeabfnaaGreatDoor
open Go Go.RowKit Go.SX
open ChangeShapes
theorem add_flat (b o n:Nat):(⟨b,o,none⟩:Addr).add n=⟨b,o+n,none⟩:=by simp [Addr.add]
theorem cell_in {w:World} {b o:Nat} {v:Value} (h:w.cell? ⟨b,o,none⟩=some v):b < w.heap.size:=by
 by_cases hb:b < w.heap.size
 ·exact hb
 ·have:w.heap[b]? = none:=Array.getElem?_eq_none (by omega)
  simp [World.cell?,this] at h
theorem cell_same {w w':World} {b o:Nat} (h:w'.heap[b]? = w.heap[b]?):w'.cell? ⟨b,o,none⟩=w.cell? ⟨b,o,none⟩:=by
 simp only [World.cell?,h]
theorem tp_of {H:Type} {enc:TypeId×Value→H} {W:World} {fuel nt:Nat} {c:Value} {y:DataW H×List MemPlace} (h:DataW.trod enc Tryz.prog W 0 (fun _=>true) true fuel 45 [c]=some y):∃ zs,Tp (envP Tryz.prog tt nt W).toEnv c zs:=by
 rcases open_ints Tryz.underlying45 Tryz.underlying3 (by kernel_rfl) h with ⟨hcs,_⟩ | ⟨a,len,cap,zs,hcs,_,hl,hm,hz,_,hcell,_⟩
 ·simp only [List.cons.injEq,and_true] at hcs
  subst hcs
  exact ⟨[],none,0,rfl,fun i hi=>absurd hi (by simp)⟩
 ·simp only [List.cons.injEq,and_true] at hcs
  subst hcs
  simp only [if_true] at hz
  have hlz:(zs.take len).length=len:=by simp;omega
  refine ⟨zs.take len,some a,cap,by rw [hlz],fun i hi=>?_⟩
  rw [hlz] at hi
  have hc:=hcell i (by omega)
  have hsp:=World.cell?_spot (hcell 0 (by omega))
  obtain ⟨b,o,sp⟩:=a
  have h2:sp=none:=by simpa [Addr.add] using hsp
  subst h2
  rw [add_flat] at hc
  have hb:=cell_in hc
  refine ⟨⟨b,o+i,none⟩,fun w' hw=>?_,fun w' hw=>?_⟩
  ·simp only [Instr.indexAt,asIntOf,Sem.run_bind,run_underlying Tryz.underlying45,Result.andThen_ok,Sem.run_pure]
   have hcc:0≤(i:Int)∧(i:Int) < (len:Int):=by omega
   simp only [hcc,and_self,if_true,Sem.run_bind,Go.SX.run_sizeOf tok3,Result.andThen_ok,Sem.run_pure]
   have e:(i:Int).toNat*ti3.size=i:=by show i*1=i;omega
   rw [e,add_flat]
  ·have hg:(zs.take len).getD i 0=zs.getD i 0:=by simp [hi]
   rw [hg]
   refine load_cell tok3 ?_ rfl
   rw [cell_same (hw.old b hb (by simp))]
   exact hc
end Go.Proofs.YtinojijgeabfnaaGreatDoor
namespace Go.Proofs.YtinojijgeabfnaaGreatDoor
open Go Go.RowKit Go.SX
theorem mkQ_val {x y:Int} (hy:0 < y) (hx:x.natAbs < 2 ^ e480) (hy2:y.natAbs < 2 ^ e480):∃ r:RQ,mkQ x y=(r,0)∧r.ok=true∧r.p*y=x*r.q∧r.p.natAbs≤x.natAbs∧r.q≤y:=by
 have hg:0 < Int.gcd x y:=Int.gcd_pos_of_ne_zero_right x (by omega)
 have hs:sgn y=1:=by unfold sgn;rw [if_neg (by omega),if_neg (by omega)]
 obtain ⟨p,hp⟩:((Int.gcd x y:Nat):Int) ∣ x:=Int.gcd_dvd_left x y
 obtain ⟨q,hq⟩:((Int.gcd x y:Nat):Int) ∣ y:=Int.gcd_dvd_right x y
 have hg0:((Int.gcd x y:Nat):Int)≠0:=by omega
 have ex:x / ((Int.gcd x y:Nat):Int)=p:=by conv=>lhs;lhs;rw [hp]
                                           exact Int.mul_ediv_cancel_left p hg0
 have ey:y / ((Int.gcd x y:Nat):Int)=q:=by conv=>lhs;lhs;rw [hq]
                                           exact Int.mul_ediv_cancel_left q hg0
 have hgcd:Int.gcd p q=1:=by
  have h1:Int.gcd x y=Int.gcd (((Int.gcd x y:Nat):Int)*p) (((Int.gcd x y:Nat):Int)*q):=by rw [← hp,← hq]
  rw [Int.gcd_mul_left,Int.natAbs_natCast] at h1
  exact Nat.eq_of_mul_eq_mul_left hg (by rw [← h1,Nat.mul_one])
 have hg1:0 < ((Int.gcd x y:Nat):Int):=by omega
 have hmk:mkQ x y=if bl p.natAbs≤480∧bl q.natAbs≤480 then (.of p q,0) else (.of 0 0,10):=by
  unfold mkQ
  rw [if_neg (by omega),hs,Int.one_mul,ex,ey]
 generalize ((Int.gcd x y:Nat):Int)=g at *
 have hq0:0 < q:=by
  rcases Int.lt_trichotomy q 0 with h | h | h
  ·have:=Int.mul_neg_of_pos_of_neg hg1 h;omega
  ·subst h;simp at hq;omega
  ·exact h
 have hpx:p.natAbs≤x.natAbs:=by
  rw [hp,Int.natAbs_mul];exact Nat.le_mul_of_pos_left _ (by omega)
 have hqy:q.natAbs≤y.natAbs:=by
  rw [hq,Int.natAbs_mul];exact Nat.le_mul_of_pos_left _ (by omega)
 have b1:bl p.natAbs≤480:=bl_le (k:=e480) (Nat.lt_of_le_of_lt hpx hx)
 have b2:bl q.natAbs≤480:=bl_le (k:=e480) (Nat.lt_of_le_of_lt hqy hy2)
 refine ⟨.of p q,by rw [hmk,if_pos ⟨b1,b2⟩],?_,?_,?_,?_⟩
 ·unfold RQ.ok RQ.of
  refine decide_eq_true ⟨b1,b2,fun h=>?_,?_,by show 0 < q.natAbs;omega,hgcd⟩
  ·have h:=of_decide_eq_true h
   show p.natAbs≠0
   omega
  ·show decide (q < 0)=false
   exact decide_eq_false (by omega)
 ·rw [RQ.of_p,RQ.of_q]
  conv=>lhs;rw [hq]
  conv=>rhs;rw [hp]
  rw [Int.mul_comm p,Int.mul_assoc,Int.mul_assoc,Int.mul_comm q p]
 ·rw [RQ.of_p];exact hpx
 ·rw [RQ.of_q];omega
theorem mulQ_val {r s:RQ} (hr:r.ok=true) (hs:s.ok=true) {P Q P' Q':Nat} (h1:r.p.natAbs≤P) (h2:r.q.natAbs≤Q) (h3:s.p.natAbs≤P') (h4:s.q.natAbs≤Q') (h5:P*P' < 2 ^ e480) (h6:Q*Q' < 2 ^ e480):∃ t:RQ,mulQ r s=(t,0)∧t.ok=true∧t.p*(r.q*s.q)=r.p*s.p*t.q∧t.p.natAbs≤P*P'∧t.q.natAbs≤Q*Q':=by
 obtain ⟨-,-,q1,-,-⟩:=RQ.ok_bits hr
 obtain ⟨-,-,q2,-,-⟩:=RQ.ok_bits hs
 have e1:(r.p*s.p).natAbs≤P*P':=by rw [Int.natAbs_mul];exact Nat.mul_le_mul h1 h3
 have e2:(r.q*s.q).natAbs≤Q*Q':=by rw [Int.natAbs_mul];exact Nat.mul_le_mul h2 h4
 have hpos:0 < r.q*s.q:=Int.mul_pos q1 q2
 obtain ⟨t,m1,m2,m3,m4,m5⟩:=mkQ_val (x:=r.p*s.p) (y:=r.q*s.q) hpos (Nat.lt_of_le_of_lt e1 h5) (Nat.lt_of_le_of_lt e2 h6)
 obtain ⟨-,-,q3,-,-⟩:=RQ.ok_bits m2
 refine ⟨t,by rw [mulQ,hr,hs];exact m1,m2,m3,Nat.le_trans m4 e1,?_⟩
 refine Nat.le_trans ?_ e2
 generalize r.q*s.q=z at *
 omega
theorem sumQ_val (m:Bool) {r s:RQ} (hr:r.ok=true) (hs:s.ok=true) {P Q P' Q':Nat} (h1:r.p.natAbs≤P) (h2:r.q.natAbs≤Q) (h3:s.p.natAbs≤P') (h4:s.q.natAbs≤Q') (h5:P*Q'+P'*Q < 2 ^ e480) (h6:Q*Q' < 2 ^ e480):∃ t:RQ,sumQ m r s=(t,0)∧t.ok=true∧t.p*(r.q*s.q)=(r.p*s.q+sg m (s.p*r.q))*t.q∧t.p.natAbs≤P*Q'+P'*Q∧t.q.natAbs≤Q*Q':=by
 obtain ⟨-,-,q1,-,-⟩:=RQ.ok_bits hr
 obtain ⟨-,-,q2,-,-⟩:=RQ.ok_bits hs
 have e0:(sg m (s.p*r.q)).natAbs=(s.p*r.q).natAbs:=by cases m<;>simp [sg]
 have e1:(r.p*s.q+sg m (s.p*r.q)).natAbs≤P*Q'+P'*Q:=by
  have a1:(r.p*s.q).natAbs≤P*Q':=by rw [Int.natAbs_mul];exact Nat.mul_le_mul h1 h4
  have a2:(s.p*r.q).natAbs≤P'*Q:=by rw [Int.natAbs_mul];exact Nat.mul_le_mul h3 h2
  have:=Int.natAbs_add_le (r.p*s.q) (sg m (s.p*r.q))
  omega
 have e2:(r.q*s.q).natAbs≤Q*Q':=by rw [Int.natAbs_mul];exact Nat.mul_le_mul h2 h4
 have hpos:0 < r.q*s.q:=Int.mul_pos q1 q2
 obtain ⟨t,m1,m2,m3,m4,m5⟩:=mkQ_val (x:=r.p*s.q+sg m (s.p*r.q)) (y:=r.q*s.q) hpos (Nat.lt_of_le_of_lt e1 h5) (Nat.lt_of_le_of_lt e2 h6)
 obtain ⟨-,-,q3,-,-⟩:=RQ.ok_bits m2
 refine ⟨t,by rw [sumQ,hr,hs];exact m1,m2,m3,Nat.le_trans m4 e1,?_⟩
 refine Nat.le_trans ?_ e2
 generalize r.q*s.q=z at *
 omega
theorem price_val {n d:Int} (h1:0≤n) (h2:n≤200000) (h3:1≤d) (h4:d≤1000000) (h5:d ∣ 1000000):payOk (mkQ n d).1=true∧(mkQ n d).1.ok=true∧0≤(mkQ n d).1.p∧(mkQ n d).1.p.natAbs≤200000∧(mkQ n d).1.q.natAbs≤1000000∧(mkQ n d).1.p*d=n*(mkQ n d).1.q:=by
 have p480:1000000 < 2 ^ e480:=Nat.lt_of_lt_of_le (by decide:1000000 < 2 ^ 20) (Nat.pow_le_pow_right (by omega) (by decide))
 obtain ⟨r,m1,m2,m3,m4,m5⟩:=mkQ_val (x:=n) (y:=d) (by omega) (Nat.lt_of_le_of_lt (by omega) p480) (Nat.lt_of_le_of_lt (by omega) p480)
 rw [m1]
 show payOk r=true∧r.ok=true∧0≤r.p∧r.p.natAbs≤200000∧r.q.natAbs≤1000000∧r.p*d=n*r.q
 obtain ⟨-,-,q1,hg,-⟩:=RQ.ok_bits m2
 have hp0:0≤r.p:=by
  rcases Int.lt_or_le r.p 0 with h | h
  ·have a1:r.p*d < 0:=Int.mul_neg_of_neg_of_pos h (by omega)
   have a2:0≤n*r.q:=Int.mul_nonneg h1 (by omega)
   omega
  ·exact h
 have hqd:r.q ∣ d:=by
  have a1:r.q ∣ r.p*d:=⟨n,by rw [m3,Int.mul_comm]⟩
  have a2:r.q.natAbs ∣ r.p.natAbs*d.natAbs:=by rw [← Int.natAbs_mul];exact Int.natAbs_dvd_natAbs.2 a1
  have a3:Nat.Coprime r.q.natAbs r.p.natAbs:=by rw [Nat.Coprime,Nat.gcd_comm];exact hg
  exact Int.natAbs_dvd_natAbs.1 (Nat.Coprime.dvd_of_dvd_mul_left a3 a2)
 have hq6:r.q ∣ r.p*1000000:=Int.dvd_trans (Int.dvd_trans hqd h5) (Int.dvd_mul_left _ _)
 refine ⟨?_,m2,hp0,by omega,by omega,m3⟩
 unfold payOk
 rw [m2,Bool.true_and,decide_eq_true (Int.emod_eq_zero_of_dvd hq6),Bool.true_and,decide_eq_true hp0,Bool.true_and]
 exact decide_eq_true (by omega)
theorem rq_eq {r s:RQ} (hr:r.ok=true) (hs:s.ok=true) (h:r.p*s.q=s.p*r.q):r=s:=by
 obtain ⟨-,-,q1,g1,-⟩:=RQ.ok_bits hr
 obtain ⟨-,-,q2,g2,-⟩:=RQ.ok_bits hs
 have hh:r.N*s.D=s.N*r.D:=by
  have:=congrArg Int.natAbs h
  rw [Int.natAbs_mul,Int.natAbs_mul] at this
  simpa [RQ.p,RQ.q,zN_abs] using this
 have hg1:Nat.gcd r.N r.D=1:=by rw [← gcd_zN r.a r.N r.b r.D];exact g1
 have hg2:Nat.gcd s.N s.D=1:=by rw [← gcd_zN s.a s.N s.b s.D];exact g2
 have d1:r.D ∣ s.D:=by
  have:r.D ∣ r.N*s.D:=⟨s.N,by rw [hh,Nat.mul_comm]⟩
  exact (Nat.Coprime.symm hg1).dvd_of_dvd_mul_left this
 have d2:s.D ∣ r.D:=by
  have:s.D ∣ s.N*r.D:=⟨r.N,by rw [← hh,Nat.mul_comm]⟩
  exact (Nat.Coprime.symm hg2).dvd_of_dvd_mul_left this
 have hD:r.D=s.D:=Nat.dvd_antisymm d1 d2
 have hk1:_:=of_decide_eq_true hr
 have hk2:_:=of_decide_eq_true hs
 have hb:r.b=s.b:=by rw [hk1.2.2.2.1,hk2.2.2.2.1]
 have hN:r.N=s.N:=by
  rw [hD] at hh
  exact Nat.eq_of_mul_eq_mul_right hk2.2.2.2.2.1 hh
 have hq:r.q=s.q:=by rw [RQ.q,RQ.q,hb,hD]
 have hp:r.p=s.p:=by
  rw [hq] at h
  exact Int.eq_of_mul_eq_mul_right (by omega) h
 have ha:r.a=s.a:=by
  rw [RQ.p,RQ.p,hN] at hp
  cases h1:r.a<;>cases h2:s.a
  ·rfl
  ·have:=hk2.2.2.1 h2
   rw [h1,h2] at hp;simp [zN] at hp;omega
  ·have:=hk1.2.2.1 h1
   rw [h1,h2] at hp;simp [zN] at hp;omega
  ·rfl
 obtain ⟨a,N,b,D⟩:=r
 obtain ⟨a',N',b',D'⟩:=s
 simp only at ha hN hb hD
 subst ha;subst hN;subst hb;subst hD
 rfl
def Bd (k:Nat) (a:Int):Prop:=a.natAbs≤2 ^ k
theorem Bd.mul {i j:Nat} {a b:Int} (h1:Bd i a) (h2:Bd j b):Bd (i+j) (a*b):=by
 unfold Bd at *
 rw [Int.natAbs_mul,Nat.pow_add]
 exact Nat.mul_le_mul h1 h2
theorem Bd.mono {i j:Nat} {a:Int} (h1:Bd i a) (h:i≤j):Bd j a:=Nat.le_trans h1 (Nat.pow_le_pow_right (by omega) h)
theorem Bd.add {k:Nat} {a b:Int} (h1:Bd k a) (h2:Bd k b):Bd (k+1) (a+b):=by
 unfold Bd at *
 have:=Int.natAbs_add_le a b
 rw [Nat.pow_succ];omega
theorem Bd.lt {k:Nat} {a:Int} (h1:Bd k a) (h:k < 480):a.natAbs < 2 ^ e480:=Nat.lt_of_le_of_lt h1 (Nat.pow_lt_pow_right (by omega) h)
theorem mkQ_v {k l:Nat} {x y:Int} (hy:0 < y) (hx:Bd k x) (hy2:Bd l y) (hk:k < 480:=by decide) (hl:l < 480:=by decide):∃ r:RQ,mkQ x y=(r,0)∧r.ok=true∧r.p*y=x*r.q∧r.p.natAbs≤x.natAbs∧r.q≤y :=
 mkQ_val hy (hx.lt hk) (hy2.lt hl)
theorem mkQ_same {k l k' l':Nat} {x y x' y':Int} (hy:0 < y) (hx:Bd k x) (hy2:Bd l y) (hy':0 < y') (hx':Bd k' x') (hy2':Bd l' y') (h:x*y'=x'*y) (hk:k < 480:=by decide) (hl:l < 480:=by decide) (hk':k' < 480:=by decide) (hl':l' < 480:=by decide):mkQ x y=mkQ x' y':=by
 obtain ⟨r,h1,h2,h3,-,-⟩:=mkQ_v hy hx hy2 hk hl
 obtain ⟨s,h4,h5,h6,-,-⟩:=mkQ_v hy' hx' hy2' hk' hl'
 rw [h1,h4]
 have:r=s:=by
  refine rq_eq h2 h5 ?_
  -- r.p y = x r.q ; s.p y' = x' s.q
  have e1:(r.p*s.q)*(y*y')=(s.p*r.q)*(y*y'):=by
   have a1:(r.p*s.q)*(y*y')=(r.p*y)*(s.q*y'):=by ac_rfl
   have a2:(s.p*r.q)*(y*y')=(s.p*y')*(r.q*y):=by ac_rfl
   rw [a1,a2,h3,h6]
   have a3:x*r.q*(s.q*y')=(x*y')*(r.q*s.q):=by ac_rfl
   have a4:x'*s.q*(r.q*y)=(x'*y)*(r.q*s.q):=by ac_rfl
   rw [a3,a4,h]
  exact Int.eq_of_mul_eq_mul_right (by have:=Int.mul_pos hy hy';omega) e1
 rw [this]
theorem bd_of {k:Nat} {r:RQ} {x:Int} (hx:Bd k x) (h:r.p.natAbs≤x.natAbs):Bd k r.p:=Nat.le_trans h hx
theorem bd_of2 {k:Nat} {z y:Int} (hy:Bd k y) (h0:0 < z) (h:z≤y):Bd k z:=by unfold Bd at *;omega
theorem mulQ_mk {i j k l:Nat} {a b c d:Int} (hb:0 < b) (hd:0 < d) (h1:Bd i a) (h2:Bd j b) (h3:Bd k c) (h4:Bd l d) (hik:i+k < 480:=by decide) (hjl:j+l < 480:=by decide):mulQ (mkQ a b).1 (mkQ c d).1=mkQ (a*c) (b*d):=by
 obtain ⟨r,e1,e2,e3,e4,e5⟩:=mkQ_v hb h1 h2 (by omega) (by omega)
 obtain ⟨s,f1,f2,f3,f4,f5⟩:=mkQ_v hd h3 h4 (by omega) (by omega)
 obtain ⟨-,-,q1,-,-⟩:=RQ.ok_bits e2
 obtain ⟨-,-,q2,-,-⟩:=RQ.ok_bits f2
 rw [e1,f1,mulQ]
 rw [show (r,(0:Int)).1=r from rfl,show (s,(0:Int)).1=s from rfl,e2,f2]
 refine mkQ_same (Int.mul_pos q1 q2) ((bd_of h1 e4).mul (bd_of h3 f4)) ((bd_of2 h2 q1 e5).mul (bd_of2 h4 q2 f5)) (Int.mul_pos hb hd) (h1.mul h3) (h2.mul h4) ?_ hik hjl hik hjl
 have a1:r.p*s.p*(b*d)=(r.p*b)*(s.p*d):=by ac_rfl
 rw [a1,e3,f3]
 ac_rfl
theorem of_mk {n:Int} (hn:Bd 60 n):RQ.of n 1=(mkQ n 1).1:=by
 obtain ⟨r,e1,e2,e3,e4,e5⟩:=mkQ_v (y:=1) (by decide) hn (show Bd 1 1 from by unfold Bd;decide)
 rw [e1]
 obtain ⟨-,-,q1,-,-⟩:=RQ.ok_bits e2
 refine rq_eq ?_ e2 ?_
 ·refine decide_eq_true ⟨bl_le (k:=e480) (hn.lt (by decide)),(show bl (1:Nat)≤480 by decide),?_,rfl,(show 0 < (1:Nat) by decide),?_⟩
  ·show decide (n < 0)=true→_
   intro h;have:=of_decide_eq_true h;show n.natAbs≠0;omega
  ·show Nat.gcd n.natAbs 1=1
   exact Nat.gcd_one_right _
 ·rw [RQ.of_p,RQ.of_q]
  show n*r.q=r.p*1
  omega
theorem bd60 {a:Int} (h1 : -1000000000000000000≤a) (h2:a≤1000000000000000000):Bd 60 a:=by unfold Bd;omega
theorem price_of {r:RQ} (h:isPrice r):∃ n d:Int,r=(mkQ n d).1∧1≤n∧n≤200000∧1≤d∧d≤1000000∧d ∣ 1000000∧payOk r=true∧r.ok=true∧0 < r.p:=by
 obtain ⟨n,d,rfl,h1,h2,h3⟩:=h
 have hd:1≤d∧d≤1000000∧d ∣ 1000000:=by
  simp at h3
  rcases h3 with rfl | rfl | rfl | rfl | rfl | rfl | rfl<;>exact ⟨by decide,by decide,by decide⟩
 obtain ⟨p1,p2,p3,p4,p5,p6⟩:=price_val (n:=n) (d:=d) (by omega) h2 hd.1 hd.2.1 hd.2.2
 refine ⟨n,d,rfl,h1,h2,hd.1,hd.2.1,hd.2.2,p1,p2,?_⟩
 rcases Int.lt_or_eq_of_le p3 with h | h
 ·exact h
 ·exfalso
  obtain ⟨-,-,q1,-,-⟩:=RQ.ok_bits p2
  rw [← h,Int.zero_mul] at p6
  have:=Int.mul_pos (show 0 < n by omega) q1
  omega
end Go.Proofs.YtinojijgeabfnaaGreatDoor
