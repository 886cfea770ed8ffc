/- the choice among quotes, in plain words. percentages, nearne; no condition. -/
import Derived.Test.YtklehfchdoikeaaGreatDoorValuationExactQ24
import Derived.Test.YtklehfchdoikeaaGreatDoorValuationExactQ21
set_option maxRecDepth 100000
set_option maxHeartbeats 4000000
namespace Go.Proofs.YtklehfchdoikeaaGreatDoor
open Go Go.RowKit Go.SX
structure PL where
 srcs:List (List UInt8)
 tol:RQ
 stale:Int
def cP (l:List UInt8):Array Value:=#[.string (S l)]
theorem cD (l:List UInt8):(cP l).size=1:=rfl
def PL.A (p:PL) (v:Value):Array Value:=#[v]++(p.tol.A++#[.int .i64 p.stale])
def nY (r:RQ):List UInt8×Int:=if !r.ok then ([],20) else if decide ((bI r (.of 100 1)).2≠0) || decide (r.p < 0) then ([],32) else if (fp (bI r (.of 100 1)).1 6).2≠0 then ([],(fp (bI r (.of 100 1)).1 6).2) else ((fp (bI r (.of 100 1)).1 6).1++[37],0)
def xX (r:RQ):List UInt8×Int:=if !r.ok then ([],20) else if decide ((bI r (.of 100 1)).2≠0) || decide (r.p < 0) then ([],32) else if (fp (bI r (.of 100 1)).1 6).2≠0 then ([],32) else ((fp (bI r (.of 100 1)).1 6).1++[37],0)
def gw (r:RQ):Bool:=decide ((nY r).2=0)
theorem DT (r:RQ):decide ((xX r).2=0)=gw r:=by
 unfold gw
 rw [decide_eq_decide]
 unfold xX nY
 split
 ·rfl
 ·split
  ·rfl
  ·split
   ·rename_i h
    exact ⟨fun h2=>by simp at h2,fun h2=>absurd h2 h⟩
   ·rfl
theorem zI {r:RQ} (h:gw r=true):r.ok=true/\0<=r.p:=by
 have h:(nY r).2=0:=af h
 unfold nY at h
 split at h
 ·simp at h
 ·rename_i h1
  split at h
  ·simp at h
  ·rename_i h2
   simp only [Bool.or_eq_true,decide_eq_true_eq,not_or] at h2
   exact ⟨by simpa using h1,by omega⟩
def fP (l:List (List UInt8)) (i:Nat):Bool:=bS (l.getD i []) && !((l.take i).contains (l.getD i []))
def gF (l:List (List UInt8)):Bool:=(List.range l.length).all (fP l)
theorem oR {l:List (List UInt8)} (h:∀ j,j < l.length->fP l j=true):gF l=true:=by
 unfold gF
 rw [List.all_eq_true]
 intro i hi
 exact h i (List.mem_range.1 hi)
theorem gX {l:List (List UInt8)} {j:Nat} (hj:j < l.length) (h:fP l j=false):gF l=false:=by
 cases e:gF l with
 | false=>rfl
 | true =>
  unfold gF at e
  rw [List.all_eq_true] at e
  have:=e j (List.mem_range.2 hj)
  rw [h] at this;cases this
def aP (p:PL):Bool:=(decide (0 < p.srcs.length) && decide (p.srcs.length<=8)) && (gF p.srcs && ((gw p.tol && cZ p.tol 0 1) && (decide (0<=p.stale) && decide (p.stale<=30))))
def qr (b:Option QC) (q:QC):Bool:=match b with
 | none=>true
 | some x=>decide (x.day < q.day)
def aK (src ins:List UInt8) (day stale:Int) (b:Option QC) (q:QC):Option QC :=
 if decide (q.src=src) && (decide (q.ins=ins) && (decide (q.day<=day) && (decide (day - stale<=q.day) && qr b q))) then some q else b
def e9 (ins:List UInt8) (day stale:Int) (vis:List QC) (src:List UInt8):Option QC:=vis.foldl (aK src ins day stale) none
def dT (vis:List QC) (srcs:List (List UInt8)) (ins:List UInt8) (day stale:Int):List QC:=srcs.filterMap (e9 ins day stale vis)
def fE (xs:List QC) (_k:Int) (p:PL) (day:Int):Int:=if bF xs≠0 then bF xs else if aP p then (if day < 0\/day > 73048 then 50 else 0) else 150
def aZ (xs:List QC) (k:Int) (p:PL) (ins:List UInt8) (day:Int):List QC:=if fE xs k p day=0 then dT (d9 xs k) p.srcs ins day p.stale else []
theorem s5 (src ins:List UInt8) (day stale:Int):∀ (vis:List QC) (b:Option QC),(∀ q,b=some q->q.src=src/\q.ins=ins/\q.day<=day/\day - stale<=q.day)->∀ q,vis.foldl (aK src ins day stale) b=some q->(b=some q\/q∈vis)/\q.src=src/\q.ins=ins/\q.day<=day/\day - stale<=q.day
 | [],b,hb,q,h=>⟨.inl h,hb q h⟩
 | y :: r,b,hb,q,h=>by
  rw [List.foldl_cons] at h
  have:=s5 src ins day stale r (aK src ins day stale b y) (fun z hz=>by
   unfold aK at hz
   split at hz
   ·rename_i hc
    simp only [Bool.and_eq_true,decide_eq_true_eq] at hc
    cases hz
    exact ⟨hc.1,hc.2.1,hc.2.2.1,hc.2.2.2.1⟩
   ·exact hb z hz) q h
  refine ⟨?_,this.2⟩
  rcases this.1 with h1 | h1
  ·unfold aK at h1
   split at h1
   ·cases h1;exact .inr (by simp)
   ·exact .inl h1
  ·exact .inr (by simp [h1])
theorem xf {ins:List UInt8} {day stale:Int} {vis:List QC} {src:List UInt8} {q:QC} (h:e9 ins day stale vis src=some q):q∈vis/\q.src=src/\q.ins=ins/\q.day<=day/\day - stale<=q.day:=by
 have:=s5 src ins day stale vis none (fun q h=>by cases h) q h
 exact ⟨by rcases this.1 with h | h;cases h;exact h,this.2⟩
theorem s6 {vis:List QC} {srcs:List (List UInt8)} {ins:List UInt8} {day stale:Int} {q:QC} (h:q∈dT vis srcs ins day stale):q∈vis/\q.src∈srcs:=by
 unfold dT at h
 rw [List.mem_filterMap] at h
 obtain ⟨s,hs,h⟩:=h
 obtain ⟨h1,h2,-⟩:=xf h
 exact ⟨h1,h2 ▸ hs⟩
theorem oC (vis:List QC) (srcs:List (List UInt8)) (ins:List UInt8) (day stale:Int):(dT vis srcs ins day stale).length<=srcs.length:=List.length_filterMap_le _ _
def ltP (a b:RQ):Bool:=decide (dp (a.p*b.q) (b.p*a.q) < 0)
def noQ:QC:=⟨[],[],[],0,aN,0,false⟩
def dB (c:List QC):List UInt8:=(c.headD noQ).cur
def eG (c:List QC):List QC:=c.filter (fun q=>decide (q.cur=dB c))
def J8 {α:Type} (l:List α):Option α:=l.reverse[(l.length - 1) / 2]?
def cd (c:List QC):RQ:=(J8 (cA ltP ((eG c).map QC.price))).getD aN
def qv (price yard tol:RQ):Bool:=decide (dp ((fF (gB true price yard).1).1.p*(bI tol yard).1.q) ((bI tol yard).1.p*(fF (gB true price yard).1).1.q)<=0)
def cH (c0:List UInt8) (yard tol:RQ) (q:QC):Bool:=decide (q.cur=c0) && qv q.price yard tol
structure CH where
 src:List UInt8
 cur:List UInt8
 day:Int
 price:RQ
def CH.A (h:CH) (v:Value):Array Value:=#[.string (S h.src),.string (S h.cur),.int .i64 h.day]++(h.price.A++#[v])
def jL:CH:=⟨[],[],0,aN⟩
def fk:Option QC->CH
 | none=>jL
 | some q=>⟨q.src,q.cur,q.day,q.price⟩
def cB (c:List QC) (tol:RQ):CH:=fk (c.find? (cH (dB c) (cd c) tol))
def j9 (c:List QC) (tol:RQ):List (List UInt8):=(c.filter (fun q=>!cH (dB c) (cd c) tol q)).map QC.src
def iV (xs:List QC) (k:Int) (p:PL) (ins:List UInt8) (day:Int):Int:=if fE xs k p day≠0 then fE xs k p day else if aZ xs k p ins day=[] then 151 else 0
theorem rP {xs:List QC} {k:Int} {q:QC} (h:q∈d9 xs k):q∈xs/\bN q=true/\q.void=false:=by
 unfold d9 at h
 split at h
 ·rename_i h0
  rw [List.mem_filterMap] at h
  obtain ⟨i,hi,h⟩:=h
  have hm:q∈xs:=List.mem_of_getElem? h
  refine ⟨hm,q8 h0 q hm,?_⟩
  unfold iK pP at hi
  rw [List.mem_filter] at hi
  have hv:=hi.2
  unfold lh at hv
  rw [List.getElem?_map,h] at hv
  simp only [Option.map_some,Bool.and_eq_true,Bool.not_eq_true'] at hv
  exact hv.1
 ·cases h
theorem oO {q:QC} (h:bN q=true) (hv:q.void=false):de q.price=true/\0 < q.price.p:=by
 unfold bN at h
 rw [hv] at h
 simp only [Bool.and_eq_true,Bool.false_eq_true,if_false] at h
 have:=h.2.2.2.2
 unfold jU at this
 rw [Bool.and_eq_true,decide_eq_true_eq] at this
 refine ⟨this.1,?_⟩
 have h2:=this.2
 unfold sgn at h2
 split at h2
 ·omega
 ·split at h2<;>omega
theorem kn {a b c:Int} (h:a ∣ b*c) (hc:Int.gcd a b=1):a ∣ c :=
 Int.natAbs_dvd_natAbs.1 (Nat.Coprime.dvd_of_dvd_mul_left hc (by rw [<- Int.natAbs_mul];exact Int.natAbs_dvd_natAbs.2 h))
theorem nZ {r:RQ} (h:de r=true):r.ok=true/\0<=r.p/\r.p*1000000 % r.q=0/\r.p<=1000000000*r.q:=by
 unfold de at h
 simp only [Bool.and_eq_true,decide_eq_true_eq] at h
 exact ⟨h.1,h.2.2.1,h.2.1,h.2.2.2⟩
theorem qg {r:RQ} (h:de r=true):r.q.natAbs<=1000000/\r.p.natAbs<=1000000000000000:=by
 obtain ⟨h1,h2,h3,h4⟩:=nZ h
 obtain ⟨-,-,k3,k4,-⟩:=RQ.ok_bits h1
 have hd:r.q ∣ r.p*1000000:=Int.dvd_of_emod_eq_zero h3
 have hc:Int.gcd r.q r.p=1:=by rw [Int.gcd_comm];exact k4
 have hd2:r.q ∣ 1000000:=kn hd hc
 have hq:r.q<=1000000:=Int.le_of_dvd (by omega) hd2
 refine ⟨by omega,?_⟩
 have:1000000000*r.q<=1000000000*1000000:=Int.mul_le_mul_of_nonneg_left hq (by omega)
 omega
theorem JF {r:RQ} (h:gw r=true) (hb:cZ r 0 1=true):r.ok=true/\r.q.natAbs<=100000000/\r.p.natAbs<=100000000:=by
 obtain ⟨h1,h2⟩:=zI h
 obtain ⟨k1,k2,k3,k4,-⟩:=RQ.ok_bits h1
 have hle:r.p<=r.q:=by
  unfold cZ at hb
  simp only [Bool.and_eq_true,decide_eq_true_eq] at hb
  omega
 have h:(nY r).2=0:=af h
 unfold nY at h
 rw [if_neg (by rw [h1];simp)] at h
 split at h
 ·simp at h
 rename_i h3
 simp only [Bool.or_eq_true,decide_eq_true_eq,not_or,Decidable.not_not] at h3
 split at h
 ·rename_i h4;exact absurd h h4
 rename_i h4
 have h4:(fp (bI r (.of 100 1)).1 6).2=0:=by simpa using h4
 have ho:(RQ.of 100 1).ok=true:=by decide
 have hm:(bI r (.of 100 1))=mkQ (r.p*100) (r.q*1):=by
  unfold bI
  rw [h1,ho,RQ.of_p,RQ.of_q];rfl
 have hz:∃ a b:Int,(bI r (.of 100 1)).1.p=a/\(bI r (.of 100 1)).1.q=b/\a*(r.q*1)=r.p*100*b/\0 < b/\Int.gcd a b=1:=by
  have h5:(mkQ (r.p*100) (r.q*1)).2=0:=by rw [<- hm];exact h3.1
  refine ⟨_,_,rfl,rfl,?_⟩
  rw [hm]
  have hg:0 < Int.gcd (r.p*100) (r.q*1):=Int.gcd_pos_of_ne_zero_right _ (by omega)
  have hs:sgn (r.q*1)=1:=by unfold sgn;rw [if_neg (by omega),if_neg (by omega)]
  unfold mkQ at h5 ⊢
  rw [if_neg (by omega)] at h5 ⊢
  split
  ·rename_i h6
   dsimp only
   rw [RQ.of_p,RQ.of_q,hs,Int.one_mul]
   obtain ⟨p,hp⟩:((Int.gcd (r.p*100) (r.q*1):Nat):Int) ∣ r.p*100:=Int.gcd_dvd_left _ _
   obtain ⟨q,hq⟩:((Int.gcd (r.p*100) (r.q*1):Nat):Int) ∣ r.q*1:=Int.gcd_dvd_right _ _
   have hg0:((Int.gcd (r.p*100) (r.q*1):Nat):Int)≠0:=by omega
   have hg1:(0:Int) < ((Int.gcd (r.p*100) (r.q*1):Nat):Int):=by omega
   have hco:=Int.gcd_ediv_gcd_ediv_gcd hg
   generalize ((Int.gcd (r.p*100) (r.q*1):Nat):Int)=g at *
   rw [hp,hq] at hco ⊢
   rw [Int.mul_ediv_cancel_left _ hg0,Int.mul_ediv_cancel_left _ hg0] at hco ⊢
   refine ⟨?_,?_,hco⟩
   ·rw [<- Int.mul_assoc,Int.mul_comm p g]
   ·have:0 < g*q:=by omega
    exact Int.pos_of_mul_pos_right this (by omega)
  ·rename_i h6
   rw [if_neg h6] at h5
   simp at h5
 obtain ⟨a,b,ha,hb2,hab,hbp,hgab⟩:=hz
 have ht:(bI r (.of 100 1)).1.p*((tp 6:Nat):Int) % (bI r (.of 100 1)).1.q=0:=by
  unfold fp at h4
  split at h4
  ·simp at h4
  split at h4
  ·simp at h4
  split at h4
  ·simp at h4
  rename_i h7
  simpa using h7
 rw [ha,hb2] at ht
 have d1:b ∣ a*1000000:=Int.dvd_of_emod_eq_zero ht
 have d2:b ∣ 1000000:=kn d1 (by rw [Int.gcd_comm];exact hgab)
 have d3:r.q ∣ r.p*(100*b):=⟨a,by rw [<- Int.mul_assoc,<- hab,Int.mul_one,Int.mul_comm]⟩
 have d4:r.q ∣ 100*b:=kn d3 (by rw [Int.gcd_comm];exact k4)
 have hb6:b<=1000000:=Int.le_of_dvd (by omega) d2
 have hq8:r.q<=100*b:=Int.le_of_dvd (by omega) d4
 refine ⟨h1,by omega,by omega⟩
theorem Hq {r y t:RQ} (hr:de r=true) (hy:de y=true) (ht:gw t=true) (hb:cZ t 0 1=true):(gB true r y).1.ok=true/\(fF (gB true r y).1).1.ok=true/\(bI t y).1.ok=true/\(fF (gB true r y).1).1.p.natAbs<=2000000000000000000000/\(fF (gB true r y).1).1.q.natAbs<=1000000000000/\(bI t y).1.p.natAbs<=100000000000000000000000/\(bI t y).1.q.natAbs<=100000000000000:=by
 obtain ⟨r1,r2⟩:=qg hr
 obtain ⟨y1,y2⟩:=qg hy
 obtain ⟨t0,t1,t2⟩:=JF ht hb
 obtain ⟨u,e1,e2,-,e3,e4⟩:=Dp true (nZ hr).1 (nZ hy).1 r2 r1 y2 y1 (by decide +kernel) (by decide +kernel)
 obtain ⟨v,f1,f2,-,f3,f4⟩:=Ed t0 (nZ hy).1 t2 t1 y2 y1 (by decide +kernel) (by decide +kernel)
 rw [e1,f1]
 obtain ⟨g1,g2,g3,g4,-⟩:=RQ.ok_bits e2
 have ha:(fF u).1=.of (u.p.natAbs:Int) u.q:=by unfold fF;rw [if_pos e2]
 dsimp only
 rw [ha]
 refine ⟨e2,RQ.ok_of (by simpa using g1) g2 g3 (by simpa [Int.gcd] using g4),f2,?_,?_,?_,?_⟩
 ·rw [RQ.of_p];simp;omega
 ·rw [RQ.of_q];omega
 ·omega
 ·omega
theorem ba {b:Bool} (h:(!b)=true):b=false:=by simpa using h
theorem bc {b:Bool} (h:(!b)=false):b=true:=by simpa using h
theorem RQ.setneg (r:RQ) (b:Bool):r.A.setIfInBounds (0+0+0) (.bool b)=({ r with a:=b }:RQ).A:=by kernel_rfl
theorem Gv {r:RQ} (h:r.ok=true):(fF r).1={ r with a:=false }:=by
 have k:=RQ.ok_bits h
 unfold fF
 rw [if_pos h]
 have hb:r.b=false:=by unfold RQ.ok at h;exact (af h).2.2.2.1
 obtain ⟨a,N,b,D⟩:=r
 dsimp only at hb
 subst hb
 have e1:(RQ.p ⟨a,N,false,D⟩).natAbs=N:=by simp [RQ.p,bD]
 have e2:(RQ.q ⟨a,N,false,D⟩)=(D:Int):=by simp [RQ.q,zN]
 rw [e1,e2]
 unfold RQ.of
 simp
theorem uF {r:RQ} (h:r.In):(fF r).1.In:=by
 unfold fF
 split
 ·exact ⟨by simpa [RQ.of,RQ.p,bD] using h.N,by simpa [RQ.of,RQ.q,bD] using h.D⟩
 ·exact ⟨bU,bU⟩
theorem Gu {r:RQ} (hr:r.In):aw Tryz.prog 123 [SV.c (.agg r.A)] (iW (fF r)):=by
 refine aj ai ak PN _ _ rfl rfl fun w=>?_
 have hv:=cN hr
 refine ⟨r.A_size,.inl ⟨_,hv,fun c=>?_,fun c=>?_⟩⟩
 ·have c:=ba c
  refine ⟨_,rfl,RQ.A_fits (.of 0 0),?_,trivial⟩
  unfold fF
  rw [if_neg (by rw [c];decide)];rfl
 ·have c:=bc c
  refine ⟨by decide,rfl,_,RQ.setneg r false,RQ.A_fits _,?_,trivial⟩
  rw [<- Gv c]
  unfold fF
  rw [if_pos c];rfl
theorem zl (r:RQ):(fp r 6).1.length<=100:=by
 unfold fp
 split
 ·simp
 split
 ·simp
 split
 ·simp
 unfold uN
 dsimp only
 generalize ce (6:Int).toNat (bu (r.p*((tp (6:Int).toNat:Nat):Int) / r.q).natAbs)=s
 have h:=rS 48 (s.drop (s.length - (6:Int).toNat))
 generalize dc 48 (s.drop (s.length - (6:Int).toNat))=p at *
 rw [List.length_drop] at h
 have e6:(6:Int).toNat=6:=rfl
 rw [e6] at *
 split
 ·simp
 ·have h1:(if p=[] then ([]:List UInt8) else 46 :: p).length<=7:=by split<;>simp;omega
  have h2:(if r.p*((tp 6:Nat):Int) / r.q < 0 then ([45]:List UInt8) else []).length<=1:=by split<;>simp
  simp only [List.length_append,List.length_take]
  omega
theorem IJ {r:RQ} (hr:r.In):aw Tryz.prog 121 [SV.c (.agg r.A)] (G6 (nY r)):=by
 refine aj ai ak PP _ _ rfl rfl fun w=>?_
 have hv:=cN hr
 have hw:=d8 (n:=100) (by decide) (by decide)
 have hm:=x5 hr (s:=RQ.of 100 1) (RQ.of_in (by decide) (by decide))
 refine ⟨r.A_size,.inl ⟨_,hv,fun c=>?_,fun c=>?_⟩⟩
 ·have c:=ba c
  refine ⟨?_,trivial⟩
  unfold nY
  rw [c];rfl
 ·have c:=bc c
  refine .inl ⟨_,hw,.inl ⟨_,hm,?_⟩⟩
  have ht:=Dh (jC r (.of 100 1)) 6
  have hl:=zl (bI r (.of 100 1)).1
  refine ⟨RQ.A_fits _,?_⟩
  have g0:r.A[0]? = some (.bool r.a):=by kernel_rfl
  unfold nY
  rw [c,Bool.not_true,if_neg Bool.false_ne_true]
  have hp:r.a=decide (r.p < 0):=by
   have k:=RQ.ok_bits c
   have:=congrArg RQ.a k.2.2.2.2
   rw [this];rfl
  generalize bI r (.of 100 1)=mm at *
  rw [hp] at g0
  generalize r.A=RA at *
  generalize r.p=rp at *
  generalize fp mm.1 6=tt6 at *
  have hf:=RQ.A_fits mm.1
  generalize mm.1.A=MA at *
  generalize mm.2=me at *
  refine ⟨by kernel_rfl,fun c2=>?_,fun c2=>?_⟩
  ·have c2:(me != 0)=false:=c2
   have c2:me=0:=by simpa using c2
   refine ⟨_,g0,fun c3=>?_,fun c3=>?_⟩
   ·have c3:decide (rp < 0)=true:=c3
    exact ⟨by rw [if_pos (by rw [c3,Bool.or_true])];rfl,trivial⟩
   ·have c3:decide (rp < 0)=false:=c3
    rw [if_neg (by rw [c3,c2];decide)]
    refine .inl ⟨_,ht,fun c4=>?_,fun c4=>?_⟩
    ·have c4:(tt6.2 != 0)=true:=c4
     have c4:tt6.2≠0:=by simpa using c4
     rw [if_pos c4]
     exact ⟨rfl,trivial⟩
    ·have c4:(tt6.2 != 0)=false:=c4
     have c4:tt6.2=0:=by simpa using c4
     rw [if_neg (by rw [c4];decide)]
     refine ⟨?_,?_,trivial⟩
     ·show (S tt6.1).size+(S [37]).size<=9223372036854775807
      rw [aH,aH];simp;omega
     ·show cT [.string (S tt6.1++S [37]),.int .i64 0]=_
      rw [bg];rfl
  ·have c2:(me != 0)=true:=c2
   have c2:me≠0:=by simpa using c2
   refine ⟨fun _=>?_,nofun⟩
   exact ⟨by rw [if_pos (by simp [c2])];rfl,trivial⟩
theorem x7 {r:RQ} (h:r.ok=true):(bI r (.of 100 1)).2=0->(decide (sgn (bI r (.of 100 1)).1.p < 0)=decide (r.p < 0)):=by
 intro h2
 obtain ⟨k1,k2,k3,k4,-⟩:=RQ.ok_bits h
 have ho:(RQ.of 100 1).ok=true:=by decide
 have hm:(bI r (.of 100 1))=mkQ (r.p*100) (r.q*1):=by
  unfold bI
  rw [h,ho,RQ.of_p,RQ.of_q];rfl
 rw [hm] at h2 ⊢
 have hg:0 < Int.gcd (r.p*100) (r.q*1):=Int.gcd_pos_of_ne_zero_right _ (by omega)
 have hs:sgn (r.q*1)=1:=by unfold sgn;rw [if_neg (by omega),if_neg (by omega)]
 unfold mkQ at h2 ⊢
 rw [if_neg (by omega)] at h2 ⊢
 split at h2
 ·rename_i h6
  rw [if_pos h6]
  dsimp only
  rw [RQ.of_p,hs,Int.one_mul]
  obtain ⟨p,hp⟩:((Int.gcd (r.p*100) (r.q*1):Nat):Int) ∣ r.p*100:=Int.gcd_dvd_left _ _
  have hg0:((Int.gcd (r.p*100) (r.q*1):Nat):Int)≠0:=by omega
  have hg1:(0:Int) < ((Int.gcd (r.p*100) (r.q*1):Nat):Int):=by omega
  generalize ((Int.gcd (r.p*100) (r.q*1):Nat):Int)=g at *
  rw [hp,Int.mul_ediv_cancel_left _ hg0]
  rw [decide_eq_decide]
  have e1:sgn p < 0↔p < 0:=by unfold sgn;split<;>rename_i h<;>(try split)<;>omega
  rw [e1]
  constructor
  ·intro hn
   have:g*p < 0:=Int.mul_neg_of_pos_of_neg hg1 hn
   omega
  ·intro hn
   rcases Int.lt_or_le p 0 with h9 | h9
   ·exact h9
   ·have:=Int.mul_nonneg (Int.le_of_lt hg1) h9
    omega
 ·simp at h2
theorem IK {r:RQ} (hr:r.In):aw Tryz.prog 197 [SV.c (.agg r.A)] (G6 (xX r)):=by
 refine aj ai ak Ox _ _ rfl rfl fun w=>?_
 have hv:=dt hr
 have hw:=ky (n:=100) (by decide) (by decide)
 have hm:=x6 hr (s:=RQ.of 100 1) (RQ.of_in (by decide) (by decide))
 refine ⟨r.A_size,.inl ⟨_,hv,fun c=>?_,fun c=>?_⟩⟩
 ·have c:=ba c
  refine ⟨?_,trivial⟩
  unfold xX
  rw [c];rfl
 ·have c:=bc c
  refine .inl ⟨_,hw,.inl ⟨_,hm,?_⟩⟩
  have ht:=Di (jC r (.of 100 1)) 6
  have hl:=zl (bI r (.of 100 1)).1
  refine ⟨RQ.A_fits _,?_⟩
  unfold xX
  rw [c,Bool.not_true,if_neg Bool.false_ne_true]
  have hsg:(bI r (.of 100 1)).2=0->(decide (sgn (bI r (.of 100 1)).1.p < 0)=decide (r.p < 0)):=x7 c
  have hq:=(jC r (.of 100 1)).num
  have he:=(bI r (.of 100 1)).1.cat_l
  have hsr:=gD hq
  generalize bI r (.of 100 1)=mm at *
  generalize r.A=RA at *
  generalize r.p=rp at *
  generalize fp mm.1 6=tt6 at *
  have hf:=RQ.A_fits mm.1
  generalize mm.1.A=MA at *
  generalize iA mm.1.a mm.1.N=MI at *
  generalize mm.1.p=mp at *
  generalize mm.2=me at *
  refine ⟨by kernel_rfl,fun c2=>?_,fun c2=>?_⟩
  ·have c2:(me != 0)=false:=c2
   have c2:me=0:=by simpa using c2
   have hsg:=hsg c2
   refine ⟨by decide,_,he,.inl ⟨_,hsr,fun c3=>?_,fun c3=>?_⟩⟩
   ·have c3:decide (sgn mp < 0)=true:=c3
    rw [hsg] at c3
    exact ⟨by rw [if_pos (by rw [c3,Bool.or_true])];rfl,trivial⟩
   ·have c3:decide (sgn mp < 0)=false:=c3
    rw [hsg] at c3
    rw [if_neg (by rw [c3,c2];decide)]
    refine .inl ⟨_,ht,fun c4=>?_,fun c4=>?_⟩
    ·have c4:(tt6.2 != 0)=true:=c4
     have c4:tt6.2≠0:=by simpa using c4
     rw [if_pos c4]
     exact ⟨rfl,trivial⟩
    ·have c4:(tt6.2 != 0)=false:=c4
     have c4:tt6.2=0:=by simpa using c4
     rw [if_neg (by rw [c4];decide)]
     refine ⟨?_,?_,trivial⟩
     ·show (S tt6.1).size+(S [37]).size<=9223372036854775807
      rw [aH,aH];simp;omega
     ·show cT [.string (S tt6.1++S [37]),.int .i64 0]=_
      rw [bg];rfl
  ·have c2:(me != 0)=true:=c2
   have c2:me≠0:=by simpa using c2
   refine ⟨fun _=>?_,nofun⟩
   exact ⟨by rw [if_pos (by simp [c2])];rfl,trivial⟩
theorem J4 {r y t:RQ} (hr:r.In) (hy:y.In) (ht:t.In) (h1:(fF (gB true r y).1).1.ok=true) (h2:(bI t y).1.ok=true):aw Tryz.prog 88 [SV.c (.agg r.A),SV.c (.agg y.A),SV.c (.agg t.A)] (.bool (qv r y t)):=by
 refine aj ai ak Rh _ _ rfl rfl fun w=>?_
 have hs:=JM hr hy
 have ha:=Gu (pg true r y)
 have hm:=x5 ht hy
 have hc:=oz (uF (pg true r y)) (jC t y)
 rw [h1,h2] at hc
 refine ⟨r.A_size,y.A_size,t.A_size,.inl ⟨_,hs,RQ.A_fits _,.inl ⟨_,ha,RQ.A_fits _,.inl ⟨_,hm,RQ.A_fits _,.inl ⟨_,hc,rfl,trivial⟩⟩⟩⟩⟩
theorem J5 {r y t:RQ} (hr:r.In) (hy:y.In) (ht:t.In) (h1:((fF (gB true r y).1).1.p*(bI t y).1.q).natAbs < BB ^ 32) (h2:((bI t y).1.p*(fF (gB true r y).1).1.q).natAbs < BB ^ 32):aw Tryz.prog 224 [SV.c (.agg r.A),SV.c (.agg y.A),SV.c (.agg t.A)] (.bool (qv r y t)):=by
 refine aj ai ak N9 _ _ rfl rfl fun w=>?_
 have hs:=JN hr hy
 have ha:=KL (pg true r y)
 have hm:=x6 ht hy
 have hc:=mc (uF (pg true r y)) (jC t y) h1 h2
 refine ⟨r.A_size,y.A_size,t.A_size,.inl ⟨_,hs,RQ.A_fits _,.inl ⟨_,ha,RQ.A_fits _,.inl ⟨_,hm,RQ.A_fits _,.inl ⟨_,hc,rfl,trivial⟩⟩⟩⟩⟩
theorem Ct {a b:QC} (ha:a.In) (hb:b.In) (h1:a.price.ok=true) (h2:b.price.ok=true):aw Tryz.prog 87 [SV.c (.agg a.A),SV.c (.agg b.A)] (.int .i64 (dp (a.price.p*b.price.q) (b.price.p*a.price.q))):=by
 have hc:=oz ha.price hb.price
 rw [h1,h2] at hc
 have F1:=a.size
 have F2:=b.size
 have G1:=a.gpri
 have G2:=b.gpri
 generalize a.A=YA at *
 generalize b.A=YB at *
 refine aj ai ak Ri _ _ rfl rfl fun w=>?_
 exact ⟨F1,F2,by decide,_,G1,by decide,_,G2,.inl ⟨_,hc,rfl,trivial⟩⟩
theorem Ak {P:Program} {t e:TypeId} (hu:P.underlying t=some (.slice e)):P.elem t=e:=by simp [Program.elem,hu]
theorem mK {E:VE} (hE:VOk E) {t e:TypeId} (hu:E.P.underlying t=some (.slice e)) {j:TI} (hj:E.tt e=some j) {a:Option Addr} {n cap:Nat} {k:IntKind} {x:Int} (i:Nat) (hx:x=i) (hi:i<=cap):bB E.toEnv (Instr.sliceAt t (.slice a n cap) none (some (.int k x)) none) (.slice a i cap):=fun w _=>by
 subst hx
 have he:=Ak hu
 have hu2:E.P.underlying t=some (.slice (E.P.elem t)):=by rw [he];exact hu
 rw [run_sliceAt_slice _ t _ _ _ _ hu2,run_slice_h _ t a n cap hu2 k i (by omega) (by omega),he,Go.SX.run_sizeOf (hE _ j hj)]
 simp only [Result.andThen_ok,sliced,Int.toNat_natCast,Nat.zero_mul,Nat.sub_zero]
 congr 2
 split
 ·rfl
 ·cases a with
  | none=>rfl
  | some a=>simp [Addr.add]
theorem u7 {E:VE} (hE:VOk E) {t e:TypeId} (hu:E.P.underlying t=some (.slice e)) {j:TI} (hj:E.tt e=some j) {a:Option Addr} {n cap:Nat} {k:IntKind} {x:Int} (i:Nat) (hx:x=i) (hi:i<=n):bB E.toEnv (Instr.sliceAt t (.slice a n cap) (some (.int k x)) none none) (.slice (if cap=i then a else a.map (·.add (i*j.size))) (n - i) (cap - i)):=fun w _=>by
 subst hx
 have he:=Ak hu
 have hu2:E.P.underlying t=some (.slice (E.P.elem t)):=by rw [he];exact hu
 rw [run_sliceAt_slice _ t _ _ _ _ hu2,run_slice_l _ t a n cap hu2 k i (by omega) (by omega),he,Go.SX.run_sizeOf (hE _ j hj)]
 simp only [Result.andThen_ok,sliced,Int.toNat_natCast]
theorem Lst.take {E:Env} {a:Option Addr} {n cap sz i:Nat} {A B:Array Value} (h:Lst E (.slice a n cap) sz n A) (hi:i<=n) (hB:B=A.extract 0 (i*sz)):Lst E (.slice a i cap) sz i B:=by
 subst hB
 obtain ⟨h1,h2,h3,a',cap',he,hc,h4⟩:=h
 cases he
 have hm:i*sz<=n*sz:=Nat.mul_le_mul_right _ hi
 refine ⟨by rw [Array.size_extract,h1];omega,by omega,?_,a,cap,rfl,by omega,fun hp=>?_⟩
 ·rw [Array.all_eq_true] at h3 ⊢
  intro k hk
  rw [Array.getElem_extract]
  exact h3 _ _
 ·obtain ⟨b,o,rfl,h5⟩:=h4 (by omega)
  refine ⟨b,o,rfl,fun w hw j u hj=>h5 w hw j u ?_⟩
  have hj2:=(Array.getElem?_eq_some_iff.1 hj).1
  rw [Array.getElem?_extract] at hj
  split at hj
  ·rw [Nat.zero_add] at hj;exact hj
  ·cases hj
theorem ny {α:Type} {g:α->Array Value} {s:Nat} (hg:∀ x,(g x).size=s) (xs:List α) (i:Nat) (hi:i<=xs.length):cat g (xs.take i)=(cat g xs).extract 0 (i*s):=by
 have h1:cat g xs=cat g (xs.take i)++cat g (xs.drop i):=by rw [<- cat_append,List.take_append_drop]
 have h2:(cat g (xs.take i)).size=i*s:=by rw [Go.SX.cat_size hg];simp [Nat.min_eq_left hi]
 rw [h1]
 rw [Array.extract_append,h2,Nat.sub_self,Nat.zero_sub,<- h2,Array.extract_size]
 simp
theorem fY (o j:Nat):aL o ((j:Nat):Int) ti9.size=o+j*1+0:=by
 show aL o ((j:Nat):Int) 1=_
 cases o<;>simp [aL]
theorem lc {xs:List (List UInt8)} {s y:List UInt8} {i:Nat} (hy:xs[i]? = some y) (h:(xs.take i).contains s=false) (hne:s≠y):(xs.take (i+1)).contains s=false:=by
 rw [List.take_add_one,hy]
 rw [List.contains_eq_any_beq] at *
 simp only [List.any_append,h,Option.toList,List.any_cons,List.any_nil,Bool.or_false,Bool.false_or]
 simpa using hne
theorem oV {xs:List (List UInt8)} {s y:List UInt8} {i:Nat} (hy:xs[i]? = some y) (he:s=y):xs.contains s=true:=by
 subst he
 rw [List.contains_iff_mem]
 exact List.mem_of_getElem? hy
theorem HK {E:Env} (hE:E.P=Tryz.prog) {v:Value} {xs:List (List UInt8)} {s:List UInt8} (hv:Lst E v 1 xs.length (cat cP xs)) (hn:xs.length<=1000000000000000):OwnC E 182 [SV.c v,SV.c (.string (S s))] [] (fun x U=>(∃ i:Int,x=.int .i64 i/\(decide (0<=i)=xs.contains s))/\U=[]):=by
 refine aA [] ai ak OO E hE [SV.c v,SV.c (.string (S s))] [] _ rfl rfl fun w X β hT=>?_
 have hv':=hv.of_old hT
 obtain ⟨a,cap,rfl,hc,h4⟩:=hv'.shape
 refine ⟨_,fun w' _=>al Tryz.underlying27 w',?_⟩
 refine ⟨fun q f m=>∃ (i:Nat),q=xs.length - i/\i<=xs.length/\(xs.take i).contains s=false/\f=[(0,SV.c (.slice a xs.length cap)),(1,SV.c (.string (S s))),(7,SV.c (.int .i64 (xs.length:Nat))),(8,SV.c (.int .i64 (i:Nat)))]/\m=[],xs.length,⟨_,_,⟨0,by omega,by omega,rfl,rfl,rfl⟩,⟨rfl,rfl,rfl,rfl,trivial⟩,trivial,rfl⟩,?_⟩
 rintro q f m ⟨i,rfl,hi,hno,rfl,rfl⟩
 refine ⟨fun h=>?_,fun h=>?_⟩
 ·have h:i < xs.length:=by have:=af h;omega
  obtain ⟨b,o,rfl,h5⟩:=h4 (by omega)
  obtain ⟨y,hy⟩:∃ y,xs[i]? = some y:=⟨_,List.getElem?_eq_getElem h⟩
  have hE':VOk (aT Tryz.prog tt Tryz.f182.ntmps w X (aF [] β)):=ai
  have L1:=aW hE' h5 cD hy (j:=0) (v:=.string (S y)) rfl (ty:=9) (ti:=ti9) rfl rfl (p:=aL o ((i:Nat):Int) ti9.size) (fY o i)
  refine ⟨by omega,by omega,.inl ⟨_,L1,fun c=>?_,fun c=>?_⟩⟩
  ·have c:=dO c
   exact ⟨[],[],⟨⟨_,rfl,by rw [oV hy c];exact decide_eq_true (by omega)⟩,rfl⟩,trivial,rfl⟩
  ·have c:=dN c
   exact ⟨xs.length - (i+1),_,_,by omega,⟨i+1,rfl,by omega,lc hy hno c,rfl,rfl⟩,⟨rfl,rfl,rfl,am (ar (by omega)),trivial⟩,trivial,rfl⟩
 ·have h:i=xs.length:=by have:=ag h;omega
  subst h
  rw [List.take_length] at hno
  exact ⟨[],[],⟨⟨_,rfl,by rw [hno];rfl⟩,rfl⟩,trivial,rfl⟩
theorem yI {E:Env} (hE:E.P=Tryz.prog) {v:Value} {xs:List (List UInt8)} {s:List UInt8} (hv:Lst E v 1 xs.length (cat cP xs)) (hn:xs.length<=1000000000000000):OwnC E 120 [SV.c v,SV.c (.string (S s))] [] (fun x U=>x=.bool (xs.contains s)/\U=[]):=by
 refine aA [] ai ak PQ E hE [SV.c v,SV.c (.string (S s))] [] _ rfl rfl fun w X β hT=>?_
 have I1:=HK (s:=s) rfl (hv.of_old hT) hn
 refine .inr (.inr (.inr ⟨[],[],[_,_],[],_,I1,rfl,trivial,rfl,trivial,?_⟩))
 rintro x U ⟨⟨i,rfl,hi⟩,rfl⟩
 refine ⟨rfl,?_⟩
 exact ⟨[],[],⟨by rw [<- hi];rfl,rfl⟩,trivial,rfl⟩
theorem Mu {E:Env} (hE:E.P=Tryz.prog) {v:Value} {xs:List (List UInt8)} {s:List UInt8} (hv:Lst E v 1 xs.length (cat cP xs)) (hn:xs.length<=1000000000000000):OwnC E 241 [SV.c v,SV.c (.string (S s))] [] (fun x U=>x=.bool (xs.contains s)/\U=[]):=by
 refine aA [] ai ak NR E hE [SV.c v,SV.c (.string (S s))] [] _ rfl rfl fun w X β hT=>?_
 have hv':=hv.of_old hT
 obtain ⟨a,cap,rfl,hc,h4⟩:=hv'.shape
 refine ⟨fun q f m=>∃ (i:Nat),q=xs.length - i/\i<=xs.length/\(xs.take i).contains s=false/\f=[(0,SV.c (.slice a xs.length cap)),(1,SV.c (.string (S s))),(5,SV.c (.int .i64 (i:Nat)))]/\m=[],xs.length,⟨_,_,⟨0,by omega,by omega,rfl,rfl,rfl⟩,⟨rfl,rfl,rfl,trivial⟩,trivial,rfl⟩,?_⟩
 rintro q f m ⟨i,rfl,hi,hno,rfl,rfl⟩
 refine ⟨_,fun w' _=>al Tryz.underlying27 w',fun h=>?_,fun h=>?_⟩
 ·have h:i < xs.length:=by have:=af h;omega
  obtain ⟨b,o,rfl,h5⟩:=h4 (by omega)
  obtain ⟨y,hy⟩:∃ y,xs[i]? = some y:=⟨_,List.getElem?_eq_getElem h⟩
  have hE':VOk (aT Tryz.prog tt Tryz.f241.ntmps w X (aF [] β)):=ai
  have L1:=aW hE' h5 cD hy (j:=0) (v:=.string (S y)) rfl (ty:=9) (ti:=ti9) rfl rfl (p:=aL o ((i:Nat):Int) ti9.size) (fY o i)
  refine ⟨by omega,by omega,.inl ⟨_,L1,fun c=>?_,fun c=>?_⟩⟩
  ·have c:=dO c
   exact ⟨[],[],⟨by rw [oV hy c.symm];rfl,rfl⟩,trivial,rfl⟩
  ·have c:=dN c
   exact ⟨xs.length - (i+1),_,_,by omega,⟨i+1,rfl,by omega,lc hy hno (Ne.symm c),rfl,rfl⟩,⟨rfl,rfl,am (ar (by omega)),trivial⟩,trivial,rfl⟩
 ·have h:i=xs.length:=by have:=ag h;omega
  subst h
  rw [List.take_length] at hno
  exact ⟨[],[],⟨by rw [hno];rfl,rfl⟩,trivial,rfl⟩
theorem ig {xs:List (List UInt8)} {i:Nat} {y:List UInt8} (hy:xs[i]? = some y):fP xs i=(bS y && !((xs.take i).contains y)):=by
 unfold fP
 rw [List.getD_eq_getElem?_getD,hy];rfl
theorem Hr {E:Env} (hE:E.P=Tryz.prog) {v:Value} {xs:List (List UInt8)} (hv:Lst E v 1 xs.length (cat cP xs)) (hn:xs.length<=1000000000000000) (hin:∀ y∈xs,y.length<=9223372036854775807):OwnC E 195 [SV.c v] [] (fun x U=>x=.bool (gF xs && (decide (1<=xs.length) && decide (xs.length<=8)))/\U=[]):=by
 refine aA [] ai ak Oz E hE [SV.c v] [] _ rfl rfl fun w X β hT=>?_
 have hv':=hv.of_old hT
 obtain ⟨a,cap,rfl,hc,h4⟩:=id hv'.shape
 refine ⟨fun q f m=>∃ (i:Nat),q=xs.length - i/\i<=xs.length/\(∀ j,j < i->fP xs j=true)/\f=[(0,SV.c (.slice a xs.length cap)),(3,SV.c (.int .i64 (i:Nat)))]/\m=[],xs.length,⟨_,_,⟨0,by omega,by omega,fun j hj=>by omega,rfl,rfl⟩,⟨rfl,rfl,trivial⟩,trivial,rfl⟩,?_⟩
 rintro q f m ⟨i,rfl,hi,hno,rfl,rfl⟩
 refine ⟨_,fun w' _=>al Tryz.underlying27 w',fun h=>?_,fun h=>?_⟩
 ·have h:i < xs.length:=by have:=af h;omega
  obtain ⟨b,o,rfl,h5⟩:=h4 (by omega)
  obtain ⟨y,hy⟩:∃ y,xs[i]? = some y:=⟨_,List.getElem?_eq_getElem h⟩
  have hE':VOk (aT Tryz.prog tt Tryz.f195.ntmps w X (aF [] β)):=ai
  have L1:=aW hE' h5 cD hy (j:=0) (v:=.string (S y)) rfl (ty:=9) (ti:=ti9) rfl rfl (p:=aL o ((i:Nat):Int) ti9.size) (fY o i)
  have N1:=x4 y (hin y (List.mem_of_getElem? hy))
  have S1:=mK hE' Tryz.underlying27 (j:=ti9) rfl (a:=some ⟨b,o,none⟩) (n:=xs.length) (cap:=cap) (k:=.i64) i rfl (by omega)
  have T1:=Lst.take hv' (i:=i) (by omega) (ny cD xs i (by omega))
  have H1:=Mu (s:=y) (xs:=xs.take i) rfl (by rw [List.length_take,Nat.min_eq_left (by omega)];exact T1) (by simp;omega)
  refine ⟨by omega,by omega,.inl ⟨_,L1,.inl ⟨_,N1,fun c1=>?_,fun c1=>?_⟩⟩⟩
  ·have c1:=bc c1
   refine ⟨_,S1,by omega,by omega,.inl ⟨_,L1,.inr (.inr (.inl ⟨[],[_,_],[],_,[],H1,rfl,trivial,rfl,rfl,by kernel_rfl,fun c2=>?_,fun c2=>?_⟩))⟩⟩
   ·have c2:(xs.take i).contains y=true:=c2
    have e1:fP xs i=false:=by rw [ig hy,c1,c2];rfl
    exact ⟨[],[],⟨by rw [gX h e1];rfl,rfl⟩,trivial,rfl⟩
   ·have c2:(xs.take i).contains y=false:=c2
    have e1:fP xs i=true:=by rw [ig hy,c1,c2];rfl
    refine ⟨xs.length - (i+1),_,_,by omega,⟨i+1,rfl,by omega,fun j hj=>?_,rfl,rfl⟩,⟨rfl,am (ar (by omega)),trivial⟩,trivial,rfl⟩
    rcases Nat.lt_or_ge j i with h9 | h9
    ·exact hno j h9
    ·have:j=i:=by omega
     subst this
     exact e1
  ·have c1:=ba c1
   have e1:fP xs i=false:=by rw [ig hy,c1];rfl
   exact ⟨by kernel_rfl,fun _=>⟨[],[],⟨by rw [gX h e1];rfl,rfl⟩,trivial,rfl⟩,nofun⟩
 ·have h:i=xs.length:=by have:=ag h;omega
  subst h
  have e1:=oR hno
  rw [e1]
  refine ⟨_,fun w' _=>al Tryz.underlying27 w',fun c1=>?_,fun c1=>?_⟩
  ·have c1:decide ((xs.length:Int) >= 1)=true:=c1
   have c1:=af c1
   refine ⟨_,fun w' _=>al Tryz.underlying27 w',?_⟩
   have e2:decide (1<=xs.length)=true:=decide_eq_true (by omega)
   have e3:decide ((xs.length:Int)<=8)=decide (xs.length<=8):=by rw [decide_eq_decide];omega
   exact ⟨[],[],⟨by rw [e2,<- e3];rfl,rfl⟩,trivial,rfl⟩
  ·have c1:decide ((xs.length:Int) >= 1)=false:=c1
   have c1:=ag c1
   have e2:decide (1<=xs.length)=false:=decide_eq_false (by omega)
   exact ⟨[],[],⟨by rw [e2];rfl,rfl⟩,trivial,rfl⟩
structure PL.In (p:PL):Prop where
 tol:p.tol.In
 srcs:∀ y∈p.srcs,y.length<=9223372036854775807
 stale : -9223372036854775808<=p.stale/\p.stale<=9223372036854775807
theorem PL.size (p:PL) (v:Value):(p.A v).size=68:=by simp [PL.A,RQ.A_size]
theorem PL.fits (p:PL) {v:Value} (hv:v.oneCell'=true):Fits (p.A v) 68:=⟨p.size v,by
 rw [PL.A,Array.all_append,Array.all_append,p.tol.A_fits.one]
 simp [Value.oneCell']
 cases v<;>simp_all [Value.oneCell']⟩
theorem PL.g0 (p:PL) (v:Value):(p.A v)[0]? = some v:=by
 rw [PL.A,Array.getElem?_append_left (by simp)]
 rfl
theorem PL.g2 (p:PL) (v:Value):(p.A v)[67]? = some (.int .i64 p.stale):=by
 have h1:p.A v=(#[v]++p.tol.A)++#[.int .i64 p.stale]:=by simp [PL.A]
 have h2:(#[v]++p.tol.A).size=67:=by simp [RQ.A_size]
 rw [h1,Array.getElem?_append_right (by omega),h2]
 rfl
theorem PL.g1 (p:PL) (v:Value):(p.A v).extract 1 (1+66)=p.tol.A:=by
 have h2:p.tol.A.size=66:=RQ.A_size _
 rw [PL.A,Array.extract_append]
 have e:(#[v]:Array Value).size=1:=rfl
 rw [e,Array.extract_append,h2]
 have e2:p.tol.A.extract (1 - 1) (1+66 - 1)=p.tol.A:=by
  rw [show (1+66 - 1:Nat)=p.tol.A.size by omega,Nat.sub_self,Array.extract_size]
 rw [e2]
 apply Array.ext'
 simp
theorem JT {r:RQ} (hr:r.In):aw Tryz.prog 196 [SV.c (.agg r.A)] (.bool (gw r && cZ r 0 1)):=by
 refine aj ai ak Oy _ _ rfl rfl fun w=>?_
 have hp:=IK hr
 have hb:=jo hr (lo:=0) (hi:=1) (by decide) (by decide) (by decide) (by decide)
 have hz:=DT r
 rw [<- hz]
 generalize xX r=pp at *
 refine ⟨r.A_size,.inl ⟨_,hp,fun c=>?_,fun c=>?_⟩⟩
 ·have c:(pp.2 == 0)=true:=c
  have c:pp.2=0:=by simpa using c
  rw [c]
  exact .inl ⟨_,hb,rfl,trivial⟩
 ·have c:(pp.2 == 0)=false:=c
  have c:pp.2≠0:=by simpa using c
  rw [decide_eq_false c]
  exact ⟨rfl,trivial⟩
theorem Hf (p:PL):aP p=(((gF p.srcs && (decide (1<=p.srcs.length) && decide (p.srcs.length<=8))) && (gw p.tol && cZ p.tol 0 1)) && (decide (0<=p.stale) && decide (p.stale<=30))):=by
 unfold aP
 generalize (gw p.tol && cZ p.tol 0 1)=b1
 generalize gF p.srcs=b2
 generalize (decide (0<=p.stale) && decide (p.stale<=30))=b3
 generalize p.srcs.length=n
 have e:decide (0 < n)=decide (1<=n):=by rw [decide_eq_decide];omega
 rw [e]
 generalize decide (1<=n)=b4
 generalize decide (n<=8)=b5
 cases b1<;>cases b2<;>cases b3<;>cases b4<;>cases b5<;>rfl
theorem DR {E:Env} (hE:E.P=Tryz.prog) {v:Value} {p:PL} (hv:Lst E v 1 p.srcs.length (cat cP p.srcs)) (hn:p.srcs.length<=1000000000000000) (hin:p.In):OwnC E 135 [SV.c (.agg (p.A v))] [] (fun x U=>x=.bool (aP p)/\U=[]):=by
 refine aA [] ai ak Py E hE [SV.c (.agg (p.A v))] [] _ rfl rfl fun w X β hT=>?_
 have N1:=Hr rfl (hv.of_old hT) hn hin.srcs
 have R1:=JT hin.tol
 have F1:=p.size v
 have G0:=p.g0 v
 have G1:=p.g1 v
 have G2:=p.g2 v
 rw [Hf]
 generalize p.A v=PA at *
 refine ⟨F1,_,G0,.inr (.inr (.inl ⟨[],[_],[],_,[],N1,rfl,trivial,rfl,rfl,fun c=>?_,fun c=>?_⟩))⟩
 ·have c:(gF p.srcs && (decide (1<=p.srcs.length) && decide (p.srcs.length<=8)))=true:=c
  rw [c]
  refine ⟨by decide,_,G1,.inl ⟨_,R1,fun c2=>?_,fun c2=>?_⟩⟩
  ·have c2:(gw p.tol && cZ p.tol 0 1)=true:=c2
   rw [c2]
   refine ⟨_,G2,fun c3=>?_,fun c3=>?_⟩
   ·have c3:decide (p.stale >= 0)=true:=c3
    refine ⟨_,G2,?_⟩
    exact ⟨[],[],⟨by rw [show decide (0<=p.stale)=true from c3];rfl,rfl⟩,trivial,rfl⟩
   ·have c3:decide (p.stale >= 0)=false:=c3
    exact ⟨[],[],⟨by rw [show decide (0<=p.stale)=false from c3];rfl,rfl⟩,trivial,rfl⟩
  ·have c2:(gw p.tol && cZ p.tol 0 1)=false:=c2
   rw [c2]
   exact ⟨nofun,fun _=>⟨[],[],⟨rfl,rfl⟩,trivial,rfl⟩⟩
 ·have c:(gF p.srcs && (decide (1<=p.srcs.length) && decide (p.srcs.length<=8)))=false:=c
  rw [c]
  exact ⟨nofun,fun _=>⟨nofun,fun _=>⟨[],[],⟨rfl,rfl⟩,trivial,rfl⟩⟩⟩
theorem oB {E:Env} (hE:E.P=Tryz.prog) {v:Value} {p:PL} (hv:Lst E v 1 p.srcs.length (cat cP p.srcs)) (hn:p.srcs.length<=1000000000000000) (hin:p.In) (_h1:v.oneCell'=true):OwnC E 63 [SV.c (.agg (p.A v))] [] (fun x U=>x=.int .i64 (if aP p then 0 else 150)/\U=[]):=by
 refine aA [] ai ak Rt E hE [SV.c (.agg (p.A v))] [] _ rfl rfl fun w X β hT=>?_
 have P1:=DR rfl (hv.of_old hT) hn hin
 have F1:=p.size v
 generalize p.A v=PA at *
 refine ⟨F1,.inr (.inr (.inl ⟨[],[_],[],_,[],P1,rfl,trivial,rfl,rfl,fun c=>?_,fun c=>?_⟩))⟩
 ·have c:=ba c
  exact ⟨[],[],⟨by rw [c];rfl,rfl⟩,trivial,rfl⟩
 ·have c:=bc c
  exact ⟨[],[],⟨by rw [c];rfl,rfl⟩,trivial,rfl⟩
theorem uy {E:Env} (hE:E.P=Tryz.prog) {v:Value} {p:PL} (hv:Lst E v 1 p.srcs.length (cat cP p.srcs)) (hn:p.srcs.length<=1000000000000000) (hin:p.In):OwnC E 54 [SV.c (.agg (p.A v))] [] (fun x U=>x=.int .i64 (if aP p then 0 else 150)/\U=[]):=by
 refine aA [] ai ak RC E hE [SV.c (.agg (p.A v))] [] _ rfl rfl fun w X β hT=>?_
 have hv':=hv.of_old hT
 have P1:=IJ hin.tol
 have W1:=d8 (n:=1) (by decide) (by decide)
 have C1:=oz hin.tol (s:=RQ.of 1 1) (RQ.of_in (by decide) (by decide))
 obtain ⟨a,cap,rfl,hc,h4⟩:=id hv'.shape
 have F1:=p.size (.slice a p.srcs.length cap)
 have G0:=p.g0 (.slice a p.srcs.length cap)
 have G1:=p.g1 (.slice a p.srcs.length cap)
 have G2:=p.g2 (.slice a p.srcs.length cap)
 generalize p.A (.slice a p.srcs.length cap)=PA at *
 refine ⟨F1,_,G0,_,fun w' _=>al Tryz.underlying27 w',?_⟩
 have done:aP p=false->cT [.int .i64 150]=Value.int .i64 (if aP p then 0 else 150):=fun h=>by rw [h];rfl
 refine ⟨fun c=>?_,fun c=>?_⟩
 case refine_2 =>
  have c:((p.srcs.length:Int) == 0)=true:=c
  have c:p.srcs.length=0:=by have:=af c;omega
  exact ⟨nofun,fun _=>⟨nofun,fun _=>⟨fun _=>⟨[],[],⟨done (by unfold aP;rw [c];rfl),rfl⟩,trivial,rfl⟩,nofun⟩⟩⟩
 refine ⟨_,G0,_,fun w' _=>al Tryz.underlying27 w',fun c2=>?_,fun c2=>?_⟩
 case refine_2 =>
  have c2:decide ((p.srcs.length:Int) > 8)=true:=c2
  have c2:=af c2
  exact ⟨nofun,fun _=>⟨fun _=>⟨[],[],⟨done (by unfold aP;rw [decide_eq_false (show ¬ p.srcs.length<=8 by omega),Bool.and_false];rfl),rfl⟩,trivial,rfl⟩,nofun⟩⟩
 refine ⟨_,G2,fun c3=>?_,fun c3=>?_⟩
 case refine_2 =>
  have c3:decide (p.stale < 0)=true:=c3
  have c3:=af c3
  exact ⟨fun _=>⟨[],[],⟨done (by unfold aP;rw [decide_eq_false (show ¬ 0<=p.stale by omega)];simp),rfl⟩,trivial,rfl⟩,nofun⟩
 refine ⟨_,G2,fun c4=>?_,fun c4=>?_⟩
 case refine_1 =>
  have c4:decide (p.stale > 30)=true:=c4
  have c4:=af c4
  exact ⟨[],[],⟨done (by unfold aP;rw [decide_eq_false (show ¬ p.stale<=30 by omega)];simp),rfl⟩,trivial,rfl⟩
 have c:((p.srcs.length:Int) == 0)=false:=c
 have c:p.srcs.length≠0:=fun h=>by rw [h] at c;cases c
 have c2:decide ((p.srcs.length:Int) > 8)=false:=c2
 have c2:=ag c2
 have c3:decide (p.stale < 0)=false:=c3
 have c3:=ag c3
 have c4:decide (p.stale > 30)=false:=c4
 have c4:=ag c4
 have ep:aP p=(gF p.srcs && (gw p.tol && cZ p.tol 0 1)):=by
  unfold aP
  rw [decide_eq_true (show 0 < p.srcs.length by omega),decide_eq_true (show p.srcs.length<=8 by omega),decide_eq_true (show 0<=p.stale by omega),decide_eq_true (show p.stale<=30 by omega)]
  simp
 rw [ep] at done ⊢
 clear ep
 refine ⟨_,G0,_,fun w' _=>al Tryz.underlying27 w',?_⟩
 refine ⟨fun q f m=>∃ (i:Nat),q=p.srcs.length - i/\i<=p.srcs.length/\(∀ j,j < i->fP p.srcs j=true)/\f=[(1,SV.ptr 1 0),(30,SV.c (.slice a p.srcs.length cap)),(31,SV.c (.int .i64 (p.srcs.length:Nat))),(32,SV.c (.int .i64 (i:Nat)))]/\m=[(1,Blk.row 35 68 PA)],p.srcs.length,⟨_,_,⟨0,by omega,by omega,fun j hj=>by omega,rfl,rfl⟩,⟨rfl,rfl,rfl,rfl,trivial⟩,⟨rfl,trivial⟩,rfl⟩,?_⟩
 rintro q f m ⟨i,rfl,hi,hno,rfl,rfl⟩
 refine ⟨fun h=>?_,fun h=>?_⟩
 ·have h:i < p.srcs.length:=by have:=af h;omega
  obtain ⟨b,o,rfl,h5⟩:=h4 (by omega)
  obtain ⟨y,hy⟩:∃ y,p.srcs[i]? = some y:=⟨_,List.getElem?_eq_getElem h⟩
  have hE':VOk (aT Tryz.prog tt Tryz.f54.ntmps w X (aF [] β)):=ai
  have L1:=aW hE' h5 cD hy (j:=0) (v:=.string (S y)) rfl (ty:=9) (ti:=ti9) rfl rfl (p:=aL o ((i:Nat):Int) ti9.size) (fY o i)
  have N1:=x0 y (hin.srcs y (List.mem_of_getElem? hy))
  have S1:=mK hE' Tryz.underlying27 (j:=ti9) rfl (a:=some ⟨b,o,none⟩) (n:=p.srcs.length) (cap:=cap) (k:=.i64) i rfl (by omega)
  have T1:=Lst.take hv' (i:=i) (by omega) (ny cD p.srcs i (by omega))
  have H1:=yI (s:=y) (xs:=p.srcs.take i) rfl (by rw [List.length_take,Nat.min_eq_left (by omega)];exact T1) (by simp;omega)
  refine ⟨by omega,by omega,.inl ⟨_,L1,.inl ⟨_,N1,fun c1=>?_,fun c1=>?_⟩⟩⟩
  ·have c1:=bc c1
   refine ⟨_,G0,_,S1,.inr (.inr (.inl ⟨[],[_,_],[],_,[],H1,rfl,trivial,rfl,rfl,fun c2=>?_,fun c2=>?_⟩))⟩
   ·have c2:(p.srcs.take i).contains y=true:=c2
    have e1:fP p.srcs i=false:=by rw [ig hy,c1,c2];rfl
    exact ⟨[],[],⟨done (by rw [gX h e1];rfl),rfl⟩,trivial,rfl⟩
   ·have c2:(p.srcs.take i).contains y=false:=c2
    have e1:fP p.srcs i=true:=by rw [ig hy,c1,c2];rfl
    refine ⟨p.srcs.length - (i+1),_,_,by omega,⟨i+1,rfl,by omega,fun j hj=>?_,rfl,rfl⟩,⟨rfl,rfl,rfl,am (ar (by omega)),trivial⟩,⟨rfl,trivial⟩,rfl⟩
    rcases Nat.lt_or_ge j i with h9 | h9
    ·exact hno j h9
    ·have:j=i:=by omega
     subst this
     exact e1
  ·have c1:=ba c1
   have e1:fP p.srcs i=false:=by rw [ig hy,c1];rfl
   exact ⟨fun _=>⟨[],[],⟨done (by rw [gX h e1];rfl),rfl⟩,trivial,rfl⟩,nofun⟩
 ·have h:i=p.srcs.length:=by have:=ag h;omega
  subst h
  have e1:=oR hno
  rw [e1] at done ⊢
  have hz:gw p.tol=decide ((nY p.tol).2=0):=rfl
  have hok:gw p.tol=true->p.tol.ok=true/\0<=p.tol.p:=zI
  generalize nY p.tol=pz at *
  have ho:(RQ.of 1 1).ok=true:=by decide
  rw [ho,RQ.of_p,RQ.of_q] at C1
  refine ⟨by decide,_,G1,.inl ⟨_,P1,by decide,_,G1,.inl ⟨_,W1,.inl ⟨_,C1,by kernel_rfl,fun c5=>?_,fun c5=>?_⟩⟩⟩⟩
  ·have c5:(pz.2 != 0)=false:=c5
   have c5:pz.2=0:=by simpa using c5
   have hz:gw p.tol=true:=by rw [hz,c5];rfl
   obtain ⟨k1,k2⟩:=hok hz
   have eb:cZ p.tol 0 1=decide (p.tol.p<=p.tol.q):=by
    unfold cZ
    rw [k1,decide_eq_true (show 0*p.tol.q<=p.tol.p by omega),Int.one_mul];simp
   have ec:((if p.tol.ok && true then dp (p.tol.p*1) (1*p.tol.q) else 0) > 0)↔¬ p.tol.p<=p.tol.q:=by
    rw [k1]
    simp only [Bool.and_true,if_pos]
    unfold dp
    split
    ·omega
    ·split<;>omega
   refine ⟨fun c6=>?_,fun c6=>?_⟩
   ·have c6:=ec.1 (af c6)
    exact ⟨[],[],⟨done (by rw [eb,decide_eq_false c6];simp),rfl⟩,trivial,rfl⟩
   ·have c6:¬ ¬ p.tol.p<=p.tol.q:=fun h=>ag c6 (ec.2 h)
    exact ⟨[],[],⟨by rw [hz,eb,decide_eq_true (Decidable.not_not.1 c6)];rfl,rfl⟩,trivial,rfl⟩
  ·have c5:(pz.2 != 0)=true:=c5
   have c5:pz.2≠0:=by simpa using c5
   have hz:gw p.tol=false:=by rw [hz,decide_eq_false c5]
   exact ⟨fun _=>⟨[],[],⟨done (by rw [hz];rfl),rfl⟩,trivial,rfl⟩,nofun⟩
theorem rQ (xs:List QC) (k:Int):(d9 xs k).length<=4096:=by
 unfold d9
 split
 ·rename_i h
  have h2:=(oA h).2
  have h3:=nH xs k
  rw [pB (fun i hi=>nG hi)]
  omega
 ·simp
theorem dr (p:Nat):aL 0 ((p:Nat):Int) gg.size=p*72:=by
 show aL 0 ((p:Nat):Int) 72=p*72
 simp [aL]
theorem jO {L:List QC} {srcs:List (List UInt8)} {ins:List UInt8} {day stale:Int} {i:Nat} {src:List UInt8} {z:QC} (h:srcs[i]? = some src) (hz:e9 ins day stale L src=some z):dT L (srcs.take (i+1)) ins day stale=dT L (srcs.take i) ins day stale++[z]:=by
 unfold dT
 rw [List.take_add_one,h,List.filterMap_append]
 simp [hz]
theorem rh {L:List QC} {srcs:List (List UInt8)} {ins:List UInt8} {day stale:Int} {i:Nat} {src:List UInt8} (h:srcs[i]? = some src) (hz:e9 ins day stale L src=none):dT L (srcs.take (i+1)) ins day stale=dT L (srcs.take i) ins day stale:=by
 unfold dT
 rw [List.take_add_one,h,List.filterMap_append]
 simp [hz]
def tE (b:Option QC):QC:=b.getD noQ
theorem IN:noQ.A=gg.zero:=by kernel_rfl
def te (xs:List QC) (k:Int) (p:PL) (ins:List UInt8) (day:Int) (x:Value) (U:aE):Prop:=∃ s n,n=(aZ xs k p ins day).length/\x=.tuple #[s,.int .i64 (fE xs k p day)]/\IsL s n/\U=[(4000,Blk.own s 63 72 n (cat QC.A (aZ xs k p ins day)))]
theorem KE {E:Env} (hE:E.P=Tryz.prog) {v:Value} {k:Int} {xs:List QC} (hv:Lst E v 72 xs.length (cat QC.A xs)) (hn:xs.length<=1000000000000) (hin:∀ y∈xs,y.In) {vp:Value} {p:PL} (hp:Lst E vp 1 p.srcs.length (cat cP p.srcs)) (hpn:p.srcs.length<=1000000000000000) (hpin:p.In) (ins:List UInt8) (day:Int):OwnC E 82 [SV.c v,SV.c (.agg (p.A vp)),SV.c (.int .i64 k),SV.c (.string (S ins)),SV.c (.int .i64 day)] [] (te xs k p ins day):=by
 refine aA [] ai ak Rk E hE [SV.c v,SV.c (.agg (p.A vp)),SV.c (.int .i64 k),SV.c (.string (S ins)),SV.c (.int .i64 day)] [] _ rfl rfl fun w X β hT=>?_
 have hv':=hv.of_old hT
 have hp':=hp.of_old hT
 have V1:=KV (k:=k) rfl hv' hn hin
 have P1:=uy rfl hp' hpn hpin
 obtain ⟨a,cap,rfl,hc,h4⟩:=id hp'.shape
 have F1:=p.size (.slice a p.srcs.length cap)
 have G0:=p.g0 (.slice a p.srcs.length cap)
 have G2:=p.g2 (.slice a p.srcs.length cap)
 generalize p.A (.slice a p.srcs.length cap)=PA at *
 refine ⟨F1,?_⟩
 refine .inr (.inr (.inr ⟨[],[3000],[_,_],[],_,V1,rfl,trivial,rfl,trivial,?_⟩))
 rintro r U ⟨s,n,hsn,rfl,hs,rfl⟩
 refine ⟨rfl,?_⟩
 have eC:fE xs k p day=if bF xs≠0 then bF xs else if aP p then (if day < 0\/day > 73048 then 50 else 0) else 150:=rfl
 have fin:∀ (e:Int) (V:List QC),fE xs k p day=e->V=aZ xs k p ins day->e≠0->te xs k p ins day (cT [.slice none 0 0,.int .i64 e]) [(4000,Blk.own (.slice none 0 0) 63 72 0 #[])]:=fun e V he hV h=>by
  have e1:aZ xs k p ins day=[]:=by unfold aZ;rw [he,if_neg h]
  exact ⟨_,0,by rw [e1];rfl,by rw [he];rfl,.nil,by rw [e1];rfl⟩
 refine ⟨fun c1=>?_,fun c1=>?_⟩
 ·have c1:(bF xs != 0)=true:=c1
  have c1:bF xs≠0:=by simpa using c1
  exact ⟨[(4000,Blk.own (.slice none 0 0) 63 72 0 #[])],[],fin _ _ (by rw [eC,if_pos c1]) rfl c1,⟨.inr ⟨rfl,rfl,rfl⟩,trivial⟩,rfl⟩
 have c1:(bF xs != 0)=false:=c1
 have c1:bF xs=0:=by simpa using c1
 rw [if_neg (by rw [c1];decide)] at eC
 refine .inr (.inr (.inl ⟨[],[_],[],_,[],P1,rfl,trivial,rfl,rfl,fun c2=>?_,fun c2=>?_⟩))
 ·have c2:aP p=false:=by
    cases h:aP p with
    | false=>rfl
    | true=>rw [h] at c2;exact absurd c2 (by decide)
  exact ⟨[(4000,Blk.own (.slice none 0 0) 63 72 0 #[])],[],fin _ _ (by rw [eC,c2];rfl) rfl (by decide),⟨.inr ⟨rfl,rfl,rfl⟩,trivial⟩,rfl⟩
 have c2:aP p=true:=by
  cases h:aP p with
  | true=>rfl
  | false=>rw [h] at c2;exact absurd c2 (by decide)
 rw [c2,if_pos rfl] at eC
 refine ⟨fun c3=>?_,fun c3=>?_⟩
 case refine_2 =>
  have c3:decide (day < 0)=true:=c3
  have c3:=af c3
  exact ⟨fun _=>⟨[(4000,Blk.own (.slice none 0 0) 63 72 0 #[])],[],fin _ _ (by rw [eC,if_pos (.inl c3)]) rfl (by decide),⟨.inr ⟨rfl,rfl,rfl⟩,trivial⟩,rfl⟩,nofun⟩
 have c3:decide (day < 0)=false:=c3
 have c3:=ag c3
 refine ⟨fun c4=>?_,fun c4=>?_⟩
 case refine_1 =>
  have c4:decide (day > 73048)=true:=c4
  have c4:=af c4
  exact ⟨[(4000,Blk.own (.slice none 0 0) 63 72 0 #[])],[],fin _ _ (by rw [eC,if_pos (.inr c4)]) rfl (by decide),⟨.inr ⟨rfl,rfl,rfl⟩,trivial⟩,rfl⟩
 have c4:decide (day > 73048)=false:=c4
 have c4:=ag c4
 rw [if_neg (by omega)] at eC
 clear fin
 have hst:0<=p.stale/\p.stale<=30/\p.srcs.length<=8:=by
  unfold aP at c2
  simp only [Bool.and_eq_true,decide_eq_true_eq] at c2
  exact ⟨c2.2.2.2.1,c2.2.2.2.2,c2.1.2⟩
 have eV:aZ xs k p ins day=dT (d9 xs k) p.srcs ins day p.stale:=by unfold aZ;rw [if_pos eC]
 have hlv:(d9 xs k).length<=4096:=rQ xs k
 unfold te
 rw [eV,eC]
 clear eV eC V1 P1
 generalize d9 xs k=L at *
 obtain ⟨sa,sc,rfl⟩:=hs.len
 refine ⟨_,G0,_,fun w' _=>al Tryz.underlying27 w',?_⟩
 refine ⟨fun q f m=>∃ (i:Nat) (y:Value) (N:Nat),q=p.srcs.length - i/\i<=p.srcs.length/\N=(dT L (p.srcs.take i) ins day p.stale).length/\IsL y N/\f=[(3,SV.c (.string (S ins))),(4,SV.c (.int .i64 day)),(6,SV.ptr 6 0),(12,SV.c (.slice sa n sc)),(14,SV.c y),(43,SV.c (.slice a p.srcs.length cap)),(44,SV.c (.int .i64 (p.srcs.length:Nat))),(45,SV.c (.int .i64 (i:Nat)))]/\m=[(4000,Blk.own y 63 72 N (cat QC.A (dT L (p.srcs.take i) ins day p.stale))),(6,Blk.row 35 68 PA),(3000,Blk.own (.slice sa n sc) 63 72 n (cat QC.A L))],p.srcs.length,⟨_,_,⟨0,.slice none 0 0,0,by omega,by omega,rfl,.nil,rfl,rfl⟩,⟨rfl,rfl,rfl,rfl,rfl,rfl,rfl,rfl,trivial⟩,⟨.inr ⟨rfl,rfl,rfl⟩,rfl,.inl rfl,trivial⟩,rfl⟩,?_⟩
 rintro q f m ⟨i,y,N,rfl,hi,hN,hy,rfl,rfl⟩
 refine ⟨fun h=>?_,fun h=>?_⟩
 ·have h:i < p.srcs.length:=by have:=af h;omega
  obtain ⟨b,o,rfl,h5⟩:=h4 (by omega)
  obtain ⟨src,hsrc⟩:∃ y,p.srcs[i]? = some y:=⟨_,List.getElem?_eq_getElem h⟩
  have hE':VOk (aT Tryz.prog tt Tryz.f82.ntmps w X (aF [] β)):=ai
  have L1:=aW hE' h5 cD hsrc (j:=0) (v:=.string (S src)) rfl (ty:=9) (ti:=ti9) rfl rfl (p:=aL o ((i:Nat):Int) ti9.size) (fY o i)
  refine ⟨by omega,by omega,.inl ⟨_,L1,_,fun w' _=>al Tryz.underlying26 w',?_⟩⟩
  refine ⟨fun q f m=>∃ (j:Nat) (B:Option QC),q=L.length - j/\j<=L.length/\B=(L.take j).foldl (aK src ins day p.stale) none/\f=[(3,SV.c (.string (S ins))),(4,SV.c (.int .i64 day)),(6,SV.ptr 6 0),(12,SV.c (.slice sa n sc)),(14,SV.c y),(16,SV.c (.string (S src))),(17,SV.ptr 17 0),(18,SV.c (.bool B.isSome)),(43,SV.c (.slice (some ⟨b,o,none⟩) p.srcs.length cap)),(44,SV.c (.int .i64 (p.srcs.length:Nat))),(45,SV.c (.int .i64 (i:Nat))),(49,SV.c (.slice sa n sc)),(50,SV.c (.int .i64 (n:Nat))),(51,SV.c (.int .i64 (j:Nat)))]/\m=[(17,Blk.row 63 72 (tE B).A),(4000,Blk.own y 63 72 N (cat QC.A (dT L (p.srcs.take i) ins day p.stale))),(6,Blk.row 35 68 PA),(3000,Blk.own (.slice sa n sc) 63 72 n (cat QC.A L))],L.length,⟨_,_,⟨0,none,by omega,by omega,rfl,rfl,rfl⟩,⟨rfl,rfl,rfl,rfl,rfl,rfl,rfl,rfl,rfl,rfl,rfl,rfl,rfl,rfl,trivial⟩,⟨congrArg (fun A=>some (Blk.row 63 72 A)) IN.symm,.inl rfl,rfl,.inl rfl,trivial⟩,rfl⟩,?_⟩
  rintro q f m ⟨j,B,rfl,hj,hB,rfl,rfl⟩
  refine ⟨fun h=>?_,fun h=>?_⟩
  ·have h:j < n:=by have:=af h;omega
   obtain ⟨z,hz⟩:∃ z,L[j]? = some z:=⟨_,List.getElem?_eq_getElem (by omega)⟩
   rcases hs with ⟨hs1,hs2⟩ | ⟨g0,c0,hs1⟩
   ·omega
   cases hs1
   have L2:=bz QC.size hz
   have hjn:j*72+72<=(cat QC.A L).size:=by rw [Go.SX.cat_size QC.size];omega
   have eB:(L.take (j+1)).foldl (aK src ins day p.stale) none=aK src ins day p.stale B z:=by
    rw [List.take_add_one,hz,List.foldl_append,<- hB];rfl
   generalize hX:cat QC.A L=XA at *
   have Z0:=z.g0
   have Z1:=z.g1
   have Z3:=z.g3
   have ZF:=z.fits
   have N3:=(tE B).g3
   generalize hY:z.A=ZA at *
   refine ⟨by omega,by omega,.inr ⟨3000,g0,_,n,_,_,_,_,rfl,rfl,(by rw [dr];exact hjn),ZA,(by rw [dr];exact L2),ZF,_,Z0,?_⟩⟩
   refine ⟨fun k1=>?_,fun k1=>?_⟩
   case refine_2 =>
    have k1:=dN k1
    have e0:aK src ins day p.stale B z=B:=by unfold aK;rw [if_neg (by simp [k1])]
    refine ⟨nofun,fun _=>⟨nofun,fun _=>⟨nofun,fun _=>?_⟩⟩⟩
    exact ⟨nofun,fun _=>⟨L.length - (j+1),_,_,by omega,⟨j+1,B,rfl,by omega,(eB.trans e0).symm,rfl,rfl⟩,⟨rfl,rfl,rfl,rfl,rfl,rfl,rfl,rfl,rfl,rfl,rfl,rfl,rfl,am (ar (by omega)),trivial⟩,⟨rfl,.inl rfl,rfl,.inl rfl,trivial⟩,rfl⟩⟩
   have k1:=dO k1
   refine ⟨_,Z1,fun k2=>?_,fun k2=>?_⟩
   case refine_2 =>
    have k2:=dN k2
    have e0:aK src ins day p.stale B z=B:=by unfold aK;rw [if_neg (by simp [k2])]
    refine ⟨nofun,fun _=>⟨nofun,fun _=>?_⟩⟩
    exact ⟨nofun,fun _=>⟨L.length - (j+1),_,_,by omega,⟨j+1,B,rfl,by omega,(eB.trans e0).symm,rfl,rfl⟩,⟨rfl,rfl,rfl,rfl,rfl,rfl,rfl,rfl,rfl,rfl,rfl,rfl,rfl,am (ar (by omega)),trivial⟩,⟨rfl,.inl rfl,rfl,.inl rfl,trivial⟩,rfl⟩⟩
   have k2:=dO k2
   refine ⟨_,Z3,fun k3=>?_,fun k3=>?_⟩
   case refine_2 =>
    have k3:decide (z.day<=day)=false:=k3
    have e0:aK src ins day p.stale B z=B:=by unfold aK;rw [if_neg (by simp [k3])]
    refine ⟨nofun,fun _=>?_⟩
    exact ⟨nofun,fun _=>⟨L.length - (j+1),_,_,by omega,⟨j+1,B,rfl,by omega,(eB.trans e0).symm,rfl,rfl⟩,⟨rfl,rfl,rfl,rfl,rfl,rfl,rfl,rfl,rfl,rfl,rfl,rfl,rfl,am (ar (by omega)),trivial⟩,⟨rfl,.inl rfl,rfl,.inl rfl,trivial⟩,rfl⟩⟩
   have k3:decide (z.day<=day)=true:=k3
   refine ⟨_,Z3,_,G2,fun k4=>?_,fun k4=>?_⟩
   case refine_2 =>
    have k4:decide (z.day >= IntKind.i64.wrap (day - p.stale))=false:=k4
    rw [i64_in (by omega)] at k4
    have k4:decide (day - p.stale<=z.day)=false:=k4
    have e0:aK src ins day p.stale B z=B:=by unfold aK;rw [if_neg (by simp [k4])]
    exact ⟨nofun,fun _=>⟨L.length - (j+1),_,_,by omega,⟨j+1,B,rfl,by omega,(eB.trans e0).symm,rfl,rfl⟩,⟨rfl,rfl,rfl,rfl,rfl,rfl,rfl,rfl,rfl,rfl,rfl,rfl,rfl,am (ar (by omega)),trivial⟩,⟨rfl,.inl rfl,rfl,.inl rfl,trivial⟩,rfl⟩⟩
   have k4:decide (z.day >= IntKind.i64.wrap (day - p.stale))=true:=k4
   rw [i64_in (by omega)] at k4
   have k4:decide (day - p.stale<=z.day)=true:=k4
   refine ⟨fun k5=>?_,fun k5=>?_⟩
   ·have k5:=bc k5
    refine ⟨_,Z3,_,N3,fun k6=>?_,fun k6=>?_⟩
    ·have e0:aK src ins day p.stale B z=some z:=by
       unfold aK
       rw [if_pos]
       have:qr B z=true:=by
        obtain ⟨x,rfl⟩:=Option.isSome_iff_exists.1 k5
        exact k6
       simp only [k1,k2,decide_true,Bool.true_and,this,k3,k4]
     exact ⟨ZF,⟨L.length - (j+1),_,_,by omega,⟨j+1,some z,rfl,by omega,(eB.trans e0).symm,rfl,rfl⟩,⟨rfl,rfl,rfl,rfl,rfl,rfl,rfl,rfl,rfl,rfl,rfl,rfl,rfl,am (ar (by omega)),trivial⟩,⟨congrArg (fun A=>some (Blk.row 63 72 A)) hY.symm,.inl rfl,rfl,.inl rfl,trivial⟩,rfl⟩⟩
    ·have e0:aK src ins day p.stale B z=B:=by
       unfold aK
       rw [if_neg]
       have:qr B z=false:=by
        obtain ⟨x,rfl⟩:=Option.isSome_iff_exists.1 k5
        exact k6
       simp [this]
     exact ⟨L.length - (j+1),_,_,by omega,⟨j+1,B,rfl,by omega,(eB.trans e0).symm,rfl,rfl⟩,⟨rfl,rfl,rfl,rfl,rfl,rfl,rfl,rfl,rfl,rfl,rfl,rfl,rfl,am (ar (by omega)),trivial⟩,⟨rfl,.inl rfl,rfl,.inl rfl,trivial⟩,rfl⟩
   ·have k5:=ba k5
    have e0:aK src ins day p.stale B z=some z:=by
     unfold aK
     rw [if_pos]
     have:qr B z=true:=by
      cases B with
      | none=>rfl
      | some x=>cases k5
     simp only [k1,k2,decide_true,Bool.true_and,this,k3,k4]
    exact ⟨fun _=>⟨ZF,⟨L.length - (j+1),_,_,by omega,⟨j+1,some z,rfl,by omega,(eB.trans e0).symm,rfl,rfl⟩,⟨rfl,rfl,rfl,rfl,rfl,rfl,rfl,rfl,rfl,rfl,rfl,rfl,rfl,am (ar (by omega)),trivial⟩,⟨congrArg (fun A=>some (Blk.row 63 72 A)) hY.symm,.inl rfl,rfl,.inl rfl,trivial⟩,rfl⟩⟩,nofun⟩
  ·have h:j=n:=by have:=ag h;omega
   have hB:B=e9 ins day p.stale L src:=by rw [hB,List.take_of_length_le (by omega)];rfl
   refine ⟨fun k1=>?_,fun k1=>?_⟩
   ·have k1:B.isSome=true:=k1
    obtain ⟨z,rfl⟩:=Option.isSome_iff_exists.1 k1
    have F1:=kK z
    have F2:=z.fits.one
    have F3:=z.ext72
    have F4:z.A.size=1*72:=z.size
    have F5:cat QC.A (dT L (p.srcs.take i) ins day p.stale)++z.A=cat QC.A (dT L (p.srcs.take (i+1)) ins day p.stale):=by
     rw [jO hsrc hB.symm,cat_append,fB]
    have F6:=congrArg List.length (jO hsrc hB.symm)
    have hl:=oC L (p.srcs.take i) ins day p.stale
    change _=_ at F6
    rw [List.length_append,<- hN] at F6
    rw [<- hN,List.length_take] at hl
    refine .inl ⟨by decide,by decide,_,F1,F4,by decide,4000,N,_,.inl rfl,by decide,F2,F4,_,F3,?_⟩
    obtain ⟨q,hq,hb⟩:=kh
    refine ⟨by omega,by unfold maxLen;omega,⟨q,hq,by rw [hb];omega⟩,trivial,fun g2 cap2=>?_⟩
    exact ⟨p.srcs.length - (i+1),_,_,by omega,⟨i+1,_,N+1,rfl,by omega,F6.symm,.some,rfl,rfl⟩,⟨rfl,rfl,rfl,rfl,rfl,rfl,rfl,am (ar (by omega)),trivial⟩,⟨.inl (bw F5),rfl,.inl rfl,trivial⟩,rfl⟩
   ·have k1:B.isSome=false:=k1
    have hB:e9 ins day p.stale L src=none:=by rw [<- hB];exact Option.isNone_iff_eq_none.1 (by simpa using k1)
    have e1:=rh hsrc hB
    exact ⟨p.srcs.length - (i+1),_,_,by omega,⟨i+1,y,N,rfl,by omega,by rw [e1];exact hN,hy,rfl,rfl⟩,⟨rfl,rfl,rfl,rfl,rfl,rfl,rfl,am (ar (by omega)),trivial⟩,⟨.inl (bw (by rw [e1])),rfl,.inl rfl,trivial⟩,rfl⟩
 ·have h:i=p.srcs.length:=by have:=ag h;omega
  subst h
  rw [List.take_length] at hN ⊢
  exact ⟨[(4000,Blk.own y 63 72 N (cat QC.A (dT L p.srcs ins day p.stale)))],[],⟨y,N,hN,rfl,hy,rfl⟩,⟨.inl rfl,trivial⟩,rfl⟩
theorem Ih {E:Env} (hE:E.P=Tryz.prog) {v vp:Value} {L:List QC} (hv:Lst E v 72 L.length (cat QC.A L)) (hlv:L.length<=4096) {p:PL} (hst:0<=p.stale/\p.stale<=30) (src ins:List UInt8) {day:Int} (c3:¬ day < 0) (c4:¬ day > 73048):OwnC E 271 [SV.c v,SV.c (.agg (p.A vp)),SV.c (.string (S src)),SV.c (.string (S ins)),SV.c (.int .i64 day)] [] (fun x U=>x=.tuple #[.agg (tE (e9 ins day p.stale L src)).A,.bool (e9 ins day p.stale L src).isSome]/\U=[]):=by
 refine aA [] ai ak I6 E hE [SV.c v,SV.c (.agg (p.A vp)),SV.c (.string (S src)),SV.c (.string (S ins)),SV.c (.int .i64 day)] [] _ rfl rfl fun w X β hT=>?_
 have hv':=hv.of_old hT
 have F1:=p.size vp
 have G2:=p.g2 vp
 generalize p.A vp=PA at *
 obtain ⟨a,cap,rfl,hc,h4⟩:=id hv'.shape
 refine ⟨F1,noQ.A,(by kernel_rfl),noQ.fits,?_⟩
 refine ⟨fun q f m=>∃ (j:Nat) (B:Option QC),q=L.length - j/\j<=L.length/\B=(L.take j).foldl (aK src ins day p.stale) none/\f=[(0,SV.c (.slice a L.length cap)),(2,SV.c (.string (S src))),(3,SV.c (.string (S ins))),(4,SV.c (.int .i64 day)),(6,SV.ptr 6 0),(10,SV.ptr 10 0),(12,SV.ptr 12 0),(13,SV.c (.bool B.isSome)),(14,SV.c (.int .i64 (j:Nat)))]/\m=[(12,Blk.row 63 72 (tE B).A),(6,Blk.row 35 68 PA),(10,Blk.row 63 72 noQ.A)],L.length,⟨_,_,⟨0,none,by omega,by omega,rfl,rfl,rfl⟩,⟨rfl,rfl,rfl,rfl,rfl,rfl,rfl,rfl,rfl,trivial⟩,⟨rfl,rfl,congrArg (fun A=>some (Blk.row 63 72 A)) IN.symm,trivial⟩,rfl⟩,?_⟩
 rintro q f m ⟨j,B,rfl,hj,hB,rfl,rfl⟩
 refine ⟨_,fun w' _=>al Tryz.underlying26 w',fun h=>?_,fun h=>?_⟩
 ·have h:j < L.length:=by have:=af h;omega
  obtain ⟨z,hz⟩:∃ z,L[j]? = some z:=⟨_,List.getElem?_eq_getElem (by omega)⟩
  obtain ⟨b,o,rfl,h5⟩:=h4 (by omega)
  have hE':VOk (aT Tryz.prog tt Tryz.f271.ntmps w X (aF [] β)):=ai
  have L2:=bd hE' h5 QC.size hz (ty:=63) (ti:=gg) rfl rfl rfl (p:=o+((j:Nat):Int).toNat*72) rfl
  have eB:(L.take (j+1)).foldl (aK src ins day p.stale) none=aK src ins day p.stale B z:=by
   rw [List.take_add_one,hz,List.foldl_append,<- hB];rfl
  have Z0:=z.g0
  have Z1:=z.g1
  have Z3:=z.g3
  have ZF:=z.fits
  have N3:=(tE B).g3
  generalize hY:z.A=ZA at *
  refine ⟨by omega,by omega,.inl ⟨_,L2,ZF,_,Z0,?_⟩⟩
  refine ⟨fun k1=>?_,fun k1=>?_⟩
  case refine_2 =>
   have k1:=dN k1
   have e0:aK src ins day p.stale B z=B:=by unfold aK;rw [if_neg (by simp [k1])]
   refine ⟨nofun,fun _=>⟨nofun,fun _=>⟨nofun,fun _=>?_⟩⟩⟩
   exact ⟨nofun,fun _=>⟨L.length - (j+1),_,_,by omega,⟨j+1,B,rfl,by omega,(eB.trans e0).symm,rfl,rfl⟩,⟨rfl,rfl,rfl,rfl,rfl,rfl,rfl,rfl,am (ar (by omega)),trivial⟩,⟨rfl,rfl,rfl,trivial⟩,rfl⟩⟩
  have k1:=dO k1
  refine ⟨_,Z1,fun k2=>?_,fun k2=>?_⟩
  case refine_2 =>
   have k2:=dN k2
   have e0:aK src ins day p.stale B z=B:=by unfold aK;rw [if_neg (by simp [k2])]
   refine ⟨nofun,fun _=>⟨nofun,fun _=>?_⟩⟩
   exact ⟨nofun,fun _=>⟨L.length - (j+1),_,_,by omega,⟨j+1,B,rfl,by omega,(eB.trans e0).symm,rfl,rfl⟩,⟨rfl,rfl,rfl,rfl,rfl,rfl,rfl,rfl,am (ar (by omega)),trivial⟩,⟨rfl,rfl,rfl,trivial⟩,rfl⟩⟩
  have k2:=dO k2
  refine ⟨_,Z3,fun k3=>?_,fun k3=>?_⟩
  case refine_2 =>
   have k3:decide (z.day<=day)=false:=k3
   have e0:aK src ins day p.stale B z=B:=by unfold aK;rw [if_neg (by simp [k3])]
   refine ⟨nofun,fun _=>?_⟩
   exact ⟨nofun,fun _=>⟨L.length - (j+1),_,_,by omega,⟨j+1,B,rfl,by omega,(eB.trans e0).symm,rfl,rfl⟩,⟨rfl,rfl,rfl,rfl,rfl,rfl,rfl,rfl,am (ar (by omega)),trivial⟩,⟨rfl,rfl,rfl,trivial⟩,rfl⟩⟩
  have k3:decide (z.day<=day)=true:=k3
  refine ⟨_,Z3,_,G2,fun k4=>?_,fun k4=>?_⟩
  case refine_2 =>
   have k4:decide (z.day >= IntKind.i64.wrap (day - p.stale))=false:=k4
   rw [i64_in (by omega)] at k4
   have k4:decide (day - p.stale<=z.day)=false:=k4
   have e0:aK src ins day p.stale B z=B:=by unfold aK;rw [if_neg (by simp [k4])]
   exact ⟨nofun,fun _=>⟨L.length - (j+1),_,_,by omega,⟨j+1,B,rfl,by omega,(eB.trans e0).symm,rfl,rfl⟩,⟨rfl,rfl,rfl,rfl,rfl,rfl,rfl,rfl,am (ar (by omega)),trivial⟩,⟨rfl,rfl,rfl,trivial⟩,rfl⟩⟩
  have k4:decide (z.day >= IntKind.i64.wrap (day - p.stale))=true:=k4
  rw [i64_in (by omega)] at k4
  have k4:decide (day - p.stale<=z.day)=true:=k4
  refine ⟨fun k5=>?_,fun k5=>?_⟩
  ·have k5:=bc k5
   refine ⟨_,Z3,_,N3,fun k6=>?_,fun k6=>?_⟩
   ·have e0:aK src ins day p.stale B z=some z:=by
      unfold aK
      rw [if_pos]
      have:qr B z=true:=by
       obtain ⟨x,rfl⟩:=Option.isSome_iff_exists.1 k5
       exact k6
      simp only [k1,k2,decide_true,Bool.true_and,this,k3,k4]
    exact ⟨ZF,⟨L.length - (j+1),_,_,by omega,⟨j+1,some z,rfl,by omega,(eB.trans e0).symm,rfl,rfl⟩,⟨rfl,rfl,rfl,rfl,rfl,rfl,rfl,rfl,am (ar (by omega)),trivial⟩,⟨congrArg (fun A=>some (Blk.row 63 72 A)) hY.symm,rfl,rfl,trivial⟩,rfl⟩⟩
   ·have e0:aK src ins day p.stale B z=B:=by
      unfold aK
      rw [if_neg]
      have:qr B z=false:=by
       obtain ⟨x,rfl⟩:=Option.isSome_iff_exists.1 k5
       exact k6
      simp [this]
    exact ⟨L.length - (j+1),_,_,by omega,⟨j+1,B,rfl,by omega,(eB.trans e0).symm,rfl,rfl⟩,⟨rfl,rfl,rfl,rfl,rfl,rfl,rfl,rfl,am (ar (by omega)),trivial⟩,⟨rfl,rfl,rfl,trivial⟩,rfl⟩
  ·have k5:=ba k5
   have e0:aK src ins day p.stale B z=some z:=by
    unfold aK
    rw [if_pos]
    have:qr B z=true:=by
     cases B with
     | none=>rfl
     | some x=>cases k5
    simp only [k1,k2,decide_true,Bool.true_and,this,k3,k4]
   exact ⟨fun _=>⟨ZF,⟨L.length - (j+1),_,_,by omega,⟨j+1,some z,rfl,by omega,(eB.trans e0).symm,rfl,rfl⟩,⟨rfl,rfl,rfl,rfl,rfl,rfl,rfl,rfl,am (ar (by omega)),trivial⟩,⟨congrArg (fun A=>some (Blk.row 63 72 A)) hY.symm,rfl,rfl,trivial⟩,rfl⟩⟩,nofun⟩
 ·have h:j=L.length:=by have:=ag h;omega
  have hB:B=e9 ins day p.stale L src:=by rw [hB,List.take_of_length_le (by omega)];rfl
  rw [<- hB]
  have NF:=(tE B).fits
  generalize (tE B).A=NA at *
  exact ⟨NF,[],[],⟨rfl,rfl⟩,trivial,rfl⟩
theorem Cy {E:Env} (hE:E.P=Tryz.prog) {x vp:Value} {L:List QC} {n:Nat} (hn:n=L.length) (hlv:L.length<=4096) {p:PL} (hst:0<=p.stale/\p.stale<=30) (src ins:List UInt8) {day:Int} (c3:¬ day < 0) (c4:¬ day > 73048):OwnC E 271 [SV.c x,SV.c (.agg (p.A vp)),SV.c (.string (S src)),SV.c (.string (S ins)),SV.c (.int .i64 day)] [(3000,Blk.own x 63 72 n (cat QC.A L))] (fun r U=>r=.tuple #[.agg (tE (e9 ins day p.stale L src)).A,.bool (e9 ins day p.stale L src).isSome]/\U=[(3000,Blk.own x 63 72 n (cat QC.A L))]):=by
 subst hn
 have h1:(cat QC.A L).all (·.oneCell')=true:=Go.SX.cat_all (fun a=>a.one) L
 refine (OwnC.with_own (k:=3000) (v:=x) (e:=63) (sz:=72) (n:=L.length) (A:=cat QC.A L) (pre:=[]) rfl rfl h1 (by rw [hE];exact I6.enters) (fun E0 h hl=>Ih (h.trans hE) hl hlv hst src ins c3 c4) (fun x U h=>by rw [h.2];rfl)).mono ?_
 rintro y U ⟨U0,⟨h1,h2⟩,h3⟩
 exact ⟨h1,by rw [h3,h2]⟩
theorem Ig {E:Env} (hE:E.P=Tryz.prog) {v:Value} {k:Int} {xs:List QC} (hv:Lst E v 72 xs.length (cat QC.A xs)) (hn:xs.length<=1000000000000) (hin:∀ y∈xs,y.In) {vp:Value} {p:PL} (hp:Lst E vp 1 p.srcs.length (cat cP p.srcs)) (hpn:p.srcs.length<=1000000000000000) (hpin:p.In) (ins:List UInt8) (day:Int):OwnC E 222 [SV.c v,SV.c (.agg (p.A vp)),SV.c (.int .i64 k),SV.c (.string (S ins)),SV.c (.int .i64 day)] [] (te xs k p ins day):=by
 refine aA [] ai ak Oa E hE [SV.c v,SV.c (.agg (p.A vp)),SV.c (.int .i64 k),SV.c (.string (S ins)),SV.c (.int .i64 day)] [] _ rfl rfl fun w X β hT=>?_
 have hv':=hv.of_old hT
 have hp':=hp.of_old hT
 have V1:=Ju (k:=k) rfl hv' hn hin
 have O1:=qk day
 obtain ⟨a,cap,rfl,hc,h4⟩:=id hp'.shape
 have P1:=oB rfl hp' hpn hpin rfl
 have C1:=fun (E0:Env) (hE0:E0.P=Tryz.prog) (x:Value) (L:List QC) (n:Nat) (hn:n=L.length) (hlv:L.length<=4096) (hst:0<=p.stale/\p.stale<=30) src c3 c4=>Cy (E:=E0) hE0 (x:=x) (vp:=.slice a p.srcs.length cap) (L:=L) (n:=n) hn hlv (p:=p) hst src ins (day:=day) c3 c4
 have F1:=p.size (.slice a p.srcs.length cap)
 have G0:=p.g0 (.slice a p.srcs.length cap)
 have G2:=p.g2 (.slice a p.srcs.length cap)
 generalize p.A (.slice a p.srcs.length cap)=PA at *
 refine ⟨F1,?_⟩
 refine .inr (.inr (.inr ⟨[],[3000],[_,_],[],_,V1,rfl,trivial,rfl,trivial,?_⟩))
 rintro r U ⟨s,n,hsn,rfl,hs,rfl⟩
 refine ⟨rfl,?_⟩
 have eC:fE xs k p day=if bF xs≠0 then bF xs else if aP p then (if day < 0\/day > 73048 then 50 else 0) else 150:=rfl
 have fin:∀ (e:Int) (V:List QC),fE xs k p day=e->V=aZ xs k p ins day->e≠0->te xs k p ins day (cT [.slice none 0 0,.int .i64 e]) [(4000,Blk.own (.slice none 0 0) 63 72 0 #[])]:=fun e V he hV h=>by
  have e1:aZ xs k p ins day=[]:=by unfold aZ;rw [he,if_neg h]
  exact ⟨_,0,by rw [e1];rfl,by rw [he];rfl,.nil,by rw [e1];rfl⟩
 refine ⟨fun c1=>?_,fun c1=>?_⟩
 ·have c1:(bF xs != 0)=true:=c1
  have c1:bF xs≠0:=by simpa using c1
  exact ⟨[(4000,Blk.own (.slice none 0 0) 63 72 0 #[])],[],fin _ _ (by rw [eC,if_pos c1]) rfl c1,⟨.inr ⟨rfl,rfl,rfl⟩,trivial⟩,rfl⟩
 have c1:(bF xs != 0)=false:=c1
 have c1:bF xs=0:=by simpa using c1
 rw [if_neg (by rw [c1];decide)] at eC
 refine .inr (.inr (.inl ⟨[],[_],[],_,[],P1,rfl,trivial,rfl,rfl,fun c2=>?_,fun c2=>?_⟩))
 ·have c2:aP p=false:=by
    cases h:aP p with
    | false=>rfl
    | true=>rw [h] at c2;exact absurd c2 (by decide)
  exact ⟨[(4000,Blk.own (.slice none 0 0) 63 72 0 #[])],[],fin _ _ (by rw [eC,c2];rfl) rfl (by decide),⟨.inr ⟨rfl,rfl,rfl⟩,trivial⟩,rfl⟩
 have c2:aP p=true:=by
  cases h:aP p with
  | true=>rfl
  | false=>rw [h] at c2;exact absurd c2 (by decide)
 rw [c2,if_pos rfl] at eC
 refine .inl ⟨_,O1,fun c3=>?_,fun c3=>?_⟩
 ·have c3:(decide (day < 0) || decide (day > 73048))=true:=c3
  simp only [Bool.or_eq_true,decide_eq_true_eq] at c3
  exact ⟨[(4000,Blk.own (.slice none 0 0) 63 72 0 #[])],[],fin _ _ (by rw [eC,if_pos c3]) rfl (by decide),⟨.inr ⟨rfl,rfl,rfl⟩,trivial⟩,rfl⟩
 have c3:(decide (day < 0) || decide (day > 73048))=false:=c3
 simp only [Bool.or_eq_false_iff,decide_eq_false_iff_not] at c3
 rw [if_neg (by omega)] at eC
 clear fin
 have hst:0<=p.stale/\p.stale<=30/\p.srcs.length<=8:=by
  unfold aP at c2
  simp only [Bool.and_eq_true,decide_eq_true_eq] at c2
  exact ⟨c2.2.2.2.1,c2.2.2.2.2,c2.1.2⟩
 have eV:aZ xs k p ins day=dT (d9 xs k) p.srcs ins day p.stale:=by unfold aZ;rw [if_pos eC]
 have hlv:(d9 xs k).length<=4096:=rQ xs k
 unfold te
 rw [eV,eC]
 clear eV eC V1 P1
 generalize d9 xs k=L at *
 obtain ⟨sa,sc,rfl⟩:=hs.len
 refine ⟨fun q f m=>∃ (i:Nat) (y:Value) (N:Nat),q=p.srcs.length - i/\i<=p.srcs.length/\N=(dT L (p.srcs.take i) ins day p.stale).length/\IsL y N/\f=[(3,SV.c (.string (S ins))),(4,SV.c (.int .i64 day)),(6,SV.ptr 6 0),(12,SV.c (.slice sa n sc)),(14,SV.c y),(15,SV.c (.int .i64 (i:Nat)))]/\m=[(4000,Blk.own y 63 72 N (cat QC.A (dT L (p.srcs.take i) ins day p.stale))),(6,Blk.row 35 68 PA),(3000,Blk.own (.slice sa n sc) 63 72 n (cat QC.A L))],p.srcs.length,⟨_,_,⟨0,.slice none 0 0,0,by omega,by omega,rfl,.nil,rfl,rfl⟩,⟨rfl,rfl,rfl,rfl,rfl,rfl,trivial⟩,⟨.inr ⟨rfl,rfl,rfl⟩,rfl,.inl rfl,trivial⟩,rfl⟩,?_⟩
 rintro q f m ⟨i,y,N,rfl,hi,hN,hy,rfl,rfl⟩
 refine ⟨_,G0,_,fun w' _=>al Tryz.underlying27 w',fun h=>?_,fun h=>?_⟩
 ·have h:i < p.srcs.length:=by have:=af h;omega
  obtain ⟨b,o,rfl,h5⟩:=h4 (by omega)
  obtain ⟨src,hsrc⟩:∃ y,p.srcs[i]? = some y:=⟨_,List.getElem?_eq_getElem h⟩
  have hE':VOk (aT Tryz.prog tt Tryz.f222.ntmps w X (aF [] β)):=ai
  have L1:=aW hE' h5 cD hsrc (j:=0) (v:=.string (S src)) rfl (ty:=9) (ti:=ti9) rfl rfl (p:=aL o ((i:Nat):Int) ti9.size) (fY o i)
  have C2:=C1 (aT Tryz.prog tt Tryz.f222.ntmps w X (aF [] β)).toEnv rfl (.slice sa n sc) L n hsn hlv ⟨hst.1,hst.2.1⟩ src c3.1 c3.2
  have NF:=(tE (e9 ins day p.stale L src)).fits
  refine ⟨_,G0,by omega,by omega,.inl ⟨_,L1,.inr (.inr (.inl ⟨[],[_,_,_,_,_],[_],_,[_],C2,rfl,⟨.inl rfl,trivial⟩,rfl,rfl,NF,by kernel_rfl,fun k1=>?_,fun k1=>?_⟩))⟩⟩
  ·have k1:(e9 ins day p.stale L src).isSome=true:=k1
   obtain ⟨z,hB⟩:=Option.isSome_iff_exists.1 k1
   rw [hB]
   have F1:=kK z
   have F2:=z.fits.one
   have F3:=z.ext72
   have F4:z.A.size=1*72:=z.size
   have F5:cat QC.A (dT L (p.srcs.take i) ins day p.stale)++z.A=cat QC.A (dT L (p.srcs.take (i+1)) ins day p.stale):=by
    rw [jO hsrc hB,cat_append,fB]
   have F6:=congrArg List.length (jO hsrc hB)
   have hl:=oC L (p.srcs.take i) ins day p.stale
   change _=_ at F6
   rw [List.length_append,<- hN] at F6
   rw [<- hN,List.length_take] at hl
   refine .inl ⟨by decide,by decide,_,F1,F4,by decide,4000,N,_,.inl rfl,by decide,F2,F4,_,F3,?_⟩
   obtain ⟨q,hq,hb⟩:=kh
   refine ⟨by omega,by unfold maxLen;omega,⟨q,hq,by rw [hb];omega⟩,trivial,fun g2 cap2=>?_⟩
   exact ⟨p.srcs.length - (i+1),_,_,by omega,⟨i+1,_,N+1,rfl,by omega,F6.symm,.some,rfl,rfl⟩,⟨rfl,rfl,rfl,rfl,rfl,am (ar (by omega)),trivial⟩,⟨.inl (bw F5),rfl,.inl rfl,trivial⟩,rfl⟩
  ·have k1:(e9 ins day p.stale L src).isSome=false:=k1
   have hB:e9 ins day p.stale L src=none:=Option.isNone_iff_eq_none.1 (by simpa using k1)
   have e1:=rh hsrc hB
   exact ⟨p.srcs.length - (i+1),_,_,by omega,⟨i+1,y,N,rfl,by omega,by rw [e1];exact hN,hy,rfl,rfl⟩,⟨rfl,rfl,rfl,rfl,rfl,am (ar (by omega)),trivial⟩,⟨.inl (bw (by rw [e1])),rfl,.inl rfl,trivial⟩,rfl⟩
 ·have h:i=p.srcs.length:=by have:=ag h;omega
  subst h
  rw [List.take_length] at hN ⊢
  exact ⟨[(4000,Blk.own y 63 72 N (cat QC.A (dT L p.srcs ins day p.stale)))],[],⟨y,N,hN,rfl,hy,rfl⟩,⟨.inl rfl,trivial⟩,rfl⟩
end Go.Proofs.YtklehfchdoikeaaGreatDoor
