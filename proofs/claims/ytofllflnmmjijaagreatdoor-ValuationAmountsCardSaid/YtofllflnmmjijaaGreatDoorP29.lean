/- the choice among quotes, in plain words. percentages, nearness. policies. candidates. candidates of the document. clone and delete; no condition. -/
import Derived.Test.YtofllflnmmjijaaGreatDoorP27
import Derived.Test.YtofllflnmmjijaaGreatDoorP24
set_option maxRecDepth 100000
set_option maxHeartbeats 4000000
namespace Go.Proofs.YtofllflnmmjijaaGreatDoor
open Go Go.RowKit Go.SX
structure PL where
 srcs:List (List UInt8)
 tol:RQ
 stale:Int
def strA (l:List UInt8):Array Value:=#[.string (S l)]
theorem strA_size (l:List UInt8):(strA l).size=1:=rfl
def PL.A (p:PL) (v:Value):Array Value:=#[v]++(p.tol.A++#[.int .i64 p.stale])
def pctZ (r:RQ):List UInt8×Int:=if !r.ok then ([],20) else if decide ((mulQ r (.of 100 1)).2≠0) || decide (r.p < 0) then ([],32) else if (txtQ (mulQ r (.of 100 1)).1 6).2≠0 then ([],(txtQ (mulQ r (.of 100 1)).1 6).2) else ((txtQ (mulQ r (.of 100 1)).1 6).1++[37],0)
def pctB (r:RQ):Bool:=decide ((pctZ r).2=0)
theorem pctB_ok {r:RQ} (h:pctB r=true):r.ok=true∧0≤r.p:=by
 have h:(pctZ r).2=0:=of_decide_eq_true h
 unfold pctZ at h
 split at h
 ·simp at h
 ·rename_i h1
  split at h
  ·simp at h
  ·rename_i h2
   simp only [Bool.or_eq_true,decide_eq_true_eq,not_or] at h2
   exact ⟨by simpa using h1,by omega⟩
def nameAt (l:List (List UInt8)) (i:Nat):Bool:=usable (l.getD i []) && !((l.take i).contains (l.getD i []))
def namesB (l:List (List UInt8)):Bool:=(List.range l.length).all (nameAt l)
theorem namesB_true {l:List (List UInt8)} (h:∀ j,j < l.length→nameAt l j=true):namesB l=true:=by
 unfold namesB
 rw [List.all_eq_true]
 intro i hi
 exact h i (List.mem_range.1 hi)
theorem namesB_false {l:List (List UInt8)} {j:Nat} (hj:j < l.length) (h:nameAt l j=false):namesB l=false:=by
 cases e:namesB l with
 | false=>rfl
 | true =>
  unfold namesB at e
  rw [List.all_eq_true] at e
  have:=e j (List.mem_range.2 hj)
  rw [h] at this;cases this
def polOk (p:PL):Bool:=(decide (0 < p.srcs.length) && decide (p.srcs.length≤8)) && (namesB p.srcs && ((pctB p.tol && betQ p.tol 0 1) && (decide (0≤p.stale) && decide (p.stale≤30))))
def newer (b:Option QC) (q:QC):Bool:=match b with
 | none=>true
 | some x=>decide (x.day < q.day)
def candStep (src ins:List UInt8) (day stale:Int) (b:Option QC) (q:QC):Option QC :=
 if decide (q.src=src) && (decide (q.ins=ins) && (decide (q.day≤day) && (decide (day - stale≤q.day) && newer b q))) then some q else b
def candOf (ins:List UInt8) (day stale:Int) (vis:List QC) (src:List UInt8):Option QC:=vis.foldl (candStep src ins day stale) none
def candL (vis:List QC) (srcs:List (List UInt8)) (ins:List UInt8) (day stale:Int):List QC:=srcs.filterMap (candOf ins day stale vis)
def candC (xs:List QC) (_k:Int) (p:PL) (day:Int):Int:=if chkQ xs≠0 then chkQ xs else if polOk p then (if day < 0∨day > 73048 then 50 else 0) else 150
def cands (xs:List QC) (k:Int) (p:PL) (ins:List UInt8) (day:Int):List QC:=if candC xs k p day=0 then candL (visQs xs k) p.srcs ins day p.stale else []
theorem cand_spec (src ins:List UInt8) (day stale:Int):∀ (vis:List QC) (b:Option QC),(∀ q,b=some q→q.src=src∧q.ins=ins∧q.day≤day∧day - stale≤q.day)→∀ q,vis.foldl (candStep src ins day stale) b=some q→(b=some q∨q∈vis)∧q.src=src∧q.ins=ins∧q.day≤day∧day - stale≤q.day
 | [],b,hb,q,h=>⟨.inl h,hb q h⟩
 | y :: r,b,hb,q,h=>by
  rw [List.foldl_cons] at h
  have:=cand_spec src ins day stale r (candStep src ins day stale b y) (fun z hz=>by
   unfold candStep at hz
   split at hz
   ·rename_i hc
    simp only [Bool.and_eq_true,decide_eq_true_eq] at hc
    cases hz
    exact ⟨hc.1,hc.2.1,hc.2.2.1,hc.2.2.2.1⟩
   ·exact hb z hz) q h
  refine ⟨?_,this.2⟩
  rcases this.1 with h1 | h1
  ·unfold candStep at h1
   split at h1
   ·cases h1;exact .inr (by simp)
   ·exact .inl h1
  ·exact .inr (by simp [h1])
theorem candOf_spec {ins:List UInt8} {day stale:Int} {vis:List QC} {src:List UInt8} {q:QC} (h:candOf ins day stale vis src=some q):q∈vis∧q.src=src∧q.ins=ins∧q.day≤day∧day - stale≤q.day:=by
 have:=cand_spec src ins day stale vis none (fun q h=>by cases h) q h
 exact ⟨by rcases this.1 with h | h;cases h;exact h,this.2⟩
theorem candL_mem {vis:List QC} {srcs:List (List UInt8)} {ins:List UInt8} {day stale:Int} {q:QC} (h:q∈candL vis srcs ins day stale):q∈vis∧q.src∈srcs:=by
 unfold candL at h
 rw [List.mem_filterMap] at h
 obtain ⟨s,hs,h⟩:=h
 obtain ⟨h1,h2,-⟩:=candOf_spec h
 exact ⟨h1,h2 ▸ hs⟩
theorem candL_len (vis:List QC) (srcs:List (List UInt8)) (ins:List UInt8) (day stale:Int):(candL vis srcs ins day stale).length≤srcs.length:=List.length_filterMap_le _ _
def ltP (a b:RQ):Bool:=decide (cmpI (a.p*b.q) (b.p*a.q) < 0)
def noQ:QC:=⟨[],[],[],0,zeroQ,0,false⟩
def curH (c:List QC):List UInt8:=(c.headD noQ).cur
def cmpbl (c:List QC):List QC:=c.filter (fun q=>decide (q.cur=curH c))
def midR {α:Type} (l:List α):Option α:=l.reverse[(l.length - 1) / 2]?
def yardQ (c:List QC):RQ:=(midR (sortR ltP ((cmpbl c).map QC.price))).getD zeroQ
def nearQ (price yard tol:RQ):Bool:=decide (cmpI ((absQ (sumQ true price yard).1).1.p*(mulQ tol yard).1.q) ((mulQ tol yard).1.p*(absQ (sumQ true price yard).1).1.q)≤0)
def isGood (c0:List UInt8) (yard tol:RQ) (q:QC):Bool:=decide (q.cur=c0) && nearQ q.price yard tol
structure CH where
 src:List UInt8
 cur:List UInt8
 day:Int
 price:RQ
def CH.A (h:CH) (v:Value):Array Value:=#[.string (S h.src),.string (S h.cur),.int .i64 h.day]++(h.price.A++#[v])
def chZero:CH:=⟨[],[],0,zeroQ⟩
def chOf:Option QC→CH
 | none=>chZero
 | some q=>⟨q.src,q.cur,q.day,q.price⟩
def selCh (c:List QC) (tol:RQ):CH:=chOf (c.find? (isGood (curH c) (yardQ c) tol))
def selBad (c:List QC) (tol:RQ):List (List UInt8):=(c.filter (fun q=>!isGood (curH c) (yardQ c) tol q)).map QC.src
def selE (xs:List QC) (k:Int) (p:PL) (ins:List UInt8) (day:Int):Int:=if candC xs k p day≠0 then candC xs k p day else if cands xs k p ins day=[] then 151 else 0
theorem visQs_mem {xs:List QC} {k:Int} {q:QC} (h:q∈visQs xs k):q∈xs∧rightQ q=true∧q.void=false:=by
 unfold visQs at h
 split at h
 ·rename_i h0
  rw [List.mem_filterMap] at h
  obtain ⟨i,hi,h⟩:=h
  have hm:q∈xs:=List.mem_of_getElem? h
  refine ⟨hm,chkQ_all h0 q hm,?_⟩
  unfold visNQ visI at hi
  rw [List.mem_filter] at hi
  have hv:=hi.2
  unfold visB at hv
  rw [List.getElem?_map,h] at hv
  simp only [Option.map_some,Bool.and_eq_true,Bool.not_eq_true'] at hv
  exact hv.1
 ·cases h
theorem right_price {q:QC} (h:rightQ q=true) (hv:q.void=false):payOk q.price=true∧0 < q.price.p:=by
 unfold rightQ at h
 rw [hv] at h
 simp only [Bool.and_eq_true,Bool.false_eq_true,if_false] at h
 have:=h.2.2.2.2
 unfold priOk at this
 rw [Bool.and_eq_true,decide_eq_true_eq] at this
 refine ⟨this.1,?_⟩
 have h2:=this.2
 unfold sgn at h2
 split at h2
 ·omega
 ·split at h2<;>omega
theorem dvd_of_gcd1 {a b c:Int} (h:a ∣ b*c) (hc:Int.gcd a b=1):a ∣ c :=
 Int.natAbs_dvd_natAbs.1 (Nat.Coprime.dvd_of_dvd_mul_left hc (by rw [← Int.natAbs_mul];exact Int.natAbs_dvd_natAbs.2 h))
theorem pay_ok {r:RQ} (h:payOk r=true):r.ok=true∧0≤r.p∧r.p*1000000 % r.q=0∧r.p≤1000000000*r.q:=by
 unfold payOk at h
 simp only [Bool.and_eq_true,decide_eq_true_eq] at h
 exact ⟨h.1,h.2.2.1,h.2.1,h.2.2.2⟩
theorem pay_bd {r:RQ} (h:payOk r=true):r.q.natAbs≤1000000∧r.p.natAbs≤1000000000000000:=by
 obtain ⟨h1,h2,h3,h4⟩:=pay_ok h
 obtain ⟨-,-,k3,k4,-⟩:=RQ.ok_bits h1
 have hd:r.q ∣ r.p*1000000:=Int.dvd_of_emod_eq_zero h3
 have hc:Int.gcd r.q r.p=1:=by rw [Int.gcd_comm];exact k4
 have hd2:r.q ∣ 1000000:=dvd_of_gcd1 hd hc
 have hq:r.q≤1000000:=Int.le_of_dvd (by omega) hd2
 refine ⟨by omega,?_⟩
 have:1000000000*r.q≤1000000000*1000000:=Int.mul_le_mul_of_nonneg_left hq (by omega)
 omega
theorem tol_bd {r:RQ} (h:pctB r=true) (hb:betQ r 0 1=true):r.ok=true∧r.q.natAbs≤100000000∧r.p.natAbs≤100000000:=by
 obtain ⟨h1,h2⟩:=pctB_ok h
 obtain ⟨k1,k2,k3,k4,-⟩:=RQ.ok_bits h1
 have hle:r.p≤r.q:=by
  unfold betQ at hb
  simp only [Bool.and_eq_true,decide_eq_true_eq] at hb
  omega
 have h:(pctZ r).2=0:=of_decide_eq_true h
 unfold pctZ at h
 rw [if_neg (by rw [h1];simp)] at h
 split at h
 ·simp at h
 rename_i h3
 simp only [Bool.or_eq_true,decide_eq_true_eq,not_or,Decidable.not_not] at h3
 split at h
 ·rename_i h4;exact absurd h h4
 rename_i h4
 have h4:(txtQ (mulQ r (.of 100 1)).1 6).2=0:=by simpa using h4
 have ho:(RQ.of 100 1).ok=true:=by decide
 have hm:(mulQ r (.of 100 1))=mkQ (r.p*100) (r.q*1):=by
  unfold mulQ
  rw [h1,ho,RQ.of_p,RQ.of_q];rfl
 have hz:∃ a b:Int,(mulQ r (.of 100 1)).1.p=a∧(mulQ r (.of 100 1)).1.q=b∧a*(r.q*1)=r.p*100*b∧0 < b∧Int.gcd a b=1:=by
  have h5:(mkQ (r.p*100) (r.q*1)).2=0:=by rw [← hm];exact h3.1
  refine ⟨_,_,rfl,rfl,?_⟩
  rw [hm]
  have hg:0 < Int.gcd (r.p*100) (r.q*1):=Int.gcd_pos_of_ne_zero_right _ (by omega)
  have hs:sgn (r.q*1)=1:=by unfold sgn;rw [if_neg (by omega),if_neg (by omega)]
  unfold mkQ at h5 ⊢
  rw [if_neg (by omega)] at h5 ⊢
  split
  ·rename_i h6
   dsimp only
   rw [RQ.of_p,RQ.of_q,hs,Int.one_mul]
   obtain ⟨p,hp⟩:((Int.gcd (r.p*100) (r.q*1):Nat):Int) ∣ r.p*100:=Int.gcd_dvd_left _ _
   obtain ⟨q,hq⟩:((Int.gcd (r.p*100) (r.q*1):Nat):Int) ∣ r.q*1:=Int.gcd_dvd_right _ _
   have hg0:((Int.gcd (r.p*100) (r.q*1):Nat):Int)≠0:=by omega
   have hg1:(0:Int) < ((Int.gcd (r.p*100) (r.q*1):Nat):Int):=by omega
   have hco:=Int.gcd_ediv_gcd_ediv_gcd hg
   generalize ((Int.gcd (r.p*100) (r.q*1):Nat):Int)=g at *
   rw [hp,hq] at hco ⊢
   rw [Int.mul_ediv_cancel_left _ hg0,Int.mul_ediv_cancel_left _ hg0] at hco ⊢
   refine ⟨?_,?_,hco⟩
   ·rw [← Int.mul_assoc,Int.mul_comm p g]
   ·have:0 < g*q:=by omega
    exact Int.pos_of_mul_pos_right this (by omega)
  ·rename_i h6
   rw [if_neg h6] at h5
   simp at h5
 obtain ⟨a,b,ha,hb2,hab,hbp,hgab⟩:=hz
 have ht:(mulQ r (.of 100 1)).1.p*((tp 6:Nat):Int) % (mulQ r (.of 100 1)).1.q=0:=by
  unfold txtQ at h4
  split at h4
  ·simp at h4
  split at h4
  ·simp at h4
  split at h4
  ·simp at h4
  rename_i h7
  simpa using h7
 rw [ha,hb2] at ht
 have d1:b ∣ a*1000000:=Int.dvd_of_emod_eq_zero ht
 have d2:b ∣ 1000000:=dvd_of_gcd1 d1 (by rw [Int.gcd_comm];exact hgab)
 have d3:r.q ∣ r.p*(100*b):=⟨a,by rw [← Int.mul_assoc,← hab,Int.mul_one,Int.mul_comm]⟩
 have d4:r.q ∣ 100*b:=dvd_of_gcd1 d3 (by rw [Int.gcd_comm];exact k4)
 have hb6:b≤1000000:=Int.le_of_dvd (by omega) d2
 have hq8:r.q≤100*b:=Int.le_of_dvd (by omega) d4
 refine ⟨h1,by omega,by omega⟩
theorem near_ok {r y t:RQ} (hr:payOk r=true) (hy:payOk y=true) (ht:pctB t=true) (hb:betQ t 0 1=true):(sumQ true r y).1.ok=true∧(absQ (sumQ true r y).1).1.ok=true∧(mulQ t y).1.ok=true∧(absQ (sumQ true r y).1).1.p.natAbs≤2000000000000000000000∧(absQ (sumQ true r y).1).1.q.natAbs≤1000000000000∧(mulQ t y).1.p.natAbs≤100000000000000000000000∧(mulQ t y).1.q.natAbs≤100000000000000:=by
 obtain ⟨r1,r2⟩:=pay_bd hr
 obtain ⟨y1,y2⟩:=pay_bd hy
 obtain ⟨t0,t1,t2⟩:=tol_bd ht hb
 obtain ⟨u,e1,e2,-,e3,e4⟩:=sumQ_val true (pay_ok hr).1 (pay_ok hy).1 r2 r1 y2 y1 (by decide +kernel) (by decide +kernel)
 obtain ⟨v,f1,f2,-,f3,f4⟩:=mulQ_val t0 (pay_ok hy).1 t2 t1 y2 y1 (by decide +kernel) (by decide +kernel)
 rw [e1,f1]
 obtain ⟨g1,g2,g3,g4,-⟩:=RQ.ok_bits e2
 have ha:(absQ u).1=.of (u.p.natAbs:Int) u.q:=by unfold absQ;rw [if_pos e2]
 dsimp only
 rw [ha]
 refine ⟨e2,RQ.ok_of (by simpa using g1) g2 g3 (by simpa [Int.gcd] using g4),f2,?_,?_,?_,?_⟩
 ·rw [RQ.of_p];simp;omega
 ·rw [RQ.of_q];omega
 ·omega
 ·omega
theorem bnot_t {b:Bool} (h:(!b)=true):b=false:=by simpa using h
theorem bnot_f {b:Bool} (h:(!b)=false):b=true:=by simpa using h
theorem RQ.setneg (r:RQ) (b:Bool):r.A.setIfInBounds (0+0+0) (.bool b)=({ r with a:=b }:RQ).A:=by kernel_rfl
theorem absQ_set {r:RQ} (h:r.ok=true):(absQ r).1={ r with a:=false }:=by
 have k:=RQ.ok_bits h
 unfold absQ
 rw [if_pos h]
 have hb:r.b=false:=by unfold RQ.ok at h;exact (of_decide_eq_true h).2.2.2.1
 obtain ⟨a,N,b,D⟩:=r
 dsimp only at hb
 subst hb
 have e1:(RQ.p ⟨a,N,false,D⟩).natAbs=N:=by simp [RQ.p,zN_abs]
 have e2:(RQ.q ⟨a,N,false,D⟩)=(D:Int):=by simp [RQ.q,zN]
 rw [e1,e2]
 unfold RQ.of
 simp
theorem absQ_in {r:RQ} (h:r.In):(absQ r).1.In:=by
 unfold absQ
 split
 ·exact ⟨by simpa [RQ.of,RQ.p,zN_abs] using h.N,by simpa [RQ.of,RQ.q,zN_abs] using h.D⟩
 ·exact ⟨zero_lt,zero_lt⟩
theorem absR_z {r:RQ} (hr:r.In):Pure Tryz.prog 74 [SV.c (.agg r.A)] (resQ (absQ r)):=by
 refine sx_pure tt_ok mixed at74 _ _ rfl rfl fun w=>?_
 have hv:=valid_raw hr
 refine ⟨r.A_size,.inl ⟨_,hv,fun c=>?_,fun c=>?_⟩⟩
 ·have c:=bnot_t c
  refine ⟨_,rfl,RQ.A_fits (.of 0 0),?_,trivial⟩
  unfold absQ
  rw [if_neg (by rw [c];decide)];rfl
 ·have c:=bnot_f c
  refine ⟨by decide,rfl,_,RQ.setneg r false,RQ.A_fits _,?_,trivial⟩
  rw [← absQ_set c]
  unfold absQ
  rw [if_pos c];rfl
theorem txt_len (r:RQ):(txtQ r 6).1.length≤100:=by
 unfold txtQ
 split
 ·simp
 split
 ·simp
 split
 ·simp
 unfold txtZ
 dsimp only
 generalize padZ (6:Int).toNat (fmtN (r.p*((tp (6:Int).toNat:Nat):Int) / r.q).natAbs)=s
 have h:=trimR_len 48 (s.drop (s.length - (6:Int).toNat))
 generalize trimR 48 (s.drop (s.length - (6:Int).toNat))=p at *
 rw [List.length_drop] at h
 have e6:(6:Int).toNat=6:=rfl
 rw [e6] at *
 split
 ·simp
 ·have h1:(if p=[] then ([]:List UInt8) else 46 :: p).length≤7:=by split<;>simp;omega
  have h2:(if r.p*((tp 6:Nat):Int) / r.q < 0 then ([45]:List UInt8) else []).length≤1:=by split<;>simp
  simp only [List.length_append,List.length_take]
  omega
theorem pct_z {r:RQ} (hr:r.In):Pure Tryz.prog 72 [SV.c (.agg r.A)] (resS (pctZ r)):=by
 refine sx_pure tt_ok mixed at72 _ _ rfl rfl fun w=>?_
 have hv:=valid_raw hr
 have hw:=whole1_z (n:=100) (by decide) (by decide)
 have hm:=mulR_z hr (s:=RQ.of 100 1) (RQ.of_in (by decide) (by decide))
 refine ⟨r.A_size,.inl ⟨_,hv,fun c=>?_,fun c=>?_⟩⟩
 ·have c:=bnot_t c
  refine ⟨?_,trivial⟩
  unfold pctZ
  rw [c];rfl
 ·have c:=bnot_f c
  refine .inl ⟨_,hw,.inl ⟨_,hm,?_⟩⟩
  have ht:=text_z (mulQ_in r (.of 100 1)) 6
  have hl:=txt_len (mulQ r (.of 100 1)).1
  refine ⟨RQ.A_fits _,?_⟩
  have g0:r.A[0]? = some (.bool r.a):=by kernel_rfl
  unfold pctZ
  rw [c,Bool.not_true,if_neg Bool.false_ne_true]
  have hp:r.a=decide (r.p < 0):=by
   have k:=RQ.ok_bits c
   have:=congrArg RQ.a k.2.2.2.2
   rw [this];rfl
  generalize mulQ r (.of 100 1)=mm at *
  rw [hp] at g0
  generalize r.A=RA at *
  generalize r.p=rp at *
  generalize txtQ mm.1 6=tt6 at *
  have hf:=RQ.A_fits mm.1
  generalize mm.1.A=MA at *
  generalize mm.2=me at *
  refine ⟨by kernel_rfl,fun c2=>?_,fun c2=>?_⟩
  ·have c2:(me != 0)=false:=c2
   have c2:me=0:=by simpa using c2
   refine ⟨_,g0,fun c3=>?_,fun c3=>?_⟩
   ·have c3:decide (rp < 0)=true:=c3
    exact ⟨by rw [if_pos (by rw [c3,Bool.or_true])];rfl,trivial⟩
   ·have c3:decide (rp < 0)=false:=c3
    rw [if_neg (by rw [c3,c2];decide)]
    refine .inl ⟨_,ht,fun c4=>?_,fun c4=>?_⟩
    ·have c4:(tt6.2 != 0)=true:=c4
     have c4:tt6.2≠0:=by simpa using c4
     rw [if_pos c4]
     exact ⟨rfl,trivial⟩
    ·have c4:(tt6.2 != 0)=false:=c4
     have c4:tt6.2=0:=by simpa using c4
     rw [if_neg (by rw [c4];decide)]
     refine ⟨?_,?_,trivial⟩
     ·show (S tt6.1).size+(S [37]).size≤9223372036854775807
      rw [S_size,S_size];simp;omega
     ·show mkRes [.string (S tt6.1++S [37]),.int .i64 0]=_
      rw [S_add];rfl
  ·have c2:(me != 0)=true:=c2
   have c2:me≠0:=by simpa using c2
   refine ⟨fun _=>?_,nofun⟩
   exact ⟨by rw [if_pos (by simp [c2])];rfl,trivial⟩
theorem near_z {r y t:RQ} (hr:r.In) (hy:y.In) (ht:t.In) (h1:(absQ (sumQ true r y).1).1.ok=true) (h2:(mulQ t y).1.ok=true):Pure Tryz.prog 236 [SV.c (.agg r.A),SV.c (.agg y.A),SV.c (.agg t.A)] (.bool (nearQ r y t)):=by
 refine sx_pure tt_ok mixed at236 _ _ rfl rfl fun w=>?_
 have hs:=subR_z hr hy
 have ha:=absR_z (sumQ_in true r y)
 have hm:=mulR_z ht hy
 have hc:=cmpR_z (absQ_in (sumQ_in true r y)) (mulQ_in t y)
 rw [h1,h2] at hc
 refine ⟨r.A_size,y.A_size,t.A_size,.inl ⟨_,hs,RQ.A_fits _,.inl ⟨_,ha,RQ.A_fits _,.inl ⟨_,hm,RQ.A_fits _,.inl ⟨_,hc,rfl,trivial⟩⟩⟩⟩⟩
theorem near_r {r y t:RQ} (hr:r.In) (hy:y.In) (ht:t.In) (h1:((absQ (sumQ true r y).1).1.p*(mulQ t y).1.q).natAbs < BB ^ 32) (h2:((mulQ t y).1.p*(absQ (sumQ true r y).1).1.q).natAbs < BB ^ 32):Pure Tryz.prog 168 [SV.c (.agg r.A),SV.c (.agg y.A),SV.c (.agg t.A)] (.bool (nearQ r y t)):=by
 refine sx_pure tt_ok mixed at168 _ _ rfl rfl fun w=>?_
 have hs:=subR_r hr hy
 have ha:=absR_r (sumQ_in true r y)
 have hm:=mulR_r ht hy
 have hc:=compareR_r (absQ_in (sumQ_in true r y)) (mulQ_in t y) h1 h2
 refine ⟨r.A_size,y.A_size,t.A_size,.inl ⟨_,hs,RQ.A_fits _,.inl ⟨_,ha,RQ.A_fits _,.inl ⟨_,hm,RQ.A_fits _,.inl ⟨_,hc,rfl,trivial⟩⟩⟩⟩⟩
theorem cheaper_z {a b:QC} (ha:a.In) (hb:b.In) (h1:a.price.ok=true) (h2:b.price.ok=true):Pure Tryz.prog 235 [SV.c (.agg a.A),SV.c (.agg b.A)] (.int .i64 (cmpI (a.price.p*b.price.q) (b.price.p*a.price.q))):=by
 have hc:=cmpR_z ha.price hb.price
 rw [h1,h2] at hc
 have F1:=a.size
 have F2:=b.size
 have G1:=a.gpri
 have G2:=b.gpri
 generalize a.A=YA at *
 generalize b.A=YB at *
 refine sx_pure tt_ok mixed at235 _ _ rfl rfl fun w=>?_
 exact ⟨F1,F2,by decide,_,G1,by decide,_,G2,.inl ⟨_,hc,rfl,trivial⟩⟩
theorem elem_is {P:Program} {t e:TypeId} (hu:P.underlying t=some (.slice e)):P.elem t=e:=by simp [Program.elem,hu]
theorem runs_shi {E:VE} (hE:VOk E) {t e:TypeId} (hu:E.P.underlying t=some (.slice e)) {j:TI} (hj:E.tt e=some j) {a:Option Addr} {n cap:Nat} {k:IntKind} {x:Int} (i:Nat) (hx:x=i) (hi:i≤cap):Runs E.toEnv (Instr.sliceAt t (.slice a n cap) none (some (.int k x)) none) (.slice a i cap):=fun w _=>by
 subst hx
 have he:=elem_is hu
 have hu2:E.P.underlying t=some (.slice (E.P.elem t)):=by rw [he];exact hu
 rw [run_sliceAt_slice _ t _ _ _ _ hu2,run_slice_h _ t a n cap hu2 k i (by omega) (by omega),he,Go.SX.run_sizeOf (hE _ j hj)]
 simp only [Result.andThen_ok,sliced,Int.toNat_natCast,Nat.zero_mul,Nat.sub_zero]
 congr 2
 split
 ·rfl
 ·cases a with
  | none=>rfl
  | some a=>simp [Addr.add]
theorem runs_slo {E:VE} (hE:VOk E) {t e:TypeId} (hu:E.P.underlying t=some (.slice e)) {j:TI} (hj:E.tt e=some j) {a:Option Addr} {n cap:Nat} {k:IntKind} {x:Int} (i:Nat) (hx:x=i) (hi:i≤n):Runs E.toEnv (Instr.sliceAt t (.slice a n cap) (some (.int k x)) none none) (.slice (if cap=i then a else a.map (·.add (i*j.size))) (n - i) (cap - i)):=fun w _=>by
 subst hx
 have he:=elem_is hu
 have hu2:E.P.underlying t=some (.slice (E.P.elem t)):=by rw [he];exact hu
 rw [run_sliceAt_slice _ t _ _ _ _ hu2,run_slice_l _ t a n cap hu2 k i (by omega) (by omega),he,Go.SX.run_sizeOf (hE _ j hj)]
 simp only [Result.andThen_ok,sliced,Int.toNat_natCast]
theorem Lst.take {E:Env} {a:Option Addr} {n cap sz i:Nat} {A B:Array Value} (h:Lst E (.slice a n cap) sz n A) (hi:i≤n) (hB:B=A.extract 0 (i*sz)):Lst E (.slice a i cap) sz i B:=by
 subst hB
 obtain ⟨h1,h2,h3,a',cap',he,hc,h4⟩:=h
 cases he
 have hm:i*sz≤n*sz:=Nat.mul_le_mul_right _ hi
 refine ⟨by rw [Array.size_extract,h1];omega,by omega,?_,a,cap,rfl,by omega,fun hp=>?_⟩
 ·rw [Array.all_eq_true] at h3 ⊢
  intro k hk
  rw [Array.getElem_extract]
  exact h3 _ _
 ·obtain ⟨b,o,rfl,h5⟩:=h4 (by omega)
  refine ⟨b,o,rfl,fun w hw j u hj=>h5 w hw j u ?_⟩
  have hj2:=(Array.getElem?_eq_some_iff.1 hj).1
  rw [Array.getElem?_extract] at hj
  split at hj
  ·rw [Nat.zero_add] at hj;exact hj
  ·cases hj
theorem cat_take {α:Type} {g:α→Array Value} {s:Nat} (hg:∀ x,(g x).size=s) (xs:List α) (i:Nat) (hi:i≤xs.length):cat g (xs.take i)=(cat g xs).extract 0 (i*s):=by
 have h1:cat g xs=cat g (xs.take i)++cat g (xs.drop i):=by rw [← cat_append,List.take_append_drop]
 have h2:(cat g (xs.take i)).size=i*s:=by rw [Go.SX.cat_size hg];simp [Nat.min_eq_left hi]
 rw [h1]
 rw [Array.extract_append,h2,Nat.sub_self,Nat.zero_sub,← h2,Array.extract_size]
 simp
theorem off_one (o j:Nat):offAt o ((j:Nat):Int) ti9.size=o+j*1+0:=by
 show offAt o ((j:Nat):Int) 1=_
 cases o<;>simp [offAt]
theorem contains_step {xs:List (List UInt8)} {s y:List UInt8} {i:Nat} (hy:xs[i]? = some y) (h:(xs.take i).contains s=false) (hne:s≠y):(xs.take (i+1)).contains s=false:=by
 rw [List.take_add_one,hy]
 rw [List.contains_eq_any_beq] at *
 simp only [List.any_append,h,Option.toList,List.any_cons,List.any_nil,Bool.or_false,Bool.false_or]
 simpa using hne
theorem contains_at {xs:List (List UInt8)} {s y:List UInt8} {i:Nat} (hy:xs[i]? = some y) (he:s=y):xs.contains s=true:=by
 subst he
 rw [List.contains_iff_mem]
 exact List.mem_of_getElem? hy
theorem index_s {E:Env} (hE:E.P=Tryz.prog) {v:Value} {xs:List (List UInt8)} {s:List UInt8} (hv:Lst E v 1 xs.length (cat strA xs)) (hn:xs.length≤1000000000000000):OwnC E 124 [SV.c v,SV.c (.string (S s))] [] (fun x U=>(∃ i:Int,x=.int .i64 i∧(decide (0≤i)=xs.contains s))∧U=[]):=by
 refine sx_ownC [] tt_ok mixed at124 E hE [SV.c v,SV.c (.string (S s))] [] _ rfl rfl fun w X β hT=>?_
 have hv':=hv.of_old hT
 obtain ⟨a,cap,rfl,hc,h4⟩:=hv'.shape
 refine ⟨_,fun w' _=>run_len_sl Tryz.underlying27 w',?_⟩
 refine ⟨fun q f m=>∃ (i:Nat),q=xs.length - i∧i≤xs.length∧(xs.take i).contains s=false∧f=[(0,SV.c (.slice a xs.length cap)),(1,SV.c (.string (S s))),(7,SV.c (.int .i64 (xs.length:Nat))),(8,SV.c (.int .i64 (i:Nat)))]∧m=[],xs.length,⟨_,_,⟨0,by omega,by omega,rfl,rfl,rfl⟩,⟨rfl,rfl,rfl,rfl,trivial⟩,trivial,rfl⟩,?_⟩
 rintro q f m ⟨i,rfl,hi,hno,rfl,rfl⟩
 refine ⟨fun h=>?_,fun h=>?_⟩
 ·have h:i < xs.length:=by have:=of_decide_eq_true h;omega
  obtain ⟨b,o,rfl,h5⟩:=h4 (by omega)
  obtain ⟨y,hy⟩:∃ y,xs[i]? = some y:=⟨_,List.getElem?_eq_getElem h⟩
  have hE':VOk (envC Tryz.prog tt Tryz.f124.ntmps w X (tiedK [] β)):=tt_ok
  have L1:=lst_at hE' h5 strA_size hy (j:=0) (v:=.string (S y)) rfl (ty:=9) (ti:=ti9) rfl rfl (p:=offAt o ((i:Nat):Int) ti9.size) (off_one o i)
  refine ⟨by omega,by omega,.inl ⟨_,L1,fun c=>?_,fun c=>?_⟩⟩
  ·have c:=str_eq c
   exact ⟨[],[],⟨⟨_,rfl,by rw [contains_at hy c];exact decide_eq_true (by omega)⟩,rfl⟩,trivial,rfl⟩
  ·have c:=str_ne c
   exact ⟨xs.length - (i+1),_,_,by omega,⟨i+1,rfl,by omega,contains_step hy hno c,rfl,rfl⟩,⟨rfl,rfl,rfl,c_int (i64_succ (by omega)),trivial⟩,trivial,rfl⟩
 ·have h:i=xs.length:=by have:=of_decide_eq_false h;omega
  subst h
  rw [List.take_length] at hno
  exact ⟨[],[],⟨⟨_,rfl,by rw [hno];rfl⟩,rfl⟩,trivial,rfl⟩
theorem contains_s {E:Env} (hE:E.P=Tryz.prog) {v:Value} {xs:List (List UInt8)} {s:List UInt8} (hv:Lst E v 1 xs.length (cat strA xs)) (hn:xs.length≤1000000000000000):OwnC E 71 [SV.c v,SV.c (.string (S s))] [] (fun x U=>x=.bool (xs.contains s)∧U=[]):=by
 refine sx_ownC [] tt_ok mixed at71 E hE [SV.c v,SV.c (.string (S s))] [] _ rfl rfl fun w X β hT=>?_
 have I1:=index_s (s:=s) rfl (hv.of_old hT) hn
 refine .inr (.inr (.inr ⟨[],[],[_,_],[],_,I1,rfl,trivial,rfl,trivial,?_⟩))
 rintro x U ⟨⟨i,rfl,hi⟩,rfl⟩
 refine ⟨rfl,?_⟩
 exact ⟨[],[],⟨by rw [← hi];rfl,rfl⟩,trivial,rfl⟩
theorem nameAt_no {xs:List (List UInt8)} {i:Nat} {y:List UInt8} (hy:xs[i]? = some y):nameAt xs i=(usable y && !((xs.take i).contains y)):=by
 unfold nameAt
 rw [List.getD_eq_getElem?_getD,hy];rfl
structure PL.In (p:PL):Prop where
 tol:p.tol.In
 srcs:∀ y∈p.srcs,y.length≤9223372036854775807
 stale : -9223372036854775808≤p.stale∧p.stale≤9223372036854775807
theorem PL.size (p:PL) (v:Value):(p.A v).size=68:=by simp [PL.A,RQ.A_size]
theorem PL.fits (p:PL) {v:Value} (hv:v.oneCell'=true):Fits (p.A v) 68:=⟨p.size v,by
 rw [PL.A,Array.all_append,Array.all_append,p.tol.A_fits.one]
 simp [Value.oneCell']
 cases v<;>simp_all [Value.oneCell']⟩
theorem PL.g0 (p:PL) (v:Value):(p.A v)[0]? = some v:=by
 rw [PL.A,Array.getElem?_append_left (by simp)]
 rfl
theorem PL.g2 (p:PL) (v:Value):(p.A v)[67]? = some (.int .i64 p.stale):=by
 have h1:p.A v=(#[v]++p.tol.A)++#[.int .i64 p.stale]:=by simp [PL.A]
 have h2:(#[v]++p.tol.A).size=67:=by simp [RQ.A_size]
 rw [h1,Array.getElem?_append_right (by omega),h2]
 rfl
theorem PL.g1 (p:PL) (v:Value):(p.A v).extract 1 (1+66)=p.tol.A:=by
 have h2:p.tol.A.size=66:=RQ.A_size _
 rw [PL.A,Array.extract_append]
 have e:(#[v]:Array Value).size=1:=rfl
 rw [e,Array.extract_append,h2]
 have e2:p.tol.A.extract (1 - 1) (1+66 - 1)=p.tol.A:=by
  rw [show (1+66 - 1:Nat)=p.tol.A.size by omega,Nat.sub_self,Array.extract_size]
 rw [e2]
 apply Array.ext'
 simp
theorem check_p {E:Env} (hE:E.P=Tryz.prog) {v:Value} {p:PL} (hv:Lst E v 1 p.srcs.length (cat strA p.srcs)) (hn:p.srcs.length≤1000000000000000) (hin:p.In):OwnC E 29 [SV.c (.agg (p.A v))] [] (fun x U=>x=.int .i64 (if polOk p then 0 else 150)∧U=[]):=by
 refine sx_ownC [] tt_ok mixed at29 E hE [SV.c (.agg (p.A v))] [] _ rfl rfl fun w X β hT=>?_
 have hv':=hv.of_old hT
 have P1:=pct_z hin.tol
 have W1:=whole1_z (n:=1) (by decide) (by decide)
 have C1:=cmpR_z hin.tol (s:=RQ.of 1 1) (RQ.of_in (by decide) (by decide))
 obtain ⟨a,cap,rfl,hc,h4⟩:=id hv'.shape
 have F1:=p.size (.slice a p.srcs.length cap)
 have G0:=p.g0 (.slice a p.srcs.length cap)
 have G1:=p.g1 (.slice a p.srcs.length cap)
 have G2:=p.g2 (.slice a p.srcs.length cap)
 generalize p.A (.slice a p.srcs.length cap)=PA at *
 refine ⟨F1,_,G0,_,fun w' _=>run_len_sl Tryz.underlying27 w',?_⟩
 have done:polOk p=false→mkRes [.int .i64 150]=Value.int .i64 (if polOk p then 0 else 150):=fun h=>by rw [h];rfl
 refine ⟨fun c=>?_,fun c=>?_⟩
 case refine_2 =>
  have c:((p.srcs.length:Int) == 0)=true:=c
  have c:p.srcs.length=0:=by have:=of_decide_eq_true c;omega
  exact ⟨nofun,fun _=>⟨nofun,fun _=>⟨fun _=>⟨[],[],⟨done (by unfold polOk;rw [c];rfl),rfl⟩,trivial,rfl⟩,nofun⟩⟩⟩
 refine ⟨_,G0,_,fun w' _=>run_len_sl Tryz.underlying27 w',fun c2=>?_,fun c2=>?_⟩
 case refine_2 =>
  have c2:decide ((p.srcs.length:Int) > 8)=true:=c2
  have c2:=of_decide_eq_true c2
  exact ⟨nofun,fun _=>⟨fun _=>⟨[],[],⟨done (by unfold polOk;rw [decide_eq_false (show ¬ p.srcs.length≤8 by omega),Bool.and_false];rfl),rfl⟩,trivial,rfl⟩,nofun⟩⟩
 refine ⟨_,G2,fun c3=>?_,fun c3=>?_⟩
 case refine_2 =>
  have c3:decide (p.stale < 0)=true:=c3
  have c3:=of_decide_eq_true c3
  exact ⟨fun _=>⟨[],[],⟨done (by unfold polOk;rw [decide_eq_false (show ¬ 0≤p.stale by omega)];simp),rfl⟩,trivial,rfl⟩,nofun⟩
 refine ⟨_,G2,fun c4=>?_,fun c4=>?_⟩
 case refine_1 =>
  have c4:decide (p.stale > 30)=true:=c4
  have c4:=of_decide_eq_true c4
  exact ⟨[],[],⟨done (by unfold polOk;rw [decide_eq_false (show ¬ p.stale≤30 by omega)];simp),rfl⟩,trivial,rfl⟩
 have c:((p.srcs.length:Int) == 0)=false:=c
 have c:p.srcs.length≠0:=fun h=>by rw [h] at c;cases c
 have c2:decide ((p.srcs.length:Int) > 8)=false:=c2
 have c2:=of_decide_eq_false c2
 have c3:decide (p.stale < 0)=false:=c3
 have c3:=of_decide_eq_false c3
 have c4:decide (p.stale > 30)=false:=c4
 have c4:=of_decide_eq_false c4
 have ep:polOk p=(namesB p.srcs && (pctB p.tol && betQ p.tol 0 1)):=by
  unfold polOk
  rw [decide_eq_true (show 0 < p.srcs.length by omega),decide_eq_true (show p.srcs.length≤8 by omega),decide_eq_true (show 0≤p.stale by omega),decide_eq_true (show p.stale≤30 by omega)]
  simp
 rw [ep] at done ⊢
 clear ep
 refine ⟨_,G0,_,fun w' _=>run_len_sl Tryz.underlying27 w',?_⟩
 refine ⟨fun q f m=>∃ (i:Nat),q=p.srcs.length - i∧i≤p.srcs.length∧(∀ j,j < i→nameAt p.srcs j=true)∧f=[(1,SV.ptr 1 0),(30,SV.c (.slice a p.srcs.length cap)),(31,SV.c (.int .i64 (p.srcs.length:Nat))),(32,SV.c (.int .i64 (i:Nat)))]∧m=[(1,Blk.row 35 68 PA)],p.srcs.length,⟨_,_,⟨0,by omega,by omega,fun j hj=>by omega,rfl,rfl⟩,⟨rfl,rfl,rfl,rfl,trivial⟩,⟨rfl,trivial⟩,rfl⟩,?_⟩
 rintro q f m ⟨i,rfl,hi,hno,rfl,rfl⟩
 refine ⟨fun h=>?_,fun h=>?_⟩
 ·have h:i < p.srcs.length:=by have:=of_decide_eq_true h;omega
  obtain ⟨b,o,rfl,h5⟩:=h4 (by omega)
  obtain ⟨y,hy⟩:∃ y,p.srcs[i]? = some y:=⟨_,List.getElem?_eq_getElem h⟩
  have hE':VOk (envC Tryz.prog tt Tryz.f29.ntmps w X (tiedK [] β)):=tt_ok
  have L1:=lst_at hE' h5 strA_size hy (j:=0) (v:=.string (S y)) rfl (ty:=9) (ti:=ti9) rfl rfl (p:=offAt o ((i:Nat):Int) ti9.size) (off_one o i)
  have N1:=name_t y (hin.srcs y (List.mem_of_getElem? hy))
  have S1:=runs_shi hE' Tryz.underlying27 (j:=ti9) rfl (a:=some ⟨b,o,none⟩) (n:=p.srcs.length) (cap:=cap) (k:=.i64) i rfl (by omega)
  have T1:=Lst.take hv' (i:=i) (by omega) (cat_take strA_size p.srcs i (by omega))
  have H1:=contains_s (s:=y) (xs:=p.srcs.take i) rfl (by rw [List.length_take,Nat.min_eq_left (by omega)];exact T1) (by simp;omega)
  refine ⟨by omega,by omega,.inl ⟨_,L1,.inl ⟨_,N1,fun c1=>?_,fun c1=>?_⟩⟩⟩
  ·have c1:=bnot_f c1
   refine ⟨_,G0,_,S1,.inr (.inr (.inl ⟨[],[_,_],[],_,[],H1,rfl,trivial,rfl,rfl,fun c2=>?_,fun c2=>?_⟩))⟩
   ·have c2:(p.srcs.take i).contains y=true:=c2
    have e1:nameAt p.srcs i=false:=by rw [nameAt_no hy,c1,c2];rfl
    exact ⟨[],[],⟨done (by rw [namesB_false h e1];rfl),rfl⟩,trivial,rfl⟩
   ·have c2:(p.srcs.take i).contains y=false:=c2
    have e1:nameAt p.srcs i=true:=by rw [nameAt_no hy,c1,c2];rfl
    refine ⟨p.srcs.length - (i+1),_,_,by omega,⟨i+1,rfl,by omega,fun j hj=>?_,rfl,rfl⟩,⟨rfl,rfl,rfl,c_int (i64_succ (by omega)),trivial⟩,⟨rfl,trivial⟩,rfl⟩
    rcases Nat.lt_or_ge j i with h9 | h9
    ·exact hno j h9
    ·have:j=i:=by omega
     subst this
     exact e1
  ·have c1:=bnot_t c1
   have e1:nameAt p.srcs i=false:=by rw [nameAt_no hy,c1];rfl
   exact ⟨fun _=>⟨[],[],⟨done (by rw [namesB_false h e1];rfl),rfl⟩,trivial,rfl⟩,nofun⟩
 ·have h:i=p.srcs.length:=by have:=of_decide_eq_false h;omega
  subst h
  have e1:=namesB_true hno
  rw [e1] at done ⊢
  have hz:pctB p.tol=decide ((pctZ p.tol).2=0):=rfl
  have hok:pctB p.tol=true→p.tol.ok=true∧0≤p.tol.p:=pctB_ok
  generalize pctZ p.tol=pz at *
  have ho:(RQ.of 1 1).ok=true:=by decide
  rw [ho,RQ.of_p,RQ.of_q] at C1
  refine ⟨by decide,_,G1,.inl ⟨_,P1,by decide,_,G1,.inl ⟨_,W1,.inl ⟨_,C1,by kernel_rfl,fun c5=>?_,fun c5=>?_⟩⟩⟩⟩
  ·have c5:(pz.2 != 0)=false:=c5
   have c5:pz.2=0:=by simpa using c5
   have hz:pctB p.tol=true:=by rw [hz,c5];rfl
   obtain ⟨k1,k2⟩:=hok hz
   have eb:betQ p.tol 0 1=decide (p.tol.p≤p.tol.q):=by
    unfold betQ
    rw [k1,decide_eq_true (show 0*p.tol.q≤p.tol.p by omega),Int.one_mul];simp
   have ec:((if p.tol.ok && true then cmpI (p.tol.p*1) (1*p.tol.q) else 0) > 0)↔¬ p.tol.p≤p.tol.q:=by
    rw [k1]
    simp only [Bool.and_true,if_pos]
    unfold cmpI
    split
    ·omega
    ·split<;>omega
   refine ⟨fun c6=>?_,fun c6=>?_⟩
   ·have c6:=ec.1 (of_decide_eq_true c6)
    exact ⟨[],[],⟨done (by rw [eb,decide_eq_false c6];simp),rfl⟩,trivial,rfl⟩
   ·have c6:¬ ¬ p.tol.p≤p.tol.q:=fun h=>of_decide_eq_false c6 (ec.2 h)
    exact ⟨[],[],⟨by rw [hz,eb,decide_eq_true (Decidable.not_not.1 c6)];rfl,rfl⟩,trivial,rfl⟩
  ·have c5:(pz.2 != 0)=true:=c5
   have c5:pz.2≠0:=by simpa using c5
   have hz:pctB p.tol=false:=by rw [hz,decide_eq_false c5]
   exact ⟨fun _=>⟨[],[],⟨done (by rw [hz];rfl),rfl⟩,trivial,rfl⟩,nofun⟩
theorem visQs_len (xs:List QC) (k:Int):(visQs xs k).length≤4096:=by
 unfold visQs
 split
 ·rename_i h
  have h2:=(chkQ_zero h).2
  have h3:=visNQ_len xs k
  rw [fm_lenQ (fun i hi=>visNQ_mem hi)]
  omega
 ·simp
theorem off72 (p:Nat):offAt 0 ((p:Nat):Int) ti80.size=p*72:=by
 show offAt 0 ((p:Nat):Int) 72=p*72
 simp [offAt]
theorem candL_some {L:List QC} {srcs:List (List UInt8)} {ins:List UInt8} {day stale:Int} {i:Nat} {src:List UInt8} {z:QC} (h:srcs[i]? = some src) (hz:candOf ins day stale L src=some z):candL L (srcs.take (i+1)) ins day stale=candL L (srcs.take i) ins day stale++[z]:=by
 unfold candL
 rw [List.take_add_one,h,List.filterMap_append]
 simp [hz]
theorem candL_none {L:List QC} {srcs:List (List UInt8)} {ins:List UInt8} {day stale:Int} {i:Nat} {src:List UInt8} (h:srcs[i]? = some src) (hz:candOf ins day stale L src=none):candL L (srcs.take (i+1)) ins day stale=candL L (srcs.take i) ins day stale:=by
 unfold candL
 rw [List.take_add_one,h,List.filterMap_append]
 simp [hz]
def rowQ (b:Option QC):QC:=b.getD noQ
theorem noQ_A:noQ.A=ti80.zero:=by kernel_rfl
def CandQ (xs:List QC) (k:Int) (p:PL) (ins:List UInt8) (day:Int) (x:Value) (U:MemL):Prop:=∃ s n,n=(cands xs k p ins day).length∧x=.tuple #[s,.int .i64 (candC xs k p day)]∧IsL s n∧U=[(4000,Blk.own s 80 72 n (cat QC.A (cands xs k p ins day)))]
theorem cand_q {E:Env} (hE:E.P=Tryz.prog) {v:Value} {k:Int} {xs:List QC} (hv:Lst E v 72 xs.length (cat QC.A xs)) (hn:xs.length≤1000000000000) (hin:∀ y∈xs,y.In) {vp:Value} {p:PL} (hp:Lst E vp 1 p.srcs.length (cat strA p.srcs)) (hpn:p.srcs.length≤1000000000000000) (hpin:p.In) (ins:List UInt8) (day:Int):OwnC E 230 [SV.c v,SV.c (.agg (p.A vp)),SV.c (.int .i64 k),SV.c (.string (S ins)),SV.c (.int .i64 day)] [] (CandQ xs k p ins day):=by
 refine sx_ownC [] tt_ok mixed at230 E hE [SV.c v,SV.c (.agg (p.A vp)),SV.c (.int .i64 k),SV.c (.string (S ins)),SV.c (.int .i64 day)] [] _ rfl rfl fun w X β hT=>?_
 have hv':=hv.of_old hT
 have hp':=hp.of_old hT
 have V1:=vis_q (k:=k) rfl hv' hn hin
 have P1:=check_p rfl hp' hpn hpin
 obtain ⟨a,cap,rfl,hc,h4⟩:=id hp'.shape
 have F1:=p.size (.slice a p.srcs.length cap)
 have G0:=p.g0 (.slice a p.srcs.length cap)
 have G2:=p.g2 (.slice a p.srcs.length cap)
 generalize p.A (.slice a p.srcs.length cap)=PA at *
 refine ⟨F1,?_⟩
 refine .inr (.inr (.inr ⟨[],[3000],[_,_],[],_,V1,rfl,trivial,rfl,trivial,?_⟩))
 rintro r U ⟨s,n,hsn,rfl,hs,rfl⟩
 refine ⟨rfl,?_⟩
 have eC:candC xs k p day=if chkQ xs≠0 then chkQ xs else if polOk p then (if day < 0∨day > 73048 then 50 else 0) else 150:=rfl
 have fin:∀ (e:Int) (V:List QC),candC xs k p day=e→V=cands xs k p ins day→e≠0→CandQ xs k p ins day (mkRes [.slice none 0 0,.int .i64 e]) [(4000,Blk.own (.slice none 0 0) 80 72 0 #[])]:=fun e V he hV h=>by
  have e1:cands xs k p ins day=[]:=by unfold cands;rw [he,if_neg h]
  exact ⟨_,0,by rw [e1];rfl,by rw [he];rfl,.nil,by rw [e1];rfl⟩
 refine ⟨fun c1=>?_,fun c1=>?_⟩
 ·have c1:(chkQ xs != 0)=true:=c1
  have c1:chkQ xs≠0:=by simpa using c1
  exact ⟨[(4000,Blk.own (.slice none 0 0) 80 72 0 #[])],[],fin _ _ (by rw [eC,if_pos c1]) rfl c1,⟨.inr ⟨rfl,rfl,rfl⟩,trivial⟩,rfl⟩
 have c1:(chkQ xs != 0)=false:=c1
 have c1:chkQ xs=0:=by simpa using c1
 rw [if_neg (by rw [c1];decide)] at eC
 refine .inr (.inr (.inl ⟨[],[_],[],_,[],P1,rfl,trivial,rfl,rfl,fun c2=>?_,fun c2=>?_⟩))
 ·have c2:polOk p=false:=by
    cases h:polOk p with
    | false=>rfl
    | true=>rw [h] at c2;exact absurd c2 (by decide)
  exact ⟨[(4000,Blk.own (.slice none 0 0) 80 72 0 #[])],[],fin _ _ (by rw [eC,c2];rfl) rfl (by decide),⟨.inr ⟨rfl,rfl,rfl⟩,trivial⟩,rfl⟩
 have c2:polOk p=true:=by
  cases h:polOk p with
  | true=>rfl
  | false=>rw [h] at c2;exact absurd c2 (by decide)
 rw [c2,if_pos rfl] at eC
 refine ⟨fun c3=>?_,fun c3=>?_⟩
 case refine_2 =>
  have c3:decide (day < 0)=true:=c3
  have c3:=of_decide_eq_true c3
  exact ⟨fun _=>⟨[(4000,Blk.own (.slice none 0 0) 80 72 0 #[])],[],fin _ _ (by rw [eC,if_pos (.inl c3)]) rfl (by decide),⟨.inr ⟨rfl,rfl,rfl⟩,trivial⟩,rfl⟩,nofun⟩
 have c3:decide (day < 0)=false:=c3
 have c3:=of_decide_eq_false c3
 refine ⟨fun c4=>?_,fun c4=>?_⟩
 case refine_1 =>
  have c4:decide (day > 73048)=true:=c4
  have c4:=of_decide_eq_true c4
  exact ⟨[(4000,Blk.own (.slice none 0 0) 80 72 0 #[])],[],fin _ _ (by rw [eC,if_pos (.inr c4)]) rfl (by decide),⟨.inr ⟨rfl,rfl,rfl⟩,trivial⟩,rfl⟩
 have c4:decide (day > 73048)=false:=c4
 have c4:=of_decide_eq_false c4
 rw [if_neg (by omega)] at eC
 clear fin
 have hst:0≤p.stale∧p.stale≤30∧p.srcs.length≤8:=by
  unfold polOk at c2
  simp only [Bool.and_eq_true,decide_eq_true_eq] at c2
  exact ⟨c2.2.2.2.1,c2.2.2.2.2,c2.1.2⟩
 have eV:cands xs k p ins day=candL (visQs xs k) p.srcs ins day p.stale:=by unfold cands;rw [if_pos eC]
 have hlv:(visQs xs k).length≤4096:=visQs_len xs k
 unfold CandQ
 rw [eV,eC]
 clear eV eC V1 P1
 generalize visQs xs k=L at *
 obtain ⟨sa,sc,rfl⟩:=hs.len
 refine ⟨_,G0,_,fun w' _=>run_len_sl Tryz.underlying27 w',?_⟩
 refine ⟨fun q f m=>∃ (i:Nat) (y:Value) (N:Nat),q=p.srcs.length - i∧i≤p.srcs.length∧N=(candL L (p.srcs.take i) ins day p.stale).length∧IsL y N∧f=[(3,SV.c (.string (S ins))),(4,SV.c (.int .i64 day)),(6,SV.ptr 6 0),(12,SV.c (.slice sa n sc)),(14,SV.c y),(43,SV.c (.slice a p.srcs.length cap)),(44,SV.c (.int .i64 (p.srcs.length:Nat))),(45,SV.c (.int .i64 (i:Nat)))]∧m=[(4000,Blk.own y 80 72 N (cat QC.A (candL L (p.srcs.take i) ins day p.stale))),(6,Blk.row 35 68 PA),(3000,Blk.own (.slice sa n sc) 80 72 n (cat QC.A L))],p.srcs.length,⟨_,_,⟨0,.slice none 0 0,0,by omega,by omega,rfl,.nil,rfl,rfl⟩,⟨rfl,rfl,rfl,rfl,rfl,rfl,rfl,rfl,trivial⟩,⟨.inr ⟨rfl,rfl,rfl⟩,rfl,.inl rfl,trivial⟩,rfl⟩,?_⟩
 rintro q f m ⟨i,y,N,rfl,hi,hN,hy,rfl,rfl⟩
 refine ⟨fun h=>?_,fun h=>?_⟩
 ·have h:i < p.srcs.length:=by have:=of_decide_eq_true h;omega
  obtain ⟨b,o,rfl,h5⟩:=h4 (by omega)
  obtain ⟨src,hsrc⟩:∃ y,p.srcs[i]? = some y:=⟨_,List.getElem?_eq_getElem h⟩
  have hE':VOk (envC Tryz.prog tt Tryz.f230.ntmps w X (tiedK [] β)):=tt_ok
  have L1:=lst_at hE' h5 strA_size hsrc (j:=0) (v:=.string (S src)) rfl (ty:=9) (ti:=ti9) rfl rfl (p:=offAt o ((i:Nat):Int) ti9.size) (off_one o i)
  refine ⟨by omega,by omega,.inl ⟨_,L1,_,fun w' _=>run_len_sl Tryz.underlying26 w',?_⟩⟩
  refine ⟨fun q f m=>∃ (j:Nat) (B:Option QC),q=L.length - j∧j≤L.length∧B=(L.take j).foldl (candStep src ins day p.stale) none∧f=[(3,SV.c (.string (S ins))),(4,SV.c (.int .i64 day)),(6,SV.ptr 6 0),(12,SV.c (.slice sa n sc)),(14,SV.c y),(16,SV.c (.string (S src))),(17,SV.ptr 17 0),(18,SV.c (.bool B.isSome)),(43,SV.c (.slice (some ⟨b,o,none⟩) p.srcs.length cap)),(44,SV.c (.int .i64 (p.srcs.length:Nat))),(45,SV.c (.int .i64 (i:Nat))),(49,SV.c (.slice sa n sc)),(50,SV.c (.int .i64 (n:Nat))),(51,SV.c (.int .i64 (j:Nat)))]∧m=[(17,Blk.row 80 72 (rowQ B).A),(4000,Blk.own y 80 72 N (cat QC.A (candL L (p.srcs.take i) ins day p.stale))),(6,Blk.row 35 68 PA),(3000,Blk.own (.slice sa n sc) 80 72 n (cat QC.A L))],L.length,⟨_,_,⟨0,none,by omega,by omega,rfl,rfl,rfl⟩,⟨rfl,rfl,rfl,rfl,rfl,rfl,rfl,rfl,rfl,rfl,rfl,rfl,rfl,rfl,trivial⟩,⟨congrArg (fun A=>some (Blk.row 80 72 A)) noQ_A.symm,.inl rfl,rfl,.inl rfl,trivial⟩,rfl⟩,?_⟩
  rintro q f m ⟨j,B,rfl,hj,hB,rfl,rfl⟩
  refine ⟨fun h=>?_,fun h=>?_⟩
  ·have h:j < n:=by have:=of_decide_eq_true h;omega
   obtain ⟨z,hz⟩:∃ z,L[j]? = some z:=⟨_,List.getElem?_eq_getElem (by omega)⟩
   rcases hs with ⟨hs1,hs2⟩ | ⟨g0,c0,hs1⟩
   ·omega
   cases hs1
   have L2:=cat_extract QC.size hz
   have hjn:j*72+72≤(cat QC.A L).size:=by rw [Go.SX.cat_size QC.size];omega
   have eB:(L.take (j+1)).foldl (candStep src ins day p.stale) none=candStep src ins day p.stale B z:=by
    rw [List.take_add_one,hz,List.foldl_append,← hB];rfl
   generalize hX:cat QC.A L=XA at *
   have Z0:=z.g0
   have Z1:=z.g1
   have Z3:=z.g3
   have ZF:=z.fits
   have N3:=(rowQ B).g3
   generalize hY:z.A=ZA at *
   refine ⟨by omega,by omega,.inr ⟨3000,g0,_,n,_,_,_,_,rfl,rfl,(by rw [off72];exact hjn),ZA,(by rw [off72];exact L2),ZF,_,Z0,?_⟩⟩
   refine ⟨fun k1=>?_,fun k1=>?_⟩
   case refine_2 =>
    have k1:=str_ne k1
    have e0:candStep src ins day p.stale B z=B:=by unfold candStep;rw [if_neg (by simp [k1])]
    refine ⟨nofun,fun _=>⟨nofun,fun _=>⟨nofun,fun _=>?_⟩⟩⟩
    exact ⟨nofun,fun _=>⟨L.length - (j+1),_,_,by omega,⟨j+1,B,rfl,by omega,(eB.trans e0).symm,rfl,rfl⟩,⟨rfl,rfl,rfl,rfl,rfl,rfl,rfl,rfl,rfl,rfl,rfl,rfl,rfl,c_int (i64_succ (by omega)),trivial⟩,⟨rfl,.inl rfl,rfl,.inl rfl,trivial⟩,rfl⟩⟩
   have k1:=str_eq k1
   refine ⟨_,Z1,fun k2=>?_,fun k2=>?_⟩
   case refine_2 =>
    have k2:=str_ne k2
    have e0:candStep src ins day p.stale B z=B:=by unfold candStep;rw [if_neg (by simp [k2])]
    refine ⟨nofun,fun _=>⟨nofun,fun _=>?_⟩⟩
    exact ⟨nofun,fun _=>⟨L.length - (j+1),_,_,by omega,⟨j+1,B,rfl,by omega,(eB.trans e0).symm,rfl,rfl⟩,⟨rfl,rfl,rfl,rfl,rfl,rfl,rfl,rfl,rfl,rfl,rfl,rfl,rfl,c_int (i64_succ (by omega)),trivial⟩,⟨rfl,.inl rfl,rfl,.inl rfl,trivial⟩,rfl⟩⟩
   have k2:=str_eq k2
   refine ⟨_,Z3,fun k3=>?_,fun k3=>?_⟩
   case refine_2 =>
    have k3:decide (z.day≤day)=false:=k3
    have e0:candStep src ins day p.stale B z=B:=by unfold candStep;rw [if_neg (by simp [k3])]
    refine ⟨nofun,fun _=>?_⟩
    exact ⟨nofun,fun _=>⟨L.length - (j+1),_,_,by omega,⟨j+1,B,rfl,by omega,(eB.trans e0).symm,rfl,rfl⟩,⟨rfl,rfl,rfl,rfl,rfl,rfl,rfl,rfl,rfl,rfl,rfl,rfl,rfl,c_int (i64_succ (by omega)),trivial⟩,⟨rfl,.inl rfl,rfl,.inl rfl,trivial⟩,rfl⟩⟩
   have k3:decide (z.day≤day)=true:=k3
   refine ⟨_,Z3,_,G2,fun k4=>?_,fun k4=>?_⟩
   case refine_2 =>
    have k4:decide (z.day ≥ IntKind.i64.wrap (day - p.stale))=false:=k4
    rw [i64_in (by omega)] at k4
    have k4:decide (day - p.stale≤z.day)=false:=k4
    have e0:candStep src ins day p.stale B z=B:=by unfold candStep;rw [if_neg (by simp [k4])]
    exact ⟨nofun,fun _=>⟨L.length - (j+1),_,_,by omega,⟨j+1,B,rfl,by omega,(eB.trans e0).symm,rfl,rfl⟩,⟨rfl,rfl,rfl,rfl,rfl,rfl,rfl,rfl,rfl,rfl,rfl,rfl,rfl,c_int (i64_succ (by omega)),trivial⟩,⟨rfl,.inl rfl,rfl,.inl rfl,trivial⟩,rfl⟩⟩
   have k4:decide (z.day ≥ IntKind.i64.wrap (day - p.stale))=true:=k4
   rw [i64_in (by omega)] at k4
   have k4:decide (day - p.stale≤z.day)=true:=k4
   refine ⟨fun k5=>?_,fun k5=>?_⟩
   ·have k5:=bnot_f k5
    refine ⟨_,Z3,_,N3,fun k6=>?_,fun k6=>?_⟩
    ·have e0:candStep src ins day p.stale B z=some z:=by
       unfold candStep
       rw [if_pos]
       have:newer B z=true:=by
        obtain ⟨x,rfl⟩:=Option.isSome_iff_exists.1 k5
        exact k6
       simp only [k1,k2,decide_true,Bool.true_and,this,k3,k4]
     exact ⟨ZF,⟨L.length - (j+1),_,_,by omega,⟨j+1,some z,rfl,by omega,(eB.trans e0).symm,rfl,rfl⟩,⟨rfl,rfl,rfl,rfl,rfl,rfl,rfl,rfl,rfl,rfl,rfl,rfl,rfl,c_int (i64_succ (by omega)),trivial⟩,⟨congrArg (fun A=>some (Blk.row 80 72 A)) hY.symm,.inl rfl,rfl,.inl rfl,trivial⟩,rfl⟩⟩
    ·have e0:candStep src ins day p.stale B z=B:=by
       unfold candStep
       rw [if_neg]
       have:newer B z=false:=by
        obtain ⟨x,rfl⟩:=Option.isSome_iff_exists.1 k5
        exact k6
       simp [this]
     exact ⟨L.length - (j+1),_,_,by omega,⟨j+1,B,rfl,by omega,(eB.trans e0).symm,rfl,rfl⟩,⟨rfl,rfl,rfl,rfl,rfl,rfl,rfl,rfl,rfl,rfl,rfl,rfl,rfl,c_int (i64_succ (by omega)),trivial⟩,⟨rfl,.inl rfl,rfl,.inl rfl,trivial⟩,rfl⟩
   ·have k5:=bnot_t k5
    have e0:candStep src ins day p.stale B z=some z:=by
     unfold candStep
     rw [if_pos]
     have:newer B z=true:=by
      cases B with
      | none=>rfl
      | some x=>cases k5
     simp only [k1,k2,decide_true,Bool.true_and,this,k3,k4]
    exact ⟨fun _=>⟨ZF,⟨L.length - (j+1),_,_,by omega,⟨j+1,some z,rfl,by omega,(eB.trans e0).symm,rfl,rfl⟩,⟨rfl,rfl,rfl,rfl,rfl,rfl,rfl,rfl,rfl,rfl,rfl,rfl,rfl,c_int (i64_succ (by omega)),trivial⟩,⟨congrArg (fun A=>some (Blk.row 80 72 A)) hY.symm,.inl rfl,rfl,.inl rfl,trivial⟩,rfl⟩⟩,nofun⟩
  ·have h:j=n:=by have:=of_decide_eq_false h;omega
   have hB:B=candOf ins day p.stale L src:=by rw [hB,List.take_of_length_le (by omega)];rfl
   refine ⟨fun k1=>?_,fun k1=>?_⟩
   ·have k1:B.isSome=true:=k1
    obtain ⟨z,rfl⟩:=Option.isSome_iff_exists.1 k1
    have F1:=fill_quo1 z
    have F2:=z.fits.one
    have F3:=z.ext72
    have F4:z.A.size=1*72:=z.size
    have F5:cat QC.A (candL L (p.srcs.take i) ins day p.stale)++z.A=cat QC.A (candL L (p.srcs.take (i+1)) ins day p.stale):=by
     rw [candL_some hsrc hB.symm,cat_append,cat_one]
    have F6:=congrArg List.length (candL_some hsrc hB.symm)
    have hl:=candL_len L (p.srcs.take i) ins day p.stale
    change _=_ at F6
    rw [List.length_append,← hN] at F6
    rw [← hN,List.length_take] at hl
    refine .inl ⟨by decide,by decide,_,F1,F4,by decide,4000,N,_,.inl rfl,by decide,F2,F4,_,F3,?_⟩
    obtain ⟨q,hq,hb⟩:=info_quo
    refine ⟨by omega,by unfold maxLen;omega,⟨q,hq,by rw [hb];omega⟩,trivial,fun g2 cap2=>?_⟩
    exact ⟨p.srcs.length - (i+1),_,_,by omega,⟨i+1,_,N+1,rfl,by omega,F6.symm,.some,rfl,rfl⟩,⟨rfl,rfl,rfl,rfl,rfl,rfl,rfl,c_int (i64_succ (by omega)),trivial⟩,⟨.inl (own_eq F5),rfl,.inl rfl,trivial⟩,rfl⟩
   ·have k1:B.isSome=false:=k1
    have hB:candOf ins day p.stale L src=none:=by rw [← hB];exact Option.isNone_iff_eq_none.1 (by simpa using k1)
    have e1:=candL_none hsrc hB
    exact ⟨p.srcs.length - (i+1),_,_,by omega,⟨i+1,y,N,rfl,by omega,by rw [e1];exact hN,hy,rfl,rfl⟩,⟨rfl,rfl,rfl,rfl,rfl,rfl,rfl,c_int (i64_succ (by omega)),trivial⟩,⟨.inl (own_eq (by rw [e1])),rfl,.inl rfl,trivial⟩,rfl⟩
 ·have h:i=p.srcs.length:=by have:=of_decide_eq_false h;omega
  subst h
  rw [List.take_length] at hN ⊢
  exact ⟨[(4000,Blk.own y 80 72 N (cat QC.A (candL L p.srcs ins day p.stale)))],[],⟨y,N,hN,rfl,hy,rfl⟩,⟨.inl rfl,trivial⟩,rfl⟩
theorem runs_slnil {E:Env} {t:TypeId} {x y:Operand} {e:TypeId} (hu:E.P.underlying t=some (.slice e)) {ad:Addr} {n c:Nat}:Runs E (do eqGuard .eql t x y (.slice (some ad) n c) (.slice none 0 0);binOp .eql t (.slice (some ad) n c) (.slice none 0 0)) (.bool false):=fun w _=>by
 have h1:(eqGuard .eql t x y (.slice (some ad) n c) (.slice none 0 0)).run E.P w=.ok () w:=by simp [eqGuard]
 have h2:(Op.equal t (.slice (some ad) n c) (.slice none 0 0)).run E.P w=.ok false w:=by
  show (Op.equalIn (9999+1) t _ _).run E.P w=_
  rw [Op.equalIn]
  simp only [Sem.run_bind,run_underlying hu,Result.andThen_ok,Sem.run_pure]
 have h3:binOp .eql t (.slice (some ad) n c) (.slice none 0 0)=(do pure (.bool (← Op.equal t (.slice (some ad) n c) (.slice none 0 0)))):=rfl
 rw [Sem.run_bind,h1,h3]
 simp [h2]
theorem QC.all1 (a:QC):a.A.all (·.oneCell')=true:=a.one
def OwnLQ (key:Key) (n:Nat) (A:Array Value) (x:Value) (U:MemL):Prop:=IsL x n∧U=[(key,Blk.own x 80 72 n A)]
theorem clone_q {E:Env} (hE:E.P=Tryz.prog) {v:Value} {n:Nat} {A:Array Value} (hv:Lst E v 72 n A) (hn:0 < n) (hm:n≤1000000000):OwnC E 232 [SV.c v] [] (OwnLQ 6000 n A):=by
 refine sx_ownC [] tt_ok mixed at232 E hE [SV.c v] [] _ rfl rfl fun w X β hT=>?_
 have hv':=hv.of_old hT
 obtain ⟨a,cap,rfl,hc,h4⟩:=id hv'.shape
 obtain ⟨b,o,rfl,h5⟩:=h4 hn
 refine ⟨_,runs_slnil Tryz.underlying26,nofun,fun _=>?_⟩
 refine build_none tt_ok rfl rfl (i:=ti26) rfl rfl (j:=ti80) rfl 6000 rfl trivial fun g=>?_
 obtain ⟨q,hq,hb⟩:=info_quo
 refine ⟨by decide,6000,0,#[],.inl rfl,.inr ⟨[],n,A,src_lst hv' hn,by omega,by unfold maxLen;omega,⟨q,hq,by rw [hb];omega⟩,trivial,fun g2 cap2=>?_⟩⟩
 exact ⟨[(6000,Blk.own (.slice (some ⟨g2,0,none⟩) (0+n) cap2) 80 72 (0+n) (#[]++A))],[],⟨by rw [Nat.zero_add];exact .some,by rw [show (#[]++A:Array Value)=A by simp,Nat.zero_add];rfl⟩,⟨.inl rfl,trivial⟩,rfl⟩
theorem off_z (o:Nat):offAt o 0 ti80.size+2=o+0*72+2:=by
 show offAt o 0 72+2=_
 cases o<;>simp [offAt]
theorem other_q {E:Env} (hE:E.P=Tryz.prog) {z:QC} {v:Value} {L:List QC} (hv:Lst E v 72 L.length (cat QC.A L)) (hn:0 < L.length):OwnC E 233 [SV.c (.agg z.A),SV.ptr 7000 0] [(7000,Blk.row 26 1 #[v])] (fun x U=>x=.bool (!decide (z.cur=curH L))∧U=[(7000,Blk.row 26 1 #[v])]):=by
 refine sx_ownC [] tt_ok mixed at233 E hE [SV.c (.agg z.A),SV.ptr 7000 0] [(7000,Blk.row 26 1 #[v])] _ rfl rfl fun w X β hT=>?_
 have hv':=hv.of_old hT
 have Z2:=z.g2
 have ZF:=z.fits
 generalize z.A=ZA at *
 obtain ⟨a,cap,rfl,hc,h4⟩:=id hv'.shape
 obtain ⟨b,o,rfl,h5⟩:=h4 hn
 obtain ⟨y,hy⟩:∃ y,L[0]? = some y:=⟨_,List.getElem?_eq_getElem hn⟩
 have hE':VOk (envC Tryz.prog tt Tryz.f233.ntmps w X (tiedK [(7000,Blk.row 26 1 #[Value.slice (some ⟨b,o,none⟩) L.length cap])] β)):=tt_ok
 have L1:=lst_at hE' h5 QC.size hy y.g2 (ty:=9) (ti:=ti9) rfl rfl (p:=offAt o 0 ti80.size+2) (off_z o)
 have ec:curH L=y.cur:=by
  unfold curH
  cases L with
  | nil=>cases hy
  | cons z0 r=>simp at hy;subst hy;rfl
 refine ⟨ZF.size,_,Z2,_,rfl,by decide,by omega,.inl ⟨_,L1,?_⟩⟩
 refine ⟨by kernel_rfl,[(7000,Blk.row 26 1 #[Value.slice (some ⟨b,o,none⟩) L.length cap])],[],⟨?_,rfl⟩,⟨rfl,trivial⟩,rfl⟩
 rw [ec,← S_beq]
 rfl
theorem indexF_q {E:Env} (hE:E.P=Tryz.prog) {x v:Value} {L M:List QC} {n:Nat} (hnM:n=M.length) (hM:M.length≤1000) (hv:Lst E v 72 L.length (cat QC.A L)) (hn:0 < L.length) (hx:IsL x n):OwnC E 258 [SV.c x,SV.clo 233 [7000]] [(7000,Blk.row 26 1 #[v]),(6000,Blk.own x 80 72 n (cat QC.A M))] (fun r U=>(∃ i:Int,r=.int .i64 i∧((i=-1∧∀ z∈M,z.cur=curH L)∨(∃ j:Nat,i=j∧j < M.length∧(∀ z∈M.take j,z.cur=curH L)∧∃ z,M[j]? = some z∧z.cur≠curH L)))∧U=[(7000,Blk.row 26 1 #[v]),(6000,Blk.own x 80 72 n (cat QC.A M))]):=by
 obtain ⟨xa,xc,rfl⟩:=hx.len
 refine sx_ownC [] tt_ok mixed at258 E hE [SV.c (.slice xa n xc),SV.clo 233 [7000]] [(7000,Blk.row 26 1 #[v]),(6000,Blk.own (.slice xa n xc) 80 72 n (cat QC.A M))] _ rfl rfl fun w X β hT=>?_
 have hv':=hv.of_old hT
 refine ⟨_,fun w' _=>run_len_sl Tryz.underlying26 w',?_⟩
 refine ⟨fun q f m=>∃ (j:Nat),q=M.length - j∧j≤M.length∧(∀ z∈M.take j,z.cur=curH L)∧f=[(0,SV.c (.slice xa n xc)),(1,SV.clo 233 [7000]),(7,SV.c (.int .i64 (n:Nat))),(8,SV.c (.int .i64 (j:Nat)))]∧m=[(7000,Blk.row 26 1 #[v]),(6000,Blk.own (.slice xa n xc) 80 72 n (cat QC.A M))],M.length,⟨_,_,⟨0,by omega,by omega,by simp,rfl,rfl⟩,⟨rfl,rfl,rfl,rfl,trivial⟩,⟨rfl,.inl rfl,trivial⟩,rfl⟩,?_⟩
 rintro q f m ⟨j,rfl,hj,hno,rfl,rfl⟩
 refine ⟨fun h=>?_,fun h=>?_⟩
 ·have h:j < n:=by have:=of_decide_eq_true h;omega
  obtain ⟨z,hz⟩:∃ z,M[j]? = some z:=⟨_,List.getElem?_eq_getElem (by omega)⟩
  rcases hx with ⟨hs1,hs2⟩ | ⟨g0,c0,hs1⟩
  ·omega
  cases hs1
  have L2:=cat_extract QC.size hz
  have hjn:j*72+72≤(cat QC.A M).size:=by rw [Go.SX.cat_size QC.size];omega
  have Q1:=other_q (E:=(envC Tryz.prog tt Tryz.f258.ntmps w X (tiedK [(7000,Blk.row 26 1 #[v]),(6000,Blk.own (.slice (some ⟨g0,0,none⟩) n xc) 80 72 n (cat QC.A M))] β)).toEnv) rfl (z:=z) hv' hn
  generalize hX:cat QC.A M=XA at *
  generalize hY:z.A=ZA at *
  refine ⟨by omega,by omega,.inr ⟨6000,g0,_,n,_,_,_,_,rfl,rfl,(by rw [off72];exact hjn),ZA,(by rw [off72];exact L2),.inr (.inr (.inl ⟨[],[_,_],[_],_,[_],Q1,rfl,⟨rfl,trivial⟩,rfl,rfl,fun c=>?_,fun c=>?_⟩))⟩⟩
  ·have c:=bnot_t c
   have c:=of_decide_eq_false c
   exact ⟨[(7000,Blk.row 26 1 #[v]),(6000,Blk.own (.slice (some ⟨g0,0,none⟩) n xc) 80 72 n XA)],[],⟨⟨_,rfl,.inr ⟨j,rfl,by omega,hno,z,hz,c⟩⟩,rfl⟩,⟨rfl,.inl rfl,trivial⟩,rfl⟩
  ·have c:=bnot_f c
   have c:=of_decide_eq_true c
   refine ⟨M.length - (j+1),_,_,by omega,⟨j+1,rfl,by omega,?_,rfl,rfl⟩,⟨rfl,rfl,rfl,c_int (i64_succ (by omega)),trivial⟩,⟨rfl,.inl rfl,trivial⟩,rfl⟩
   intro z' hz'
   rw [List.take_add_one,hz] at hz'
   rcases List.mem_append.1 hz' with h9 | h9
   ·exact hno z' h9
   ·simp at h9;subst h9;exact c
 ·have h:j=n:=by have:=of_decide_eq_false h;omega
  refine ⟨[(7000,Blk.row 26 1 #[v]),(6000,Blk.own (.slice xa n xc) 80 72 n (cat QC.A M))],[],⟨⟨_,rfl,.inl ⟨rfl,?_⟩⟩,rfl⟩,⟨rfl,.inl rfl,trivial⟩,rfl⟩
  rw [List.take_of_length_le (by omega)] at hno
  exact hno
end Go.Proofs.YtofllflnmmjijaaGreatDoor
