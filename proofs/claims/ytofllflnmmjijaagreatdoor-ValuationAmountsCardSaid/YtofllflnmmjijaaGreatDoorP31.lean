/- a made book of the chapter's example. the chapter's example. SelectorExact, walk. plain laws of rates of exchange. rates of exchange: prices and legs. rates of exchange: checks, ways. rates of exchange: the program. plain laws of converted amounts. rates of exchange: the document; converted amounts; no condition. -/
import Derived.Test.YtofllflnmmjijaaGreatDoorP30
set_option maxRecDepth 100000
set_option maxHeartbeats 4000000
namespace Go.Proofs.YtofllflnmmjijaaGreatDoor
open Go Go.RowKit Go.SX
theorem selCh_in {L:List QC} {tol:RQ} (h:∀ z∈L,z.In):(selCh L tol).price.In:=by
 unfold selCh
 cases e:L.find? (isGood (curH L) (yardQ L) tol) with
 | none=>exact zeroQ_in
 | some q=>exact (h q (List.mem_of_find?_eq_some e)).price
theorem mk_coprime {x y:Int} (hy:0 < y) (hg:Int.gcd x y=1) (h1:bl x.natAbs≤480) (h2:bl y.natAbs≤480):mkQ x y=(.of x y,0):=by
 have hs:sgn y=1:=by unfold sgn;rw [if_neg (by omega),if_neg (by omega)]
 have e:sgn y*((Int.gcd x y:Nat):Int)=1:=by rw [hs,hg];rfl
 unfold mkQ
 rw [if_neg (by omega),e,Int.ediv_one,Int.ediv_one,if_pos ⟨h1,h2⟩]
def quoQ (r s:RQ):RQ×Int:=if r.ok && s.ok then mkQ (r.p*s.q) (r.q*s.p) else (.of 0 0,20)
def oneQ:RQ:=.of 1 1
theorem one_ok:oneQ.ok=true:=by decide
theorem one_in:oneQ.In:=RQ.of_in (Nat.lt_of_lt_of_le (by decide:1 < 18446744073709551616) two64) (Nat.lt_of_lt_of_le (by decide:1 < 18446744073709551616) two64)
structure Leg (r:RQ):Prop where
 ok:r.ok=true
 p0:0 < r.p
 p1:r.p.natAbs≤1000000000000000
 q1:r.q.natAbs≤1000000000000000
theorem Leg.in_ {r:RQ} (h:Leg r):r.In:=by
 obtain ⟨k1,k2,k3,k4,k5⟩:=RQ.ok_bits h.ok
 rw [k5]
 have hp:2 ^ e480 < BB ^ 32:=hp480
 have key:∀ z:Int,bl z.natAbs≤480→z.natAbs < BB ^ 32:=fun z h=>Nat.lt_trans (Nat.lt_of_lt_of_le (bl_bits _).1 (Nat.pow_le_pow_right (j:=e480) (by omega) h)) hp
 exact RQ.of_in (key _ k1) (key _ k2)
theorem leg_price {r:RQ} (h:payOk r=true) (h0:0 < r.p):Leg r:=by
 obtain ⟨h1,h2⟩:=pay_bd h
 exact ⟨(pay_ok h).1,h0,h2,by omega⟩
theorem inv_one {r:RQ} (h:Leg r):quoQ oneQ r=(.of r.q r.p,0):=by
 obtain ⟨k1,k2,k3,k4,k5⟩:=RQ.ok_bits h.ok
 unfold quoQ
 rw [one_ok,h.ok,show oneQ.p=1 from rfl,show oneQ.q=1 from rfl,Int.one_mul,Int.one_mul]
 exact mk_coprime h.p0 (by rw [Int.gcd_comm];exact k4) k2 k1
theorem leg_inv {r:RQ} (h:Leg r):Leg (quoQ oneQ r).1:=by
 obtain ⟨k1,k2,k3,k4,k5⟩:=RQ.ok_bits h.ok
 rw [inv_one h]
 refine ⟨RQ.ok_of k2 k1 h.p0 (by rw [Int.gcd_comm];exact k4),?_,?_,?_⟩
 ·show 0 < (RQ.of r.q r.p).p;rw [RQ.of_p];exact k3
 ·show (RQ.of r.q r.p).p.natAbs≤_;rw [RQ.of_p];exact h.q1
 ·show (RQ.of r.q r.p).q.natAbs≤_;rw [RQ.of_q];exact h.p1
theorem one_mulQ {r:RQ} (h:r.ok=true):mulQ oneQ r=(r,0):=by
 obtain ⟨k1,k2,k3,k4,k5⟩:=RQ.ok_bits h
 unfold mulQ
 rw [one_ok,h,show oneQ.p=1 from rfl,show oneQ.q=1 from rfl,Int.one_mul,Int.one_mul]
 refine (mk_coprime k3 k4 k1 k2).trans ?_
 rw [← k5]
theorem mul_leg {r s:RQ} (h:Leg r) (g:Leg s):∃ t,mulQ r s=(t,0)∧t.ok=true∧t.In∧0 < t.p∧t.p*(r.q*s.q)=r.p*s.p*t.q:=by
 have hq:=(RQ.ok_bits h.ok).2.2.1
 have gq:=(RQ.ok_bits g.ok).2.2.1
 have b1:(r.p*s.p).natAbs < 2 ^ e480:=by
  rw [Int.natAbs_mul]
  exact Nat.lt_of_le_of_lt (Nat.mul_le_mul h.p1 g.p1) (by decide +kernel)
 have b2:(r.q*s.q).natAbs < 2 ^ e480:=by
  rw [Int.natAbs_mul]
  exact Nat.lt_of_le_of_lt (Nat.mul_le_mul h.q1 g.q1) (by decide +kernel)
 have hy:0 < r.q*s.q:=Int.mul_pos hq gq
 obtain ⟨t,e,h1,h2,-,-⟩:=mkQ_val hy b1 b2
 have em:mulQ r s=(t,0):=by unfold mulQ;rw [h.ok,g.ok];exact e
 refine ⟨t,em,h1,?_,?_,h2⟩
 ·have:=mkQ_in (r.p*s.p) (r.q*s.q);rw [e] at this;exact this
 ·have tq:=(RQ.ok_bits h1).2.2.1
  have:0 < t.p*(r.q*s.q):=by rw [h2];exact Int.mul_pos (Int.mul_pos h.p0 g.p0) tq
  exact Int.pos_of_mul_pos_left this hy
def mktC (xs:List QC) (p:PL) (day:Int) (cs:List (List UInt8)):Int:=if chkQ xs≠0 then chkQ xs else if polOk p then (if day < 0∨day > 73048 then 50 else if cs.all curOk then 0 else 160) else 150
def dirQ (xs:List QC) (k:Int) (p:PL) (day:Int) (a b:List UInt8):RQ×Bool:=((selCh (cands xs k p (a++b) day) p.tol).price,decide (selE xs k p (a++b) day=0) && decide ((selCh (cands xs k p (a++b) day) p.tol).cur=b))
def legO (xs:List QC) (k:Int) (p:PL) (day:Int) (a b:List UInt8):Option RQ :=
 if (dirQ xs k p day a b).2 then some (dirQ xs k p day a b).1 else if (dirQ xs k p day b a).2 then some (quoQ oneQ (dirQ xs k p day b a).1).1 else none
def legQ (xs:List QC) (k:Int) (p:PL) (day:Int) (a b:List UInt8):Option RQ:=if a=b then none else legO xs k p day a b
def rateQ (xs:List QC) (k:Int) (p:PL) (day:Int) (v a b:List UInt8):RQ×Int :=
 if mktC xs p day [v,a,b]≠0 then (zeroQ,mktC xs p day [v,a,b]) else if a=b then (oneQ,0) else
 match legO xs k p day a b with
 | some r=>(r,0)
 | none=>if v=a∨v=b then (zeroQ,161) else match legO xs k p day a v,legO xs k p day v b with
  | some x,some y=>mulQ x y
  | _,_=>(zeroQ,161)
theorem cands_pos {xs:List QC} {k:Int} {p:PL} {ins:List UInt8} {day:Int} {z:QC} (hz:z∈cands xs k p ins day):payOk z.price=true∧0 < z.price.p:=by
 unfold cands at hz
 split at hz
 ·obtain ⟨h1,-⟩:=candL_mem hz
  obtain ⟨h2,h3,h4⟩:=visQs_mem h1
  exact right_price h3 h4
 ·cases hz
theorem cur_ne {l:List UInt8} (h:curOk l=true):l≠[]:=by
 rintro rfl;simp [curOk] at h
theorem cur_len {l:List UInt8} (h:curOk l=true):l.length=3:=by
 unfold curOk at h
 simp only [Bool.and_eq_true,decide_eq_true_eq] at h
 omega
theorem dir_leg {xs:List QC} {k:Int} {p:PL} {day:Int} {a b:List UInt8} (hb:b≠[]) (h:(dirQ xs k p day a b).2=true):Leg (dirQ xs k p day a b).1:=by
 unfold dirQ at h ⊢
 simp only [Bool.and_eq_true,decide_eq_true_eq] at h
 have h2:=h.2
 show Leg (selCh (cands xs k p (a++b) day) p.tol).price
 unfold selCh at h2 ⊢
 cases e:(cands xs k p (a++b) day).find? (isGood (curH (cands xs k p (a++b) day)) (yardQ (cands xs k p (a++b) day)) p.tol) with
 | none=>rw [e] at h2;exact absurd h2.symm hb
 | some q =>
  have:=cands_pos (List.mem_of_find?_eq_some e)
  exact leg_price this.1 this.2
theorem legO_leg {xs:List QC} {k:Int} {p:PL} {day:Int} {a b:List UInt8} (ha:a≠[]) (hb:b≠[]) {r:RQ} (h:legO xs k p day a b=some r):Leg r:=by
 unfold legO at h
 split at h
 ·rename_i h1;cases h;exact dir_leg hb h1
 ·split at h
  ·rename_i h1;cases h;exact leg_inv (dir_leg ha h1)
  ·cases h
theorem mktC_ok {xs:List QC} {p:PL} {day:Int} {cs:List (List UInt8)} (h:mktC xs p day cs=0):chkQ xs=0∧polOk p=true∧0≤day∧day≤73048∧∀ c∈cs,curOk c=true:=by
 unfold mktC at h
 split at h
 ·rename_i h1;exact absurd h h1
 rename_i h1
 split at h
 ·rename_i h2
  split at h
  ·cases h
  ·rename_i h3
   split at h
   ·rename_i h4
    rw [List.all_eq_true] at h4
    exact ⟨by simpa using h1,h2,by omega,by omega,h4⟩
   ·cases h
 ·cases h
def mktA (v vp:Value) (p:PL) (k day:Int):Array Value:=#[v]++(p.A vp++#[.int .i64 k,.int .i64 day])
theorem mktA_size (v vp:Value) (p:PL) (k day:Int):(mktA v vp p k day).size=71:=by simp [mktA,PL.size]
theorem mktA_fits {v vp:Value} (p:PL) (k day:Int) (h1:v.oneCell'=true) (h2:vp.oneCell'=true):Fits (mktA v vp p k day) 71:=⟨mktA_size _ _ _ _ _,by
 rw [mktA,Array.all_append,Array.all_append,(p.fits h2).one]
 simp [h1]
 exact ⟨rfl,rfl⟩⟩
theorem mktA_0 (v vp:Value) (p:PL) (k day:Int):(mktA v vp p k day)[0]? = some v:=by
 unfold mktA
 rw [Array.getElem?_append_left (by simp)]
 rfl
theorem mktA_1 (v vp:Value) (p:PL) (k day:Int):(mktA v vp p k day).extract 1 (1+68)=p.A vp:=by
 have h:(p.A vp).size=68:=p.size vp
 unfold mktA
 rw [Array.extract_append,Array.extract_append]
 simp [h]
theorem mktA_69 (v vp:Value) (p:PL) (k day:Int):(mktA v vp p k day)[69]? = some (.int .i64 k):=by
 have h:(p.A vp).size=68:=p.size vp
 unfold mktA
 rw [Array.getElem?_append_right (by simp),Array.getElem?_append_right (by simp [h])]
 simp [h]
theorem mktA_70 (v vp:Value) (p:PL) (k day:Int):(mktA v vp p k day)[70]? = some (.int .i64 day):=by
 have h:(p.A vp).size=68:=p.size vp
 unfold mktA
 rw [Array.getElem?_append_right (by simp),Array.getElem?_append_right (by simp [h])]
 simp [h]
structure MkR (E:Env) (v vp:Value) (xs:List QC) (p:PL):Prop where
 l:Lst E v 72 xs.length (cat QC.A xs)
 n:xs.length≤1000000000000
 inn:∀ y∈xs,y.In
 s:Lst E vp 1 p.srcs.length (cat strA p.srcs)
 m:p.srcs.length≤1000000000000000
 pin:p.In
theorem MkR.of_old {E E':Env} {v vp:Value} {xs:List QC} {p:PL} (h:MkR E v vp xs p) (hT:∀ w,OldW E' w→OldW E w):MkR E' v vp xs p:=⟨h.l.of_old hT,h.n,h.inn,h.s.of_old hT,h.m,h.pin⟩
theorem price_e {E:Env} (hE:E.P=Tryz.prog) {v vp:Value} {xs:List QC} {p:PL} (h:MkR E v vp xs p) (k day:Int) {a b:List UInt8} (hab:a.length+b.length≤100):OwnC E 162 [SV.c (.agg (mktA v vp p k day)),SV.c (.string (S a)),SV.c (.string (S b))] [] (fun x U=>x=.tuple #[.agg (dirQ xs k p day a b).1.A,.bool (dirQ xs k p day a b).2]∧U=[]):=by
 refine sx_ownC [] tt_ok mixed at162 E hE [SV.c (.agg (mktA v vp p k day)),SV.c (.string (S a)),SV.c (.string (S b))] [] _ rfl rfl fun w X β hT=>?_
 have hr:=h.of_old hT
 have S1:=select_q (k:=k) rfl hr.l hr.n hr.inn hr.s hr.m hr.pin (a++b) day
 rw [← S_add] at S1
 have M:=mktA_size v vp p k day
 have M0:=mktA_0 v vp p k day
 have M1:=mktA_1 v vp p k day
 have M2:=mktA_69 v vp p k day
 have M3:=mktA_70 v vp p k day
 have hsz:(S a).size+(S b).size≤9223372036854775807:=by rw [S_size,S_size];omega
 generalize mktA v vp p k day=MA at *
 refine ⟨M,_,M0,by decide,_,M1,_,M2,hsz,_,M3,?_⟩
 refine .inr (.inr (.inr ⟨[],[9000],[_,_,_,_,_],[],_,S1,rfl,trivial,rfl,trivial,?_⟩))
 rintro r1 U1 ⟨s1,n1,hn1,rfl,hs1,rfl⟩
 obtain ⟨sa1,sc1,rfl⟩:=hs1.len
 refine ⟨rfl,CH.fits _,?_⟩
 have hd:dirQ xs k p day a b=((selCh (cands xs k p (a++b) day) p.tol).price,decide (selE xs k p (a++b) day=0) && decide ((selCh (cands xs k p (a++b) day) p.tol).cur=b)):=rfl
 generalize selCh (cands xs k p (a++b) day) p.tol=C at *
 generalize selE xs k p (a++b) day=SE at *
 generalize dirQ xs k p day a b=D at *
 subst hd
 have C1:=CH.g1 C (.slice sa1 n1 sc1)
 have C3:=CH.g3 C (.slice sa1 n1 sc1)
 have PF:=C.price.A_fits
 generalize C.A (.slice sa1 n1 sc1)=CA at *
 refine ⟨by decide,_,C3,fun c=>?_,fun c=>?_⟩
 ·have c:(SE == 0)=true:=c
  refine ⟨_,C1,PF,by kernel_rfl,?_⟩
  refine ⟨[],[],⟨?_,rfl⟩,trivial,rfl⟩
  show Value.tuple #[_,.bool ((S C.cur).toList == (S b).toList)]=_
  rw [S_beq,decide_eq_true (show SE=0 by simpa using c),Bool.true_and]
 ·have c:(SE == 0)=false:=c
  refine ⟨PF,by kernel_rfl,?_⟩
  refine ⟨[],[],⟨?_,rfl⟩,trivial,rfl⟩
  rw [decide_eq_false (show ¬ SE=0 by simpa using c),Bool.false_and];rfl
def optQ (o:Option RQ):Value:=.tuple #[.agg (o.getD zeroQ).A,.bool o.isSome]
theorem quo1_z {r s:RQ} (hr:r.In) (hs:s.In) (h1:(r.p*s.q).natAbs < BB ^ 32) (h2:(r.q*s.p).natAbs < BB ^ 32):Pure Tryz.prog 210 [SV.c (.agg r.A),SV.c (.agg s.A)] (.tuple #[.agg (eA (r.p*s.q)),.agg (eA (r.q*s.p))]):=by
 refine sx_pure tt_ok mixed at210 _ _ rfl rfl fun w=>?_
 refine ⟨r.A_size,s.A_size,by decide,_,r.cat_l,by decide,_,s.cat_r,.inl ⟨_,product_z hr.num hs.den h1,by decide,_,r.cat_r,by decide,_,s.cat_l,.inl ⟨_,product_z hr.den hs.num h2,eA_fits _,eA_fits _,by kernel_rfl,rfl,trivial⟩⟩⟩
theorem quoR_z {r s:RQ} (hr:r.In) (hs:s.In):Pure Tryz.prog 163 [SV.c (.agg r.A),SV.c (.agg s.A)] (resQ (quoQ r s)):=by
 refine sx_pure tt_ok mixed at163 _ _ rfl rfl fun w=>?_
 have h:=calc_z (g:=210) (x:=r.p*s.q) (y:=r.q*s.p) hr hs fun h1 h2=>by
  have k1:=RQ.ok_bits h1
  have k2:=RQ.ok_bits h2
  have m1:=mul_lt' k1.1 k2.2.1
  have m2:=mul_lt' k1.2.1 k2.1
  exact ⟨quo1_z hr hs m1 m2,m1,m2⟩
 exact ⟨r.A_size,s.A_size,.inl ⟨_,h,RQ.A_fits _,rfl,trivial⟩⟩
theorem price_l {E:Env} (hE:E.P=Tryz.prog) {v vp:Value} {xs:List QC} {p:PL} (h:MkR E v vp xs p) (k day:Int) {a b:List UInt8} (hab:a.length+b.length≤100):OwnC E 162 [SV.c (.agg (mktA v vp p k day)),SV.c (.string (S a)),SV.c (.string (S b))] [] (fun x U=>x=.tuple #[.agg (dirQ xs k p day a b).1.A,.bool (dirQ xs k p day a b).2]∧U=[]):=price_e hE h k day hab
theorem leg_e {E:Env} (hE:E.P=Tryz.prog) {v vp:Value} {xs:List QC} {p:PL} (h:MkR E v vp xs p) (_hv:v.oneCell'=true) (_hvp:vp.oneCell'=true) (k day:Int) {a b:List UInt8} (ha:curOk a=true) (hb:curOk b=true):OwnC E 110 [SV.c (.agg (mktA v vp p k day)),SV.c (.string (S a)),SV.c (.string (S b))] [] (fun x U=>x=optQ (legQ xs k p day a b)∧U=[]):=by
 refine sx_ownC [] tt_ok mixed at110 E hE [SV.c (.agg (mktA v vp p k day)),SV.c (.string (S a)),SV.c (.string (S b))] [] _ rfl rfl fun w X β hT=>?_
 have hr:=h.of_old hT
 have la:=cur_len ha
 have lb:=cur_len hb
 have P1:=price_l rfl hr k day (a:=a) (b:=b) (by omega)
 have P2:=price_l rfl hr k day (a:=b) (b:=a) (by omega)
 have M:=mktA_size v vp p k day
 generalize mktA v vp p k day=MA at *
 have hL:legQ xs k p day a b=if a=b then none else if (dirQ xs k p day a b).2 then some (dirQ xs k p day a b).1 else if (dirQ xs k p day b a).2 then some (quoQ oneQ (dirQ xs k p day b a).1).1 else none:=rfl
 have D1:=dir_leg (xs:=xs) (k:=k) (p:=p) (day:=day) (a:=a) (b:=b) (cur_ne hb)
 have D2:=dir_leg (xs:=xs) (k:=k) (p:=p) (day:=day) (a:=b) (b:=a) (cur_ne ha)
 generalize legQ xs k p day a b=LQ at *
 generalize dirQ xs k p day a b=DA at *
 generalize dirQ xs k p day b a=DB at *
 obtain ⟨da,ea⟩:=DA
 obtain ⟨db,eb⟩:=DB
 refine ⟨M,fun c=>?_,fun c=>?_⟩
 ·have c:=str_eq c
  refine ⟨_,rfl,(RQ.of 0 0).A_fits,[],[],⟨?_,rfl⟩,trivial,rfl⟩
  rw [hL,if_pos c];rfl
 ·have c:=str_ne c
  rw [if_neg c] at hL
  refine .inr (.inr (.inl ⟨[],[_,_,_],[],_,[],P1,rfl,trivial,rfl,rfl,da.A_fits,fun c1=>?_,fun c1=>?_⟩))
  ·have c1:ea=true:=c1
   refine ⟨da.A_fits,[],[],⟨?_,rfl⟩,trivial,rfl⟩
   rw [hL,c1];rfl
  ·have c1:ea=false:=c1
   rw [c1] at hL
   refine .inr (.inr (.inl ⟨[],[_,_,_],[],_,[],P2,rfl,trivial,rfl,rfl,db.A_fits,fun c2=>?_,fun c2=>?_⟩))
   ·have c2:(!eb)=true:=c2
    have c2:eb=false:=by simpa using c2
    rw [c2] at hL
    have hL:LQ=none:=by rw [hL];simp
    refine ⟨_,rfl,(RQ.of 0 0).A_fits,[],[],⟨?_,rfl⟩,trivial,rfl⟩
    rw [hL];rfl
   ·have c2:(!eb)=false:=c2
    have c2:eb=true:=by simpa using c2
    rw [c2] at hL
    have hL:LQ=some (quoQ oneQ db).1:=by rw [hL];simp
    have hd:Leg db:=D2 c2
    refine .inl ⟨_,whole1_z (n:=1) (by decide) (by decide),.inl ⟨_,quoR_z one_in hd.in_,RQ.A_fits _,by kernel_rfl,RQ.A_fits _,[],[],⟨?_,rfl⟩,trivial,rfl⟩⟩
    rw [hL];rfl
theorem mktC_1 {xs:List QC} {p:PL} {day:Int} {cs:List (List UInt8)} (h:chkQ xs≠0):mktC xs p day cs=chkQ xs:=by unfold mktC;rw [if_pos h]
theorem mktC_2 {xs:List QC} {p:PL} {day:Int} {cs:List (List UInt8)} (h:chkQ xs=0) (h2:polOk p=false):mktC xs p day cs=150:=by
 unfold mktC;rw [if_neg (fun h3=>h3 h),h2];rfl
theorem mktC_3 {xs:List QC} {p:PL} {day:Int} {cs:List (List UInt8)} (h:chkQ xs=0) (h2:polOk p=true) (h3:day < 0∨day > 73048):mktC xs p day cs=50:=by
 unfold mktC;rw [if_neg (fun h3=>h3 h),if_pos h2,if_pos h3]
theorem mktC_4 {xs:List QC} {p:PL} {day:Int} {cs:List (List UInt8)} (h:chkQ xs=0) (h2:polOk p=true) (h3:¬ (day < 0∨day > 73048)):mktC xs p day cs=if cs.all curOk then 0 else 160:=by
 unfold mktC;rw [if_neg (fun h3=>h3 h),if_pos h2,if_neg h3]
theorem all_at {p:List UInt8→Bool} {cs:List (List UInt8)} (h:∀ (j:Nat) c,cs[j]? = some c→p c=true):cs.all p=true:=by
 rw [List.all_eq_true]
 intro x hx
 obtain ⟨j,hj⟩:=List.getElem?_of_mem hx
 exact h j x hj
theorem all_bad {p:List UInt8→Bool} {cs:List (List UInt8)} {j:Nat} {c:List UInt8} (hj:cs[j]? = some c) (h:p c=false):cs.all p=false:=by
 rw [List.all_eq_false]
 exact ⟨c,List.mem_of_getElem? hj,by rw [h];simp⟩
theorem check_e {E:Env} (hE:E.P=Tryz.prog) {v vp vc:Value} {xs:List QC} {p:PL} (h:MkR E v vp xs p) (k day:Int) {cs:List (List UInt8)} (hc:Lst E vc 1 cs.length (cat strA cs)) (hn:cs.length≤100):OwnC E 51 [SV.c (.agg (mktA v vp p k day)),SV.c vc] [] (fun x U=>x=.int .i64 (mktC xs p day cs)∧U=[]):=by
 refine sx_ownC [] tt_ok mixed at51 E hE [SV.c (.agg (mktA v vp p k day)),SV.c vc] [] _ rfl rfl fun w X β hT=>?_
 have hr:=h.of_old hT
 have hc':=hc.of_old hT
 obtain ⟨ac,capc,rfl,hcc,h4⟩:=id hc'.shape
 have C1:=check_q rfl hr.l hr.n hr.inn
 have C2:=check_p rfl hr.s hr.m hr.pin
 have M:=mktA_size v vp p k day
 have M0:=mktA_0 v vp p k day
 have M1:=mktA_1 v vp p k day
 have M3:=mktA_70 v vp p k day
 generalize mktA v vp p k day=MA at *
 refine ⟨M,_,M0,?_⟩
 refine .inr (.inr (.inl ⟨[],[_],[],_,[],C1,rfl,trivial,rfl,rfl,fun c=>?_,fun c=>?_⟩))
 ·have c:(chkQ xs != 0)=true:=c
  refine ⟨[],[],⟨?_,rfl⟩,trivial,rfl⟩
  rw [mktC_1 (by simpa using c)];rfl
 ·have c:(chkQ xs != 0)=false:=c
  have c:chkQ xs=0:=by simpa using c
  refine ⟨by decide,_,M1,.inr (.inr (.inl ⟨[],[_],[],_,[],C2,rfl,trivial,rfl,rfl,fun c2=>?_,fun c2=>?_⟩))⟩
  ·have c2:((if polOk p then (0:Int) else 150) != 0)=true:=c2
   have c2:polOk p=false:=by cases e:polOk p<;>simp [e] at c2 ⊢
   refine ⟨[],[],⟨?_,rfl⟩,trivial,rfl⟩
   rw [mktC_2 c c2,c2];rfl
  ·have c2:((if polOk p then (0:Int) else 150) != 0)=false:=c2
   have c2:polOk p=true:=by cases e:polOk p<;>simp [e] at c2 ⊢
   refine ⟨_,M3,fun d1=>?_,fun d1=>?_⟩
   ·have d1:=of_decide_eq_false d1
    refine ⟨_,M3,fun d2=>?_,fun d2=>?_⟩
    ·have d2:=of_decide_eq_true (show decide (day > 73048)=true from d2)
     refine ⟨[],[],⟨?_,rfl⟩,trivial,rfl⟩
     rw [mktC_3 c c2 (.inr d2)];rfl
    ·have d2:=of_decide_eq_false (show decide (day > 73048)=false from d2)
     have hm:=mktC_4 (cs:=cs) c c2 (day:=day) (by omega)
     refine ⟨_,fun w' _=>run_len_sl Tryz.underlying27 w',?_⟩
     refine ⟨fun q f m=>∃ (i:Nat),q=cs.length - i∧i≤cs.length∧(∀ (j:Nat) c,j < i→cs[j]? = some c→curOk c=true)∧f=[(29,SV.c (.slice ac cs.length capc)),(30,SV.c (.int .i64 (cs.length:Nat))),(31,SV.c (.int .i64 (i:Nat)))]∧m=[],cs.length,⟨_,_,⟨0,by omega,by omega,fun j c h=>by omega,rfl,rfl⟩,⟨rfl,rfl,rfl,trivial⟩,trivial,rfl⟩,?_⟩
     rintro q f m ⟨i,rfl,hi,hall,rfl,rfl⟩
     refine ⟨fun h=>?_,fun h=>?_⟩
     ·have h:i < cs.length:=by have:=of_decide_eq_true h;omega
      obtain ⟨b,o,rfl,h5⟩:=h4 (by omega)
      obtain ⟨y,hy⟩:∃ y,cs[i]? = some y:=⟨_,List.getElem?_eq_getElem h⟩
      have hE':VOk (envC Tryz.prog tt Tryz.f51.ntmps w X (tiedK [] β)):=tt_ok
      have L1:=lst_at hE' h5 strA_size hy (j:=0) (v:=.string (S y)) rfl (ty:=9) (ti:=ti9) rfl rfl (p:=offAt o ((i:Nat):Int) ti9.size) (off_one o i)
      refine ⟨by omega,by omega,.inl ⟨_,L1,.inl ⟨_,code_e y,fun g=>?_,fun g=>?_⟩⟩⟩
      ·have g:(!curOk y)=true:=g
       refine ⟨[],[],⟨?_,rfl⟩,trivial,rfl⟩
       rw [hm,all_bad hy (by simpa using g)];rfl
      ·have g:(!curOk y)=false:=g
       have g:curOk y=true:=by simpa using g
       exact ⟨cs.length - (i+1),_,_,by omega,⟨i+1,rfl,by omega,fun j z hj hz=>by
        rcases Nat.lt_or_ge j i with h9 | h9
        ·exact hall j z h9 hz
        ·have:j=i:=by omega
         subst this;rw [hy] at hz;cases hz;exact g,rfl,rfl⟩,⟨rfl,rfl,c_int (i64_succ (by omega)),trivial⟩,trivial,rfl⟩
     ·have h:i=cs.length:=by have:=of_decide_eq_false h;omega
      subst h
      refine ⟨[],[],⟨?_,rfl⟩,trivial,rfl⟩
      rw [hm,all_at fun j z hz=>hall j z (List.getElem?_eq_some_iff.1 hz).1 hz];rfl
   ·have d1:=of_decide_eq_true (show decide (day < 0)=true from d1)
    refine ⟨fun _=>?_,fun h=>absurd h (by decide)⟩
    refine ⟨[],[],⟨?_,rfl⟩,trivial,rfl⟩
    rw [mktC_3 c c2 (.inl d1)];rfl
theorem code_r0 (l:List UInt8):Pure Tryz.prog 34 [SV.c (.string (S l))] (.bool (curOk l)):=by
 refine sx_pure tt_ok mixed at34 _ _ rfl rfl fun w=>?_
 have hx:∀ i:Nat,i < l.length→Runs ((envP Tryz.prog tt Tryz.f34.ntmps w).toEnv) (Instr.index 9 (.string (S l)) (.int .i64 (i:Int))) (.int .u8 ((l.getD i 0).toNat:Nat)):=fun i h=>runs_idx Tryz.underlying9 i rfl h
 rw [curOk_eq]
 refine ⟨_,fun w _=>run_len_S Tryz.underlying9 w,fun h=>?_,fun h=>?_⟩
 ·have h:((l.length:Int) == 3)=true:=h
  have h:(l.length:Int)=3:=by simpa using h
  rw [decide_eq_true h,Bool.true_and]
  refine ⟨_,hx 0 (by omega),.inl ⟨_,capital_r _,fun h0=>⟨_,hx 1 (by omega),.inl ⟨_,capital_r _,fun h1=>⟨_,hx 2 (by omega),.inl ⟨_,capital_r _,bv ?_,trivial⟩⟩,fun h1=>⟨bv ?_,trivial⟩⟩⟩,fun h0=>⟨nofun,fun _=>⟨bv ?_,trivial⟩⟩⟩⟩
  ·rw [show capR l 0=true from h0,show capR l 1=true from h1];rfl
  ·rw [show capR l 0=true from h0,show capR l 1=false from h1];rfl
  ·rw [show capR l 0=false from h0];rfl
 ·have h:((l.length:Int) == 3)=false:=h
  have h:¬ (l.length:Int)=3:=by simpa using h
  rw [decide_eq_false h,Bool.false_and]
  refine ⟨nofun,fun _=>⟨nofun,fun _=>⟨rfl,trivial⟩⟩⟩
theorem check_eo {E:Env} (hE:E.P=Tryz.prog) {v vp:Value} {xs:List QC} {p:PL} (h:MkR E v vp xs p) (k day:Int) {cs:List (List UInt8)} {n:Nat} {vc:Value} (hn:n=cs.length) (hn2:n≤100):OwnC E 51 [SV.c (.agg (mktA v vp p k day)),SV.c vc] [(9300,Blk.own vc 9 1 n (cat strA cs))] (fun x U=>x=.int .i64 (mktC xs p day cs)∧U=[(9300,Blk.own vc 9 1 n (cat strA cs))]):=by
 subst hn
 refine (OwnC.with_own2 (k:=9300) (v:=vc) (e:=9) (sz:=1) (n:=cs.length) (A:=cat strA cs) (pre:=[]) (Q:=fun x U=>x=.int .i64 (mktC xs p day cs)∧U=[]) rfl rfl (Go.SX.cat_all strA_one cs) (by rw [hE];exact at51.enters) (fun E0 h0 ho hl=>check_e (h0.trans hE) (h.of_old ho) k day hl hn2) (fun x U h=>by rw [h.2];rfl)).mono ?_
 rintro r U ⟨U0,⟨h1,rfl⟩,rfl⟩
 exact ⟨h1,rfl⟩
def wayO (f:List UInt8→List UInt8→Option RQ):RQ→List (List UInt8)→Option RQ
 | r,a :: b :: cs=>match f a b with
  | some s=>wayO f (mulQ r s).1 (b :: cs)
  | none=>none
 | r,_=>some r
theorem way_e {E:Env} (hE:E.P=Tryz.prog) {v vp vc:Value} {xs:List QC} {p:PL} (h:MkR E v vp xs p) (hv:v.oneCell'=true) (hvp:vp.oneCell'=true) (k day:Int) {cs:List (List UInt8)} (hc:Lst E vc 1 cs.length (cat strA cs)) (hn:cs.length≤100) (hn1:2≤cs.length) (hok:∀ c∈cs,curOk c=true):OwnC E 53 [SV.c (.agg (mktA v vp p k day)),SV.c vc] [] (fun x U=>x=optQ (wayO (legQ xs k p day) oneQ cs)∧U=[]):=by
 refine sx_ownC [] tt_ok mixed at53 E hE [SV.c (.agg (mktA v vp p k day)),SV.c vc] [] _ rfl rfl fun w X β hT=>?_
 have hr:=h.of_old hT
 have hc':=hc.of_old hT
 obtain ⟨ac,capc,rfl,hcc,h4⟩:=id hc'.shape
 obtain ⟨b,o,rfl,h5⟩:=h4 (by omega)
 have M:=mktA_size v vp p k day
 have LG:=fun (a b:List UInt8) (ha:curOk a=true) (hb:curOk b=true)=>leg_e (E:=(envC Tryz.prog tt Tryz.f53.ntmps w X (tiedK [] β)).toEnv) rfl hr hv hvp k day ha hb
 generalize mktA v vp p k day=MA at *
 refine ⟨M,.inl ⟨_,whole1_z (n:=1) (by decide) (by decide),RQ.A_fits _,?_⟩⟩
 have hE':VOk (envC Tryz.prog tt Tryz.f53.ntmps w X (tiedK [] β)):=tt_ok
 have S1:=runs_slo hE' Tryz.underlying27 (j:=ti9) rfl (a:=some ⟨b,o,none⟩) (n:=cs.length) (cap:=capc) (k:=.i64) 1 rfl (by omega)
 rw [if_neg (by omega)] at S1
 refine ⟨_,S1,_,fun w' _=>run_len_sl Tryz.underlying27 w',?_⟩
 refine ⟨fun q f m=>∃ (i:Nat) (r:RQ),q=cs.length - 1 - i∧i+1≤cs.length∧r.In∧wayO (legQ xs k p day) oneQ cs=wayO (legQ xs k p day) r (cs.drop i)∧f=[(1,SV.c (.slice (some ⟨b,o,none⟩) cs.length capc)),(2,SV.ptr 2 0),(4,SV.ptr 4 0),(6,SV.ptr 6 0),(13,SV.c (.slice (some ⟨b,o+1,none⟩) (cs.length - 1) (capc - 1))),(14,SV.c (.int .i64 ((cs.length - 1:Nat):Int))),(15,SV.c (.int .i64 (i:Nat)))]∧m=[(2,Blk.row 101 71 MA),(4,Blk.row 33 66 ti33.zero),(6,Blk.row 33 66 r.A)],cs.length - 1,⟨_,_,⟨0,oneQ,rfl,by omega,one_in,rfl,rfl,rfl⟩,⟨rfl,rfl,rfl,rfl,rfl,rfl,rfl,trivial⟩,⟨rfl,rfl,rfl,trivial⟩,rfl⟩,?_⟩
 rintro q f m ⟨i,r,rfl,hi,hrin,hway,rfl,rfl⟩
 have RF:=r.A_fits
 refine ⟨fun g=>?_,fun g=>?_⟩
 ·have g:i < cs.length - 1:=by have:=of_decide_eq_true g;omega
  obtain ⟨c,hci⟩:∃ y,cs[i]? = some y:=⟨_,List.getElem?_eq_getElem (by omega)⟩
  obtain ⟨c',hci'⟩:∃ y,cs[i+1]? = some y:=⟨_,List.getElem?_eq_getElem (by omega)⟩
  have L1:=lst_at hE' h5 strA_size hci (j:=0) (v:=.string (S c)) rfl (ty:=9) (ti:=ti9) rfl rfl (p:=offAt o ((i:Nat):Int) ti9.size) (off_one o i)
  have L2:=lst_at hE' h5 strA_size hci' (j:=0) (v:=.string (S c')) rfl (ty:=9) (ti:=ti9) rfl rfl (p:=offAt (o+1) ((i:Nat):Int) ti9.size) (by rw [off_one (o+1) i];omega)
  have hdrop:cs.drop i=c :: c' :: cs.drop (i+2):=by
   rw [drop_at hci,drop_at hci']
  have hdrop':cs.drop (i+1)=c' :: cs.drop (i+2):=by rw [drop_at hci']
  have hw2:wayO (legQ xs k p day) oneQ cs=match legQ xs k p day c c' with
   | some s=>wayO (legQ xs k p day) (mulQ r s).1 (c' :: cs.drop (i+2))
   | none=>none:=by rw [hway,hdrop];rfl
  have oc:=hok c (List.mem_of_getElem? hci)
  have oc':=hok c' (List.mem_of_getElem? hci')
  have G1:=LG c c' oc oc'
  refine ⟨by omega,by omega,.inl ⟨_,L2,by omega,by omega,.inl ⟨_,L1,?_⟩⟩⟩
  cases e:legQ xs k p day c c' with
  | none =>
   rw [e] at hw2 G1
   have hw2:wayO (legQ xs k p day) oneQ cs=none:=hw2
   refine .inr (.inr (.inl ⟨[],[_,_,_],[],_,[],G1,rfl,trivial,rfl,rfl,(RQ.of 0 0).A_fits,by kernel_rfl,fun c1=>?_,fun c1=>absurd (show true=false from c1) (by decide)⟩))
   refine ⟨_,rfl,(RQ.of 0 0).A_fits,[],[],⟨?_,rfl⟩,trivial,rfl⟩
   rw [hw2];rfl
  | some s =>
   rw [e] at hw2 G1
   have hw2:wayO (legQ xs k p day) oneQ cs=wayO (legQ xs k p day) (mulQ r s).1 (c' :: cs.drop (i+2)):=hw2
   have hs:Leg s:=by
    unfold legQ at e
    split at e
    ·cases e
    ·exact legO_leg (cur_ne oc) (cur_ne oc') e
   refine .inr (.inr (.inl ⟨[],[_,_,_],[],_,[],G1,rfl,trivial,rfl,rfl,s.A_fits,by kernel_rfl,fun c1=>absurd (show false=true from c1) (by decide),fun c1=>?_⟩))
   refine .inl ⟨_,mulR_z hrin hs.in_,RQ.A_fits _,?_⟩
   refine ⟨cs.length - 1 - (i+1),_,_,by omega,⟨i+1,(mulQ r s).1,rfl,by omega,mulQ_in _ _,by rw [hdrop'];exact hw2,rfl,rfl⟩,⟨rfl,rfl,rfl,rfl,rfl,rfl,c_int (i64_succ (by omega)),trivial⟩,⟨rfl,rfl,rfl,trivial⟩,rfl⟩
 ·have g:i=cs.length - 1:=by have:=of_decide_eq_false g;omega
  subst g
  obtain ⟨c,hci⟩:∃ y,cs[cs.length - 1]? = some y:=⟨_,List.getElem?_eq_getElem (by omega)⟩
  have hd:cs.drop (cs.length - 1)=[c]:=by
   rw [drop_at hci,List.drop_eq_nil_of_le (by omega)]
  have hway:wayO (legQ xs k p day) oneQ cs=some r:=by rw [hway,hd];rfl
  refine ⟨RF,[],[],⟨?_,rfl⟩,trivial,rfl⟩
  rw [hway];rfl
theorem way_eo {E:Env} (hE:E.P=Tryz.prog) {v vp vc:Value} {xs:List QC} {p:PL} (h:MkR E v vp xs p) (hv:v.oneCell'=true) (hvp:vp.oneCell'=true) (k day:Int) {cs:List (List UInt8)} {n:Nat} (hcn:n=cs.length) (hn:n≤100) (hn1:2≤n) (hok:∀ c∈cs,curOk c=true):OwnC E 53 [SV.c (.agg (mktA v vp p k day)),SV.c vc] [(9300,Blk.own vc 9 1 n (cat strA cs))] (fun x U=>x=optQ (wayO (legQ xs k p day) oneQ cs)∧U=[(9300,Blk.own vc 9 1 n (cat strA cs))]):=by
 subst hcn
 refine (OwnC.with_own2 (k:=9300) (v:=vc) (e:=9) (sz:=1) (n:=cs.length) (A:=cat strA cs) (pre:=[]) (Q:=fun x U=>x=optQ (wayO (legQ xs k p day) oneQ cs)∧U=[]) rfl rfl (Go.SX.cat_all strA_one cs) (by rw [hE];exact at53.enters) (fun E0 h0 ho hl=>way_e (h0.trans hE) (h.of_old ho) hv hvp k day hl hn hn1 hok) (fun x U h=>by rw [h.2];rfl)).mono ?_
 rintro r U ⟨U0,⟨h1,rfl⟩,rfl⟩
 exact ⟨h1,rfl⟩
theorem fill_str2 (a b:List UInt8):Instr.fill (fun k=>some (k*ti9.size,ti9.size)) (madeCells ti9.zero (2*ti9.size)) [(0,.string (S a)),(1,.string (S b))]=some (cat strA [a,b]):=by kernel_rfl
theorem fill_str3 (a b c:List UInt8):Instr.fill (fun k=>some (k*ti9.size,ti9.size)) (madeCells ti9.zero (3*ti9.size)) [(0,.string (S a)),(1,.string (S b)),(2,.string (S c))]=some (cat strA [a,b,c]):=by kernel_rfl
theorem fill_mkt (b:Option Addr) (n d:Nat) (a:Option Addr) (m c:Nat) (p:PL) (k day:Int) {pl:List (Nat×Nat)} (hpl:pl=[(0,1),(1,68),(69,1),(70,1)]):Instr.fill (fun k=>pl[k]?) ti101.zero [(0,.slice b n d),(1,.agg (p.A (.slice a m c))),(2,.int .i64 k),(3,.int .i64 day)]=some (mktA (.slice b n d) (.slice a m c) p k day):=by
 subst hpl
 have:=fill_all (pl:=fun k=>[(0,1),(1,68),(69,1),(70,1)][k]?) (vs:=[.slice b n d,.agg (p.A (.slice a m c)),.int .i64 k,.int .i64 day]) (Z:=ti101.zero) ⟨by simp [Value.cells],by simp [Value.cells,PL.size],by simp [Value.cells,PL.size],by simp [Value.cells,PL.size],trivial⟩ (by simp [catV,Value.cells,PL.size];rfl)
 rw [show catV [.slice b n d,.agg (p.A (.slice a m c)),.int .i64 k,.int .i64 day]=mktA (.slice b n d) (.slice a m c) p k day by simp [catV,Value.cells,mktA]] at this
 exact this
theorem wayO_2 {f:List UInt8→List UInt8→Option RQ} {a b:List UInt8} (hok:∀ r,f a b=some r→r.ok=true):wayO f oneQ [a,b]=f a b:=by
 show (match f a b with | some s=>some (mulQ oneQ s).1 | none=>none)=_
 cases e:f a b with
 | none=>rfl
 | some s=>show some (mulQ oneQ s).1=_;rw [one_mulQ (hok s e)]
theorem wayO_3 {f:List UInt8→List UInt8→Option RQ} {a b c:List UInt8} (hok:∀ r,f a b=some r→r.ok=true):wayO f oneQ [a,b,c]=match f a b,f b c with
    | some x,some y=>some (mulQ x y).1
    | _,_=>none:=by
 show (match f a b with | some s=>(match f b c with | some t=>some (mulQ (mulQ oneQ s).1 t).1 | none=>none) | none=>none)=_
 cases e:f a b with
 | none=>rfl
 | some s =>
  show (match f b c with | some t=>some (mulQ (mulQ oneQ s).1 t).1 | none=>none)=_
  rw [one_mulQ (hok s e)]
  cases f b c<;>rfl
theorem legQ_ok {xs:List QC} {k:Int} {p:PL} {day:Int} {a b:List UInt8} (ha:curOk a=true) (hb:curOk b=true) {r:RQ} (h:legQ xs k p day a b=some r):Leg r:=by
 unfold legQ at h
 split at h
 ·cases h
 ·exact legO_leg (cur_ne ha) (cur_ne hb) h
theorem legQ_ne {xs:List QC} {k:Int} {p:PL} {day:Int} {a b:List UInt8} (h:a≠b):legQ xs k p day a b=legO xs k p day a b:=by unfold legQ;rw [if_neg h]
theorem rateQ_1 {xs:List QC} {k:Int} {p:PL} {day:Int} {v a b:List UInt8} (h:mktC xs p day [v,a,b]≠0):rateQ xs k p day v a b=(zeroQ,mktC xs p day [v,a,b]):=by unfold rateQ;rw [if_pos h]
theorem rateQ_2 {xs:List QC} {k:Int} {p:PL} {day:Int} {v a b:List UInt8} (h:mktC xs p day [v,a,b]=0) (h2:a=b):rateQ xs k p day v a b=(oneQ,0):=by unfold rateQ;rw [if_neg (fun g=>g h),if_pos h2]
theorem rateQ_3 {xs:List QC} {k:Int} {p:PL} {day:Int} {v a b:List UInt8} (h:mktC xs p day [v,a,b]=0) (h2:a≠b) {r:RQ} (h3:legO xs k p day a b=some r):rateQ xs k p day v a b=(r,0):=by unfold rateQ;rw [if_neg (fun g=>g h),if_neg h2,h3]
theorem rateQ_4 {xs:List QC} {k:Int} {p:PL} {day:Int} {v a b:List UInt8} (h:mktC xs p day [v,a,b]=0) (h2:a≠b) (h3:legO xs k p day a b=none) (h4:v=a∨v=b):rateQ xs k p day v a b=(zeroQ,161):=by unfold rateQ;rw [if_neg (fun g=>g h),if_neg h2,h3];simp only [];rw [if_pos h4]
theorem rateQ_5 {xs:List QC} {k:Int} {p:PL} {day:Int} {v a b:List UInt8} (h:mktC xs p day [v,a,b]=0) (h2:a≠b) (h3:legO xs k p day a b=none) (h4:¬ (v=a∨v=b)):rateQ xs k p day v a b=(match legO xs k p day a v,legO xs k p day v b with
    | some x,some y=>mulQ x y
    | _,_=>(zeroQ,161)):=by unfold rateQ;rw [if_neg (fun g=>g h),if_neg h2,h3];simp only [];exact if_neg h4
theorem resZ0 (n:Int):mkRes [.agg ti33.zero,.int .i64 n]=resQ (zeroQ,n):=by kernel_rfl
theorem Rate_e {E:Env} (hE:E.P=Tryz.prog) {v vp:Value} {xs:List QC} {p:PL} (h:MkR E v vp xs p) (k day:Int) {u a b:List UInt8}:OwnC E 17 [SV.c v,SV.c (.agg (p.A vp)),SV.c (.int .i64 k),SV.c (.string (S u)),SV.c (.string (S a)),SV.c (.string (S b)),SV.c (.int .i64 day)] [] (fun x U=>x=resQ (rateQ xs k p day u a b)∧U=[]):=by
 refine sx_ownC [] tt_ok mixed at17 E hE [SV.c v,SV.c (.agg (p.A vp)),SV.c (.int .i64 k),SV.c (.string (S u)),SV.c (.string (S a)),SV.c (.string (S b)),SV.c (.int .i64 day)] [] _ rfl rfl fun w X β hT=>?_
 have hr:=h.of_old hT
 obtain ⟨ap,capp,rfl,hcp,-⟩:=id hr.s.shape
 obtain ⟨av,capv,rfl,hcv,-⟩:=id hr.l.shape
 have F1:=p.size (.slice ap p.srcs.length capp)
 have FM:=fill_mkt av xs.length capv ap p.srcs.length capp p k day (pl:=[(0,1),(1,68),(69,1),(70,1)]) rfl
 have MF:=mktA_fits (v:=.slice av xs.length capv) (vp:=.slice ap p.srcs.length capp) p k day rfl rfl
 have CK:=fun (g:Nat)=>check_eo (E:=(envC Tryz.prog tt Tryz.f17.ntmps w X (tiedK [] β)).toEnv) rfl hr k day (cs:=[u,a,b]) (n:=3) (vc:=.slice (some ⟨g,0,none⟩) 3 3) rfl (by decide)
 have W2:=fun (g:Nat) hok=>way_eo (E:=(envC Tryz.prog tt Tryz.f17.ntmps w X (tiedK [] β)).toEnv) rfl hr rfl rfl k day (cs:=[a,b]) (n:=2) (vc:=.slice (some ⟨g,0,none⟩) 2 2) rfl (by decide) (by decide) hok
 have W3:=fun (g:Nat) hok=>way_eo (E:=(envC Tryz.prog tt Tryz.f17.ntmps w X (tiedK [] β)).toEnv) rfl hr rfl rfl k day (cs:=[a,u,b]) (n:=3) (vc:=.slice (some ⟨g,0,none⟩) 3 3) rfl (by decide) (by decide) hok
 generalize mktA (.slice av xs.length capv) (.slice ap p.srcs.length capp) p k day=MA at *
 generalize p.A (.slice ap p.srcs.length capp)=PA at *
 refine ⟨F1,MA,FM,MF,?_⟩
 refine .inr ⟨by decide,by decide,by decide,_,fill_str3 u a b,rfl,trivial,fun g=>?_⟩
 refine .inr (.inr (.inl ⟨[(9300,31)],[_,_],[_],_,[_],CK g,rfl,⟨.inl rfl,trivial⟩,rfl,rfl,fun c=>?_,fun c=>?_⟩))
 ·have c:(mktC xs p day [u,a,b] != 0)=true:=c
  refine ⟨_,rfl,(RQ.of 0 0).A_fits,[],[],⟨?_,rfl⟩,trivial,rfl⟩
  rw [rateQ_1 (by simpa using c)];exact resZ0 _
 ·have c:(mktC xs p day [u,a,b] != 0)=false:=c
  have c:mktC xs p day [u,a,b]=0:=by simpa using c
  obtain ⟨-,-,-,-,hall⟩:=mktC_ok c
  have hu:=hall u (by simp)
  have ha:=hall a (by simp)
  have hb:=hall b (by simp)
  refine ⟨fun d=>?_,fun d=>?_⟩
  ·have d:=str_eq d
   refine .inl ⟨_,whole1_z (n:=1) (by decide) (by decide),RQ.A_fits _,[],[],⟨?_,rfl⟩,trivial,rfl⟩
   rw [rateQ_2 c d];rfl
  ·have d:=str_ne d
   refine .inr ⟨by decide,by decide,by decide,_,fill_str2 a b,rfl,trivial,fun g2=>?_⟩
   have G2:=W2 g2 (by intro z hz;simp at hz;rcases hz with rfl | rfl;exact ha;exact hb)
   rw [wayO_2 (fun r hr=>(legQ_ok ha hb hr).ok),legQ_ne d] at G2
   cases e:legO xs k p day a b with
   | some r =>
    rw [e] at G2
    refine .inr (.inr (.inl ⟨[(9300,45)],[_,_],[_],_,[_],G2,rfl,⟨.inl rfl,trivial⟩,rfl,rfl,RQ.A_fits _,fun c1=>?_,fun c1=>absurd (show true=false from c1) (by decide)⟩))
    refine ⟨RQ.A_fits _,[],[],⟨?_,rfl⟩,trivial,rfl⟩
    rw [rateQ_3 c d e];rfl
   | none =>
    rw [e] at G2
    refine .inr (.inr (.inl ⟨[(9300,45)],[_,_],[_],_,[_],G2,rfl,⟨.inl rfl,trivial⟩,rfl,rfl,RQ.A_fits _,fun c1=>absurd (show false=true from c1) (by decide),fun c1=>?_⟩))
    refine ⟨fun z1=>?_,fun z1=>?_⟩
    ·have z1:(!((S u).toList == (S a).toList))=true:=z1
     have z1:u≠a:=str_ne (by simpa using z1)
     refine ⟨fun z2=>?_,fun z2=>?_⟩
     ·have z2:(!((S u).toList == (S b).toList))=true:=z2
      have z2:u≠b:=str_ne (by simpa using z2)
      have hq:=rateQ_5 c d e (by rintro (h | h);exact z1 h;exact z2 h)
      refine .inr ⟨by decide,by decide,by decide,_,fill_str3 a u b,rfl,trivial,fun g3=>?_⟩
      have G3:=W3 g3 (by intro z hz;simp at hz;rcases hz with rfl | rfl | rfl;exact ha;exact hu;exact hb)
      have W:=wayO_3 (f:=legQ xs k p day) (a:=a) (b:=u) (c:=b) (fun r hr=>(legQ_ok ha hu hr).ok)
      rw [legQ_ne (fun h=>z1 h.symm),legQ_ne z2] at W
      cases e1:legO xs k p day a u with
      | none =>
       rw [e1] at W hq
       have W:wayO (legQ xs k p day) oneQ [a,u,b]=none:=W
       rw [W] at G3
       have hq:rateQ xs k p day u a b=(zeroQ,161):=hq
       refine .inr (.inr (.inl ⟨[(9300,64)],[_,_],[_],_,[_],G3,rfl,⟨.inl rfl,trivial⟩,rfl,rfl,RQ.A_fits _,fun c1=>absurd (show false=true from c1) (by decide),fun _=>?_⟩))
       refine ⟨_,rfl,(RQ.of 0 0).A_fits,[],[],⟨?_,rfl⟩,trivial,rfl⟩
       rw [hq];exact resZ0 _
      | some x =>
       cases e2:legO xs k p day u b with
       | none =>
        rw [e1,e2] at W hq
        have W:wayO (legQ xs k p day) oneQ [a,u,b]=none:=W
        rw [W] at G3
        have hq:rateQ xs k p day u a b=(zeroQ,161):=hq
        refine .inr (.inr (.inl ⟨[(9300,64)],[_,_],[_],_,[_],G3,rfl,⟨.inl rfl,trivial⟩,rfl,rfl,RQ.A_fits _,fun c1=>absurd (show false=true from c1) (by decide),fun _=>?_⟩))
        refine ⟨_,rfl,(RQ.of 0 0).A_fits,[],[],⟨?_,rfl⟩,trivial,rfl⟩
        rw [hq];exact resZ0 _
       | some y =>
        rw [e1,e2] at W hq
        have W:wayO (legQ xs k p day) oneQ [a,u,b]=some (mulQ x y).1:=W
        have hq:rateQ xs k p day u a b=mulQ x y:=hq
        have lx:=legO_leg (cur_ne ha) (cur_ne hu) e1
        have ly:=legO_leg (cur_ne hu) (cur_ne hb) e2
        obtain ⟨t,m1,-,-,-,-⟩:=mul_leg lx ly
        rw [m1] at W hq
        rw [W] at G3
        refine .inr (.inr (.inl ⟨[(9300,64)],[_,_],[_],_,[_],G3,rfl,⟨.inl rfl,trivial⟩,rfl,rfl,RQ.A_fits _,fun _=>?_,fun c1=>absurd (show true=false from c1) (by decide)⟩))
        refine ⟨RQ.A_fits _,[],[],⟨?_,rfl⟩,trivial,rfl⟩
        rw [hq];rfl
     ·have z2:(!((S u).toList == (S b).toList))=false:=z2
      have z2:u=b:=str_eq (by simpa using z2)
      refine ⟨_,rfl,(RQ.of 0 0).A_fits,[],[],⟨?_,rfl⟩,trivial,rfl⟩
      rw [rateQ_4 c d e (.inr z2)];exact resZ0 _
    ·have z1:(!((S u).toList == (S a).toList))=false:=z1
     have z1:u=a:=str_eq (by simpa using z1)
     refine ⟨fun h=>absurd h (by decide),fun _=>?_⟩
     refine ⟨_,rfl,(RQ.of 0 0).A_fits,[],[],⟨?_,rfl⟩,trivial,rfl⟩
     rw [rateQ_4 c d e (.inl z1)];exact resZ0 _
theorem of_ok {n:Int} (hn:Bd 60 n):(RQ.of n 1).ok=true:=by
 rw [of_mk hn]
 obtain ⟨r,e1,e2,e3,e4,e5⟩:=mkQ_v (y:=1) (by decide) hn (show Bd 1 1 from by unfold Bd;decide)
 rw [e1];exact e2
end Go.Proofs.YtofllflnmmjijaaGreatDoor
