/- sameness of choices. a currency, as a text of runes. a made ; no condition. -/
import Derived.Test.YtklehfchdoikeaaGreatDoorValuationExactQ27
set_option maxRecDepth 100000
set_option maxHeartbeats 4000000
namespace Go.Proofs.YtklehfchdoikeaaGreatDoor
open Go Go.RowKit Go.SX
def QC.beq (a b:QC):Bool:=decide (a.src=b.src) && (decide (a.ins=b.ins) && (decide (a.cur=b.cur) && ((a.day == b.day) && (a.price.beq b.price && ((a.known == b.known) && ((a.void == b.void) && true))))))
theorem QC.beq_self (a:QC):a.beq a=true:=by simp [QC.beq,RQ.beq_self]
theorem CH.g1 (h:CH) (v:Value):(h.A v)[1]? = some (.string (S h.cur)):=by kernel_rfl
theorem CH.g2 (h:CH) (v:Value):(h.A v)[2]? = some (.int .i64 h.day):=by kernel_rfl
theorem CH.g3 (h:CH) (v:Value):(h.A v).extract 3 (3+66)=h.price.A:=by
 have h2:h.price.A.size=66:=RQ.A_size _
 rw [CH.A,Array.extract_append]
 have e:(#[.string (S h.src),.string (S h.cur),.int .i64 h.day]:Array Value).size=3:=rfl
 rw [e,Array.extract_append,h2]
 have e2:h.price.A.extract (3 - 3) (3+66 - 3)=h.price.A:=by
  rw [show (3+66 - 3:Nat)=h.price.A.size by omega,Nat.sub_self,Array.extract_size]
 rw [e2]
 apply Array.ext'
 simp
def upB (b:UInt8):Bool:=decide (65<=b.toNat) && decide (b.toNat<=90)
theorem GZ {l:List UInt8} {pos:Nat} (h:pos < l.length):upB (l.getD pos 0)=(decide (65<=(Utf8.decode (S l) pos).1) && decide ((Utf8.decode (S l) pos).1<=90))/\(upB (l.getD pos 0)=true->(Utf8.decode (S l) pos).2=1):=by
 have hs:pos < (S l).size:=by rw [aH];exact h
 have hg:=Jh hs h
 rcases Nat.lt_or_ge (l.getD pos 0).toNat 128 with hb | hb
 ·have:=Go.decode_ascii (S l) pos hs (by rw [hg];exact hb)
  rw [this,hg]
  exact ⟨rfl,fun _=>rfl⟩
 ·have:=(Go.decode_high (S l) pos hs (by rw [hg];exact hb)).1
  have e1:upB (l.getD pos 0)=false:=by
   unfold upB
   rw [decide_eq_false (show ¬ (l.getD pos 0).toNat<=90 by omega)];simp
  refine ⟨?_,fun h=>by rw [e1] at h;cases h⟩
  rw [e1,decide_eq_false (show ¬ (Utf8.decode (S l) pos).1<=90 by omega)];simp
theorem xd (l:List UInt8) (j:Nat):cm false l j=upB (l.getD j 0):=by
 unfold cm upB;simp
theorem H7 {l:List UInt8} {j:Nat} (hj:j < l.length) (h:upB (l.getD j 0)=false):aD l=false:=by
 unfold aD
 rw [cV hj (by rw [xd];exact h)];rfl
theorem H8 {l:List UInt8} (h:∀ j,j < l.length->upB (l.getD j 0)=true):aD l=(((l.length:Nat):Int) == 3):=by
 unfold aD
 rw [fh fun j hj=>by rw [xd];exact h j hj,Bool.true_and,Bool.eq_iff_iff]
 simp only [Bool.and_eq_true,decide_eq_true_eq,beq_iff_eq]
 omega
theorem KC (l:List UInt8):aw Tryz.prog 155 [SV.c (.string (S l))] (.bool (aD l)):=by
 refine pr (vs:=[.string (S l)]) Jc.enters fun w0=>?_
 refine aA [] ai ak Jc _ rfl [SV.c (.string (S l))] [] _ rfl rfl fun w X β hT=>?_
 refine rX rfl rfl Tryz.underlying9 300 rfl rfl trivial fun r=>?_
 refine ⟨fun q f m=>∃ pos:Nat,q=l.length - pos/\pos<=l.length/\(∀ j,j < pos->upB (l.getD j 0)=true)/\f=[(0,SV.c (.string (S l))),(6,SV.c (.pointer (some ⟨r,0,none⟩)))]/\m=[(300,Blk.res r (fun o=>o=.stringIter (S l) pos))],l.length,⟨_,_,⟨0,rfl,by omega,fun j h=>by omega,rfl,rfl⟩,⟨rfl,rfl,trivial⟩,⟨rfl,trivial⟩,rfl⟩,?_⟩
 rintro q f m ⟨pos,rfl,hp,hall,rfl,rfl⟩
 refine uV rfl 300 rfl rfl trivial (fun h4=>?_) (fun h4=>?_)
 ·rw [aH] at h4
  refine ⟨fun h=>absurd h (by decide),fun _=>?_⟩
  refine ⟨_,fun w _=>az Tryz.underlying9 w,[],[],⟨by rw [H8 fun j hj=>hall j (by omega)];rfl,rfl⟩,trivial,rfl⟩
 ·rw [aH] at h4
  obtain ⟨hR,hW⟩:=GZ (l:=l) h4
  generalize (Utf8.decode (S l) pos).1=R at *
  generalize (Utf8.decode (S l) pos).2=W at *
  have bad:¬ (65<=R/\R<=90)->∃ U σ,(Value.bool false=.bool (aD l)/\U=([]:aE))/\gb [(300,Blk.res r (fun o=>o=.stringIter (S l) (pos+W)))] (eh σ U)/\qb [] σ U=true:=fun h=>⟨[],[],⟨by rw [H7 h4 (by rw [hR];simpa using h)],rfl⟩,trivial,rfl⟩
  refine ⟨fun _=>⟨fun c1=>⟨fun c2=>bad ?_,fun c2=>?_⟩,fun c1=>⟨fun _=>bad ?_,fun h=>absurd h (by decide)⟩⟩,fun h=>absurd h (by decide)⟩
  ·have c2:=af (show decide (((R:Nat):Int) > 90)=true from c2)
   omega
  ·have c1:=ag c1
   have c2:=ag (show decide (((R:Nat):Int) > 90)=false from c2)
   have hu:upB (l.getD pos 0)=true:=by rw [hR];simp;omega
   have:=hW hu
   subst this
   exact ⟨l.length - (pos+1),_,_,by omega,⟨pos+1,rfl,by omega,fun j hj=>by
    rcases Nat.lt_or_ge j pos with h6 | h6
    ·exact hall j h6
    ·have:j=pos:=by omega
     subst this;exact hu,rfl,rfl⟩,⟨rfl,rfl,trivial⟩,⟨rfl,trivial⟩,rfl⟩
  ·have c1:=af (show decide (((R:Nat):Int) < 65)=true from c1)
   omega
theorem Dx {L:List QC} {tol:RQ} (h:∀ z∈L,z.In):(cB L tol).price.In:=by
 unfold cB
 cases e:L.find? (cH (dB L) (cd L) tol) with
 | none=>exact i4
 | some q=>exact (h q (List.mem_of_find?_eq_some e)).price
theorem qw {x y:Int} (hy:0 < y) (hg:Int.gcd x y=1) (h1:bl x.natAbs<=480) (h2:bl y.natAbs<=480):mkQ x y=(.of x y,0):=by
 have hs:sgn y=1:=by unfold sgn;rw [if_neg (by omega),if_neg (by omega)]
 have e:sgn y*((Int.gcd x y:Nat):Int)=1:=by rw [hs,hg];rfl
 unfold mkQ
 rw [if_neg (by omega),e,Int.ediv_one,Int.ediv_one,if_pos ⟨h1,h2⟩]
def o4 (r s:RQ):RQ×Int:=if r.ok && s.ok then mkQ (r.p*s.q) (r.q*s.p) else (.of 0 0,20)
def cS:RQ:=.of 1 1
theorem D5:cS.ok=true:=by decide
theorem qo:cS.In:=RQ.of_in (Nat.lt_of_lt_of_le (by decide:1 < 18446744073709551616) jR) (Nat.lt_of_lt_of_le (by decide:1 < 18446744073709551616) jR)
structure Leg (r:RQ):Prop where
 ok:r.ok=true
 p0:0 < r.p
 p1:r.p.natAbs<=1000000000000000
 q1:r.q.natAbs<=1000000000000000
theorem Leg.in_ {r:RQ} (h:Leg r):r.In:=by
 obtain ⟨k1,k2,k3,k4,k5⟩:=RQ.ok_bits h.ok
 rw [k5]
 have hp:2 ^ d7 < BB ^ 32:=qF
 have key:∀ z:Int,bl z.natAbs<=480->z.natAbs < BB ^ 32:=fun z h=>Nat.lt_trans (Nat.lt_of_lt_of_le (cW _).1 (Nat.pow_le_pow_right (j:=d7) (by omega) h)) hp
 exact RQ.of_in (key _ k1) (key _ k2)
theorem BT {r:RQ} (h:de r=true) (h0:0 < r.p):Leg r:=by
 obtain ⟨h1,h2⟩:=qg h
 exact ⟨(nZ h).1,h0,h2,by omega⟩
theorem HF {r:RQ} (h:Leg r):o4 cS r=(.of r.q r.p,0):=by
 obtain ⟨k1,k2,k3,k4,k5⟩:=RQ.ok_bits h.ok
 unfold o4
 rw [D5,h.ok,show cS.p=1 from rfl,show cS.q=1 from rfl,Int.one_mul,Int.one_mul]
 exact qw h.p0 (by rw [Int.gcd_comm];exact k4) k2 k1
theorem Hx {r:RQ} (h:Leg r):Leg (o4 cS r).1:=by
 obtain ⟨k1,k2,k3,k4,k5⟩:=RQ.ok_bits h.ok
 rw [HF h]
 refine ⟨RQ.ok_of k2 k1 h.p0 (by rw [Int.gcd_comm];exact k4),?_,?_,?_⟩
 ·show 0 < (RQ.of r.q r.p).p;rw [RQ.of_p];exact k3
 ·show (RQ.of r.q r.p).p.natAbs<=_;rw [RQ.of_p];exact h.q1
 ·show (RQ.of r.q r.p).q.natAbs<=_;rw [RQ.of_q];exact h.p1
theorem vJ {r:RQ} (h:r.ok=true):bI cS r=(r,0):=by
 obtain ⟨k1,k2,k3,k4,k5⟩:=RQ.ok_bits h
 unfold bI
 rw [D5,h,show cS.p=1 from rfl,show cS.q=1 from rfl,Int.one_mul,Int.one_mul]
 refine (qw k3 k4 k1 k2).trans ?_
 rw [<- k5]
theorem Ht {r s:RQ} (h:Leg r) (g:Leg s):∃ t,bI r s=(t,0)/\t.ok=true/\t.In/\0 < t.p/\t.p*(r.q*s.q)=r.p*s.p*t.q:=by
 have hq:=(RQ.ok_bits h.ok).2.2.1
 have gq:=(RQ.ok_bits g.ok).2.2.1
 have b1:(r.p*s.p).natAbs < 2 ^ d7:=by
  rw [Int.natAbs_mul]
  exact Nat.lt_of_le_of_lt (Nat.mul_le_mul h.p1 g.p1) (by decide +kernel)
 have b2:(r.q*s.q).natAbs < 2 ^ d7:=by
  rw [Int.natAbs_mul]
  exact Nat.lt_of_le_of_lt (Nat.mul_le_mul h.q1 g.q1) (by decide +kernel)
 have hy:0 < r.q*s.q:=Int.mul_pos hq gq
 obtain ⟨t,e,h1,h2,-,-⟩:=pv hy b1 b2
 have em:bI r s=(t,0):=by unfold bI;rw [h.ok,g.ok];exact e
 refine ⟨t,em,h1,?_,?_,h2⟩
 ·have:=fx (r.p*s.p) (r.q*s.q);rw [e] at this;exact this
 ·have tq:=(RQ.ok_bits h1).2.2.1
  have:0 < t.p*(r.q*s.q):=by rw [h2];exact Int.mul_pos (Int.mul_pos h.p0 g.p0) tq
  exact Int.pos_of_mul_pos_left this hy
def eU (xs:List QC) (p:PL) (day:Int) (cs:List (List UInt8)):Int:=if bF xs≠0 then bF xs else if aP p then (if day < 0\/day > 73048 then 50 else if cs.all aD then 0 else 160) else 150
def gZ (xs:List QC) (k:Int) (p:PL) (day:Int) (a b:List UInt8):RQ×Bool:=((cB (aZ xs k p (a++b) day) p.tol).price,decide (iV xs k p (a++b) day=0) && decide ((cB (aZ xs k p (a++b) day) p.tol).cur=b))
def gY (xs:List QC) (k:Int) (p:PL) (day:Int) (a b:List UInt8):Option RQ :=
 if (gZ xs k p day a b).2 then some (gZ xs k p day a b).1 else if (gZ xs k p day b a).2 then some (o4 cS (gZ xs k p day b a).1).1 else none
def gG (xs:List QC) (k:Int) (p:PL) (day:Int) (a b:List UInt8):Option RQ:=if a=b then none else gY xs k p day a b
def bY (xs:List QC) (k:Int) (p:PL) (day:Int) (v a b:List UInt8):RQ×Int :=
 if eU xs p day [v,a,b]≠0 then (aN,eU xs p day [v,a,b]) else if a=b then (cS,0) else
 match gY xs k p day a b with
 | some r=>(r,0)
 | none=>if v=a\/v=b then (aN,161) else match gY xs k p day a v,gY xs k p day v b with
  | some x,some y=>bI x y
  | _,_=>(aN,161)
theorem Cx {xs:List QC} {k:Int} {p:PL} {ins:List UInt8} {day:Int} {z:QC} (hz:z∈aZ xs k p ins day):de z.price=true/\0 < z.price.p:=by
 unfold aZ at hz
 split at hz
 ·obtain ⟨h1,-⟩:=s6 hz
  obtain ⟨h2,h3,h4⟩:=rP h1
  exact oO h3 h4
 ·cases hz
theorem dS {l:List UInt8} (h:aD l=true):l≠[]:=by
 rintro rfl;simp [aD] at h
theorem pD {l:List UInt8} (h:aD l=true):l.length=3:=by
 unfold aD at h
 simp only [Bool.and_eq_true,decide_eq_true_eq] at h
 omega
theorem nr {xs:List QC} {k:Int} {p:PL} {day:Int} {a b:List UInt8} (hb:b≠[]) (h:(gZ xs k p day a b).2=true):Leg (gZ xs k p day a b).1:=by
 unfold gZ at h ⊢
 simp only [Bool.and_eq_true,decide_eq_true_eq] at h
 have h2:=h.2
 show Leg (cB (aZ xs k p (a++b) day) p.tol).price
 unfold cB at h2 ⊢
 cases e:(aZ xs k p (a++b) day).find? (cH (dB (aZ xs k p (a++b) day)) (cd (aZ xs k p (a++b) day)) p.tol) with
 | none=>rw [e] at h2;exact absurd h2.symm hb
 | some q =>
  have:=Cx (List.mem_of_find?_eq_some e)
  exact BT this.1 this.2
theorem iE {xs:List QC} {k:Int} {p:PL} {day:Int} {a b:List UInt8} (ha:a≠[]) (hb:b≠[]) {r:RQ} (h:gY xs k p day a b=some r):Leg r:=by
 unfold gY at h
 split at h
 ·rename_i h1;cases h;exact nr hb h1
 ·split at h
  ·rename_i h1;cases h;exact Hx (nr ha h1)
  ·cases h
theorem tW {xs:List QC} {p:PL} {day:Int} {cs:List (List UInt8)} (h:eU xs p day cs=0):bF xs=0/\aP p=true/\0<=day/\day<=73048/\∀ c∈cs,aD c=true:=by
 unfold eU at h
 split at h
 ·rename_i h1;exact absurd h h1
 rename_i h1
 split at h
 ·rename_i h2
  split at h
  ·cases h
  ·rename_i h3
   split at h
   ·rename_i h4
    rw [List.all_eq_true] at h4
    exact ⟨by simpa using h1,h2,by omega,by omega,h4⟩
   ·cases h
 ·cases h
def eW (v vp:Value) (p:PL) (k day:Int):Array Value:=#[v]++(p.A vp++#[.int .i64 k,.int .i64 day])
theorem jk (v vp:Value) (p:PL) (k day:Int):(eW v vp p k day).size=71:=by simp [eW,PL.size]
theorem BG {v vp:Value} (p:PL) (k day:Int) (h1:v.oneCell'=true) (h2:vp.oneCell'=true):Fits (eW v vp p k day) 71:=⟨jk _ _ _ _ _,by
 rw [eW,Array.all_append,Array.all_append,(p.fits h2).one]
 simp [h1]
 exact ⟨rfl,rfl⟩⟩
theorem El (v vp:Value) (p:PL) (k day:Int):(eW v vp p k day)[0]? = some v:=by
 unfold eW
 rw [Array.getElem?_append_left (by simp)]
 rfl
theorem Ek (v vp:Value) (p:PL) (k day:Int):(eW v vp p k day).extract 1 (1+68)=p.A vp:=by
 have h:(p.A vp).size=68:=p.size vp
 unfold eW
 rw [Array.extract_append,Array.extract_append]
 simp [h]
theorem Hw (v vp:Value) (p:PL) (k day:Int):(eW v vp p k day)[69]? = some (.int .i64 k):=by
 have h:(p.A vp).size=68:=p.size vp
 unfold eW
 rw [Array.getElem?_append_right (by simp),Array.getElem?_append_right (by simp [h])]
 simp [h]
theorem zT (v vp:Value) (p:PL) (k day:Int):(eW v vp p k day)[70]? = some (.int .i64 day):=by
 have h:(p.A vp).size=68:=p.size vp
 unfold eW
 rw [Array.getElem?_append_right (by simp),Array.getElem?_append_right (by simp [h])]
 simp [h]
structure MkR (E:Env) (v vp:Value) (xs:List QC) (p:PL):Prop where
 l:Lst E v 72 xs.length (cat QC.A xs)
 n:xs.length<=1000000000000
 inn:∀ y∈xs,y.In
 s:Lst E vp 1 p.srcs.length (cat cP p.srcs)
 m:p.srcs.length<=1000000000000000
 pin:p.In
theorem MkR.of_old {E E':Env} {v vp:Value} {xs:List QC} {p:PL} (h:MkR E v vp xs p) (hT:∀ w,OldW E' w->OldW E w):MkR E' v vp xs p:=⟨h.l.of_old hT,h.n,h.inn,h.s.of_old hT,h.m,h.pin⟩
theorem Hd {E:Env} (hE:E.P=Tryz.prog) {v vp:Value} {xs:List QC} {p:PL} (h:MkR E v vp xs p) (k day:Int) {a b:List UInt8} (hab:a.length+b.length<=100):OwnC E 210 [SV.c (.agg (eW v vp p k day)),SV.c (.string (S a)),SV.c (.string (S b))] [] (fun x U=>x=.tuple #[.agg (gZ xs k p day a b).1.A,.bool (gZ xs k p day a b).2]/\U=[]):=by
 refine aA [] ai ak Om E hE [SV.c (.agg (eW v vp p k day)),SV.c (.string (S a)),SV.c (.string (S b))] [] _ rfl rfl fun w X β hT=>?_
 have hr:=h.of_old hT
 have S1:=uZ (k:=k) rfl hr.l hr.n hr.inn hr.s hr.m hr.pin (a++b) day
 rw [<- bg] at S1
 have M:=jk v vp p k day
 have M0:=El v vp p k day
 have M1:=Ek v vp p k day
 have M2:=Hw v vp p k day
 have M3:=zT v vp p k day
 have hsz:(S a).size+(S b).size<=9223372036854775807:=by rw [aH,aH];omega
 generalize eW v vp p k day=MA at *
 refine ⟨M,_,M0,by decide,_,M1,_,M2,hsz,_,M3,?_⟩
 refine .inr (.inr (.inr ⟨[],[9000],[_,_,_,_,_],[],_,S1,rfl,trivial,rfl,trivial,?_⟩))
 rintro r1 U1 ⟨s1,n1,hn1,rfl,hs1,rfl⟩
 obtain ⟨sa1,sc1,rfl⟩:=hs1.len
 refine ⟨rfl,CH.fits _,?_⟩
 have hd:gZ xs k p day a b=((cB (aZ xs k p (a++b) day) p.tol).price,decide (iV xs k p (a++b) day=0) && decide ((cB (aZ xs k p (a++b) day) p.tol).cur=b)):=rfl
 generalize cB (aZ xs k p (a++b) day) p.tol=C at *
 generalize iV xs k p (a++b) day=SE at *
 generalize gZ xs k p day a b=D at *
 subst hd
 have C1:=CH.g1 C (.slice sa1 n1 sc1)
 have C3:=CH.g3 C (.slice sa1 n1 sc1)
 have PF:=C.price.A_fits
 generalize C.A (.slice sa1 n1 sc1)=CA at *
 refine ⟨by decide,_,C3,fun c=>?_,fun c=>?_⟩
 ·have c:(SE == 0)=true:=c
  refine ⟨_,C1,PF,by kernel_rfl,?_⟩
  refine ⟨[],[],⟨?_,rfl⟩,trivial,rfl⟩
  show Value.tuple #[_,.bool ((S C.cur).toList == (S b).toList)]=_
  rw [dn,decide_eq_true (show SE=0 by simpa using c),Bool.true_and]
 ·have c:(SE == 0)=false:=c
  refine ⟨PF,by kernel_rfl,?_⟩
  refine ⟨[],[],⟨?_,rfl⟩,trivial,rfl⟩
  rw [decide_eq_false (show ¬ SE=0 by simpa using c),Bool.false_and];rfl
def D0 (o:Option RQ):Value:=.tuple #[.agg (o.getD aN).A,.bool o.isSome]
theorem JY {r s:RQ} (hr:r.In) (hs:s.In) (h1:(r.p*s.q).natAbs < BB ^ 32) (h2:(r.q*s.p).natAbs < BB ^ 32):aw Tryz.prog 254 [SV.c (.agg r.A),SV.c (.agg s.A)] (.tuple #[.agg (eA (r.p*s.q)),.agg (eA (r.q*s.p))]):=by
 refine aj ai ak ND _ _ rfl rfl fun w=>?_
 refine ⟨r.A_size,s.A_size,by decide,_,r.cat_l,by decide,_,s.cat_r,.inl ⟨_,dm hr.num hs.den h1,by decide,_,r.cat_r,by decide,_,s.cat_l,.inl ⟨_,dm hr.den hs.num h2,ao _,ao _,by kernel_rfl,rfl,trivial⟩⟩⟩
theorem JW {r s:RQ} (hr:r.In) (hs:s.In):aw Tryz.prog 211 [SV.c (.agg r.A),SV.c (.agg s.A)] (iW (o4 r s)):=by
 refine aj ai ak Ol _ _ rfl rfl fun w=>?_
 have h:=F8 (g:=254) (x:=r.p*s.q) (y:=r.q*s.p) hr hs fun h1 h2=>by
  have k1:=RQ.ok_bits h1
  have k2:=RQ.ok_bits h2
  have m1:=dh k1.1 k2.2.1
  have m2:=dh k1.2.1 k2.1
  exact ⟨JY hr hs m1 m2,m1,m2⟩
 exact ⟨r.A_size,s.A_size,.inl ⟨_,h,RQ.A_fits _,rfl,trivial⟩⟩
theorem JX {r s:RQ} (hr:r.In) (hs:s.In):aw Tryz.prog 272 [SV.c (.agg r.A),SV.c (.agg s.A)] (iW (o4 r s)):=by
 refine aj ai ak Nl _ _ rfl rfl fun w=>?_
 refine ⟨r.A_size,s.A_size,.inl ⟨_,dt hr,fun h1=>.inl ⟨_,dt hs,fun h2=>?_,fun h2=>?_⟩,fun h1=>?_⟩⟩
 ·have h2:=bnt h2
  refine ⟨bZ.zero,rfl,(RQ.of 0 0).A_fits,?_,trivial⟩
  rw [o4,h2,Bool.and_false,if_neg Bool.false_ne_true];rfl
 ·have h1:=bq h1
  have h2:=bnf h2
  have k1:=RQ.ok_bits h1
  have k2:=RQ.ok_bits h2
  have m1:=dh k1.1 k2.2.1
  have m2:=dh k1.2.1 k2.1
  refine ⟨by decide,_,r.cat_l,by decide,_,s.cat_r,.inl ⟨_,dV hr.num hs.den m1,by decide,_,r.cat_r,by decide,_,s.cat_l,.inl ⟨_,dV hr.den hs.num m2,.inl ⟨_,ol (aJ m1) (aJ m2),RQ.A_fits _,by kernel_rfl,?_,trivial⟩⟩⟩⟩
  rw [o4,h1,h2,Bool.and_true,if_pos rfl];rfl
 ·have h1:=bnt h1
  refine ⟨fun _=>⟨bZ.zero,rfl,(RQ.of 0 0).A_fits,?_,trivial⟩,nofun⟩
  rw [o4,h1,Bool.false_and,if_neg Bool.false_ne_true];rfl
theorem zG {E:Env} (hE:E.P=Tryz.prog) {v vp:Value} {xs:List QC} {p:PL} (h:MkR E v vp xs p) (k day:Int) {a b:List UInt8} (hab:a.length+b.length<=100):OwnC E 210 [SV.c (.agg (eW v vp p k day)),SV.c (.string (S a)),SV.c (.string (S b))] [] (fun x U=>x=.tuple #[.agg (gZ xs k p day a b).1.A,.bool (gZ xs k p day a b).2]/\U=[]):=Hd hE h k day hab
theorem Mn {E:Env} (hE:E.P=Tryz.prog) {v vp:Value} {xs:List QC} {p:PL} (h:MkR E v vp xs p) (_hv:v.oneCell'=true) (_hvp:vp.oneCell'=true) (k day:Int) {a b:List UInt8} (ha:aD a=true) (hb:aD b=true):OwnC E 156 [SV.c (.agg (eW v vp p k day)),SV.c (.string (S a)),SV.c (.string (S b))] [] (fun x U=>x=D0 (gG xs k p day a b)/\U=[]):=by
 refine aA [] ai ak Ph E hE [SV.c (.agg (eW v vp p k day)),SV.c (.string (S a)),SV.c (.string (S b))] [] _ rfl rfl fun w X β hT=>?_
 have hr:=h.of_old hT
 have la:=pD ha
 have lb:=pD hb
 have P1:=zG rfl hr k day (a:=a) (b:=b) (by omega)
 have P2:=zG rfl hr k day (a:=b) (b:=a) (by omega)
 have M:=jk v vp p k day
 generalize eW v vp p k day=MA at *
 have hL:gG xs k p day a b=if a=b then none else if (gZ xs k p day a b).2 then some (gZ xs k p day a b).1 else if (gZ xs k p day b a).2 then some (o4 cS (gZ xs k p day b a).1).1 else none:=rfl
 have D1:=nr (xs:=xs) (k:=k) (p:=p) (day:=day) (a:=a) (b:=b) (dS hb)
 have D2:=nr (xs:=xs) (k:=k) (p:=p) (day:=day) (a:=b) (b:=a) (dS ha)
 generalize gG xs k p day a b=LQ at *
 generalize gZ xs k p day a b=DA at *
 generalize gZ xs k p day b a=DB at *
 obtain ⟨da,ea⟩:=DA
 obtain ⟨db,eb⟩:=DB
 refine ⟨M,fun c=>?_,fun c=>?_⟩
 ·have c:=dO c
  refine ⟨_,rfl,(RQ.of 0 0).A_fits,[],[],⟨?_,rfl⟩,trivial,rfl⟩
  rw [hL,if_pos c];rfl
 ·have c:=dN c
  rw [if_neg c] at hL
  refine .inr (.inr (.inl ⟨[],[_,_,_],[],_,[],P1,rfl,trivial,rfl,rfl,da.A_fits,fun c1=>?_,fun c1=>?_⟩))
  ·have c1:ea=true:=c1
   refine ⟨da.A_fits,[],[],⟨?_,rfl⟩,trivial,rfl⟩
   rw [hL,c1];rfl
  ·have c1:ea=false:=c1
   rw [c1] at hL
   refine .inr (.inr (.inl ⟨[],[_,_,_],[],_,[],P2,rfl,trivial,rfl,rfl,db.A_fits,fun c2=>?_,fun c2=>?_⟩))
   ·have c2:(!eb)=true:=c2
    have c2:eb=false:=by simpa using c2
    rw [c2] at hL
    have hL:LQ=none:=by rw [hL];simp
    refine ⟨_,rfl,(RQ.of 0 0).A_fits,[],[],⟨?_,rfl⟩,trivial,rfl⟩
    rw [hL];rfl
   ·have c2:(!eb)=false:=c2
    have c2:eb=true:=by simpa using c2
    rw [c2] at hL
    have hL:LQ=some (o4 cS db).1:=by rw [hL];simp
    have hd:Leg db:=D2 c2
    refine .inl ⟨_,d8 (n:=1) (by decide) (by decide),.inl ⟨_,JW qo hd.in_,RQ.A_fits _,by kernel_rfl,RQ.A_fits _,[],[],⟨?_,rfl⟩,trivial,rfl⟩⟩
    rw [hL];rfl
theorem Ej {xs:List QC} {p:PL} {day:Int} {cs:List (List UInt8)} (h:bF xs≠0):eU xs p day cs=bF xs:=by unfold eU;rw [if_pos h]
theorem Ei {xs:List QC} {p:PL} {day:Int} {cs:List (List UInt8)} (h:bF xs=0) (h2:aP p=false):eU xs p day cs=150:=by
 unfold eU;rw [if_neg (fun h3=>h3 h),h2];rfl
theorem x8 {xs:List QC} {p:PL} {day:Int} {cs:List (List UInt8)} (h:bF xs=0) (h2:aP p=true) (h3:day < 0\/day > 73048):eU xs p day cs=50:=by
 unfold eU;rw [if_neg (fun h3=>h3 h),if_pos h2,if_pos h3]
theorem Eh {xs:List QC} {p:PL} {day:Int} {cs:List (List UInt8)} (h:bF xs=0) (h2:aP p=true) (h3:¬ (day < 0\/day > 73048)):eU xs p day cs=if cs.all aD then 0 else 160:=by
 unfold eU;rw [if_neg (fun h3=>h3 h),if_pos h2,if_neg h3]
theorem Gr {p:List UInt8->Bool} {cs:List (List UInt8)} (h:∀ (j:Nat) c,cs[j]? = some c->p c=true):cs.all p=true:=by
 rw [List.all_eq_true]
 intro x hx
 obtain ⟨j,hj⟩:=List.getElem?_of_mem hx
 exact h j x hj
theorem AL {p:List UInt8->Bool} {cs:List (List UInt8)} {j:Nat} {c:List UInt8} (hj:cs[j]? = some c) (h:p c=false):cs.all p=false:=by
 rw [List.all_eq_false]
 exact ⟨c,List.mem_of_getElem? hj,by rw [h];simp⟩
theorem Ie {E:Env} (hE:E.P=Tryz.prog) {v vp vc:Value} {xs:List QC} {p:PL} (h:MkR E v vp xs p) (k day:Int) {cs:List (List UInt8)} (hc:Lst E vc 1 cs.length (cat cP cs)) (hn:cs.length<=100):OwnC E 89 [SV.c (.agg (eW v vp p k day)),SV.c vc] [] (fun x U=>x=.int .i64 (eU xs p day cs)/\U=[]):=by
 refine aA [] ai ak MH E hE [SV.c (.agg (eW v vp p k day)),SV.c vc] [] _ rfl rfl fun w X β hT=>?_
 have hr:=h.of_old hT
 have hc':=hc.of_old hT
 obtain ⟨ac,capc,rfl,hcc,h4⟩:=id hc'.shape
 have C1:=ux rfl hr.l hr.n hr.inn
 have C2:=uy rfl hr.s hr.m hr.pin
 have M:=jk v vp p k day
 have M0:=El v vp p k day
 have M1:=Ek v vp p k day
 have M3:=zT v vp p k day
 generalize eW v vp p k day=MA at *
 refine ⟨M,_,M0,?_⟩
 refine .inr (.inr (.inl ⟨[],[_],[],_,[],C1,rfl,trivial,rfl,rfl,fun c=>?_,fun c=>?_⟩))
 ·have c:(bF xs != 0)=true:=c
  refine ⟨[],[],⟨?_,rfl⟩,trivial,rfl⟩
  rw [Ej (by simpa using c)];rfl
 ·have c:(bF xs != 0)=false:=c
  have c:bF xs=0:=by simpa using c
  refine ⟨by decide,_,M1,.inr (.inr (.inl ⟨[],[_],[],_,[],C2,rfl,trivial,rfl,rfl,fun c2=>?_,fun c2=>?_⟩))⟩
  ·have c2:((if aP p then (0:Int) else 150) != 0)=true:=c2
   have c2:aP p=false:=by cases e:aP p<;>simp [e] at c2 ⊢
   refine ⟨[],[],⟨?_,rfl⟩,trivial,rfl⟩
   rw [Ei c c2,c2];rfl
  ·have c2:((if aP p then (0:Int) else 150) != 0)=false:=c2
   have c2:aP p=true:=by cases e:aP p<;>simp [e] at c2 ⊢
   refine ⟨_,M3,fun d1=>?_,fun d1=>?_⟩
   ·have d1:=ag d1
    refine ⟨_,M3,fun d2=>?_,fun d2=>?_⟩
    ·have d2:=af (show decide (day > 73048)=true from d2)
     refine ⟨[],[],⟨?_,rfl⟩,trivial,rfl⟩
     rw [x8 c c2 (.inr d2)];rfl
    ·have d2:=ag (show decide (day > 73048)=false from d2)
     have hm:=Eh (cs:=cs) c c2 (day:=day) (by omega)
     refine ⟨_,fun w' _=>al Tryz.underlying27 w',?_⟩
     refine ⟨fun q f m=>∃ (i:Nat),q=cs.length - i/\i<=cs.length/\(∀ (j:Nat) c,j < i->cs[j]? = some c->aD c=true)/\f=[(29,SV.c (.slice ac cs.length capc)),(30,SV.c (.int .i64 (cs.length:Nat))),(31,SV.c (.int .i64 (i:Nat)))]/\m=[],cs.length,⟨_,_,⟨0,by omega,by omega,fun j c h=>by omega,rfl,rfl⟩,⟨rfl,rfl,rfl,trivial⟩,trivial,rfl⟩,?_⟩
     rintro q f m ⟨i,rfl,hi,hall,rfl,rfl⟩
     refine ⟨fun h=>?_,fun h=>?_⟩
     ·have h:i < cs.length:=by have:=af h;omega
      obtain ⟨b,o,rfl,h5⟩:=h4 (by omega)
      obtain ⟨y,hy⟩:∃ y,cs[i]? = some y:=⟨_,List.getElem?_eq_getElem h⟩
      have hE':VOk (aT Tryz.prog tt Tryz.f89.ntmps w X (aF [] β)):=ai
      have L1:=aW hE' h5 cD hy (j:=0) (v:=.string (S y)) rfl (ty:=9) (ti:=ti9) rfl rfl (p:=aL o ((i:Nat):Int) ti9.size) (fY o i)
      refine ⟨by omega,by omega,.inl ⟨_,L1,.inl ⟨_,KC y,fun g=>?_,fun g=>?_⟩⟩⟩
      ·have g:(!aD y)=true:=g
       refine ⟨[],[],⟨?_,rfl⟩,trivial,rfl⟩
       rw [hm,AL hy (by simpa using g)];rfl
      ·have g:(!aD y)=false:=g
       have g:aD y=true:=by simpa using g
       exact ⟨cs.length - (i+1),_,_,by omega,⟨i+1,rfl,by omega,fun j z hj hz=>by
        rcases Nat.lt_or_ge j i with h9 | h9
        ·exact hall j z h9 hz
        ·have:j=i:=by omega
         subst this;rw [hy] at hz;cases hz;exact g,rfl,rfl⟩,⟨rfl,rfl,am (ar (by omega)),trivial⟩,trivial,rfl⟩
     ·have h:i=cs.length:=by have:=ag h;omega
      subst h
      refine ⟨[],[],⟨?_,rfl⟩,trivial,rfl⟩
      rw [hm,Gr fun j z hz=>hall j z (List.getElem?_eq_some_iff.1 hz).1 hz];rfl
   ·have d1:=af (show decide (day < 0)=true from d1)
    refine ⟨fun _=>?_,fun h=>absurd h (by decide)⟩
    refine ⟨[],[],⟨?_,rfl⟩,trivial,rfl⟩
    rw [x8 c c2 (.inl d1)];rfl
theorem pE (l:List UInt8):aw Tryz.prog 59 [SV.c (.string (S l))] (.bool (aD l)):=by
 refine aj ai ak MN _ _ rfl rfl fun w=>?_
 have hx:∀ i:Nat,i < l.length->bB ((eF Tryz.prog tt Tryz.f59.ntmps w).toEnv) (Instr.index 9 (.string (S l)) (.int .i64 (i:Int))) (.int .u8 ((l.getD i 0).toNat:Nat)):=fun i h=>bL Tryz.underlying9 i rfl h
 rw [wO]
 refine ⟨_,fun w _=>az Tryz.underlying9 w,fun h=>?_,fun h=>?_⟩
 ·have h:((l.length:Int) == 3)=true:=h
  have h:(l.length:Int)=3:=by simpa using h
  rw [decide_eq_true h,Bool.true_and]
  refine ⟨_,hx 0 (by omega),.inl ⟨_,fg _,fun h0=>⟨_,hx 1 (by omega),.inl ⟨_,fg _,fun h1=>⟨_,hx 2 (by omega),.inl ⟨_,fg _,bv ?_,trivial⟩⟩,fun h1=>⟨bv ?_,trivial⟩⟩⟩,fun h0=>⟨nofun,fun _=>⟨bv ?_,trivial⟩⟩⟩⟩
  ·rw [show eZ l 0=true from h0,show eZ l 1=true from h1];rfl
  ·rw [show eZ l 0=true from h0,show eZ l 1=false from h1];rfl
  ·rw [show eZ l 0=false from h0];rfl
 ·have h:((l.length:Int) == 3)=false:=h
  have h:¬ (l.length:Int)=3:=by simpa using h
  rw [decide_eq_false h,Bool.false_and]
  refine ⟨nofun,fun _=>⟨nofun,fun _=>⟨rfl,trivial⟩⟩⟩
theorem FW {E:Env} (hE:E.P=Tryz.prog) {v vp vc:Value} {xs:List QC} {p:PL} (h:MkR E v vp xs p) (day:Int) {cs:List (List UInt8)} (hc:Lst E vc 1 cs.length (cat cP cs)) (hn:cs.length<=100):OwnC E 225 [SV.c v,SV.c (.agg (p.A vp)),SV.c (.int .i64 day),SV.c vc] [] (fun x U=>x=.int .i64 (eU xs p day cs)/\U=[]):=by
 refine aA [] ai ak I8 E hE [SV.c v,SV.c (.agg (p.A vp)),SV.c (.int .i64 day),SV.c vc] [] _ rfl rfl fun w X β hT=>?_
 have hr:=h.of_old hT
 have hc':=hc.of_old hT
 obtain ⟨ac,capc,rfl,hcc,h4⟩:=id hc'.shape
 obtain ⟨ap,capp,rfl,hcp,-⟩:=id hr.s.shape
 have C1:=q9 rfl hr.l hr.n hr.inn
 have C2:=oB rfl hr.s hr.m hr.pin rfl
 have F1:=p.size (.slice ap p.srcs.length capp)
 generalize p.A (.slice ap p.srcs.length capp)=PA at *
 refine ⟨F1,.inr (.inr (.inl ⟨[],[_],[],_,[],C1,rfl,trivial,rfl,rfl,fun c=>?_,fun c=>?_⟩))⟩
 ·have c:(bF xs != 0)=true:=c
  refine ⟨[],[],⟨?_,rfl⟩,trivial,rfl⟩
  rw [Ej (by simpa using c)];rfl
 ·have c:(bF xs != 0)=false:=c
  have c:bF xs=0:=by simpa using c
  refine .inr (.inr (.inl ⟨[],[_],[],_,[],C2,rfl,trivial,rfl,rfl,fun c2=>?_,fun c2=>?_⟩))
  ·have c2:((if aP p then (0:Int) else 150) != 0)=true:=c2
   have c2:aP p=false:=by cases e:aP p<;>simp [e] at c2 ⊢
   refine ⟨[],[],⟨?_,rfl⟩,trivial,rfl⟩
   rw [Ei c c2];rfl
  ·have c2:((if aP p then (0:Int) else 150) != 0)=false:=c2
   have c2:aP p=true:=by cases e:aP p<;>simp [e] at c2 ⊢
   refine .inl ⟨_,qk day,fun d1=>?_,fun d1=>?_⟩
   ·have d1:(decide (day < 0) || decide (day > 73048))=true:=d1
    simp only [Bool.or_eq_true,decide_eq_true_eq] at d1
    refine ⟨[],[],⟨?_,rfl⟩,trivial,rfl⟩
    rw [x8 c c2 d1];rfl
   ·have d1:(decide (day < 0) || decide (day > 73048))=false:=d1
    simp only [Bool.or_eq_false_iff,decide_eq_false_iff_not] at d1
    have hm:=Eh (cs:=cs) c c2 (day:=day) (by omega)
    refine ⟨fun q f m=>∃ (i:Nat),q=cs.length - i/\i<=cs.length/\(∀ (j:Nat) c,j < i->cs[j]? = some c->aD c=true)/\f=[(3,SV.c (.slice ac cs.length capc)),(10,SV.c (.int .i64 (i:Nat)))]/\m=[],cs.length,⟨_,_,⟨0,by omega,by omega,fun j c h=>by omega,rfl,rfl⟩,⟨rfl,rfl,trivial⟩,trivial,rfl⟩,?_⟩
    rintro q f m ⟨i,rfl,hi,hall,rfl,rfl⟩
    refine ⟨_,fun w' _=>al Tryz.underlying27 w',fun h=>?_,fun h=>?_⟩
    ·have h:i < cs.length:=by have:=af h;omega
     obtain ⟨b,o,rfl,h5⟩:=h4 (by omega)
     obtain ⟨y,hy⟩:∃ y,cs[i]? = some y:=⟨_,List.getElem?_eq_getElem h⟩
     have hE':VOk (aT Tryz.prog tt Tryz.f225.ntmps w X (aF [] β)):=ai
     have L1:=aW hE' h5 cD hy (j:=0) (v:=.string (S y)) rfl (ty:=9) (ti:=ti9) rfl rfl (p:=aL o ((i:Nat):Int) ti9.size) (fY o i)
     refine ⟨by omega,by omega,.inl ⟨_,L1,.inl ⟨_,pE y,fun g=>?_,fun g=>?_⟩⟩⟩
     ·have g:(!aD y)=true:=g
      refine ⟨[],[],⟨?_,rfl⟩,trivial,rfl⟩
      rw [hm,AL hy (by simpa using g)];rfl
     ·have g:(!aD y)=false:=g
      have g:aD y=true:=by simpa using g
      exact ⟨cs.length - (i+1),_,_,by omega,⟨i+1,rfl,by omega,fun j z hj hz=>by
       rcases Nat.lt_or_ge j i with h9 | h9
       ·exact hall j z h9 hz
       ·have:j=i:=by omega
        subst this;rw [hy] at hz;cases hz;exact g,rfl,rfl⟩,⟨rfl,am (ar (by omega)),trivial⟩,trivial,rfl⟩
    ·have h:i=cs.length:=by have:=ag h;omega
     subst h
     refine ⟨[],[],⟨?_,rfl⟩,trivial,rfl⟩
     rw [hm,Gr fun j z hz=>hall j z (List.getElem?_eq_some_iff.1 hz).1 hz];rfl
theorem D4:aw Tryz.prog 29 [] (.agg cS.A):=by
 refine aj ai ak R6 _ _ rfl rfl fun w=>?_
 exact .inl ⟨_,ky (n:=1) (by decide) (by decide),RQ.A_fits _,rfl,trivial⟩
theorem Kg {E:Env} (hE:E.P=Tryz.prog) {v vp:Value} {xs:List QC} {p:PL} (h:MkR E v vp xs p) (k day:Int) {a b:List UInt8} (ha:aD a=true) (hb:aD b=true):OwnC E 226 [SV.c v,SV.c (.agg (p.A vp)),SV.c (.int .i64 k),SV.c (.string (S a)),SV.c (.string (S b)),SV.c (.int .i64 day)] [] (fun x U=>x=D0 (gY xs k p day a b)/\U=[]):=by
 refine aA [4] ai ak N8 E hE [SV.c v,SV.c (.agg (p.A vp)),SV.c (.int .i64 k),SV.c (.string (S a)),SV.c (.string (S b)),SV.c (.int .i64 day)] [] _ rfl rfl fun w X β hT=>?_
 have hr:=h.of_old hT
 have la:=pD ha
 have lb:=pD hb
 have S1:=nQ (k:=k) rfl hr.l hr.n hr.inn hr.s hr.m hr.pin (a++b) day
 have S2:=nQ (k:=k) rfl hr.l hr.n hr.inn hr.s hr.m hr.pin (b++a) day
 rw [<- bg] at S1 S2
 have hsz:(S a).size+(S b).size<=9223372036854775807:=by rw [aH,aH];omega
 have hsz2:(S b).size+(S a).size<=9223372036854775807:=by rw [aH,aH];omega
 obtain ⟨ap,capp,rfl,hcp,-⟩:=id hr.s.shape
 have F1:=p.size (.slice ap p.srcs.length capp)
 have hL:gY xs k p day a b=if (gZ xs k p day a b).2 then some (gZ xs k p day a b).1 else if (gZ xs k p day b a).2 then some (o4 cS (gZ xs k p day b a).1).1 else none:=rfl
 have D2:=nr (xs:=xs) (k:=k) (p:=p) (day:=day) (a:=b) (b:=a) (dS ha)
 unfold gZ at hL D2
 generalize p.A (.slice ap p.srcs.length capp)=PA at *
 generalize gY xs k p day a b=LQ at *
 refine ⟨F1,hsz,?_⟩
 refine .inr (.inr (.inr ⟨[],[9000],[_,_,_,_,_],[],_,S1,rfl,trivial,rfl,trivial,?_⟩))
 rintro r1 U1 ⟨s1,n1,hn1,rfl,hs1,rfl⟩
 obtain ⟨sa1,sc1,rfl⟩:=hs1.len
 refine ⟨rfl,CH.fits _,?_⟩
 generalize cB (aZ xs k p (a++b) day) p.tol=C at *
 generalize iV xs k p (a++b) day=SE at *
 have C1:=CH.g1 C (.slice sa1 n1 sc1)
 have C3:=CH.g3 C (.slice sa1 n1 sc1)
 have PF:=C.price.A_fits
 generalize C.A (.slice sa1 n1 sc1)=CA at *
 refine ⟨fun f mm=>(decide (SE=0) && decide (C.cur=b))=false/\f=[(0,SV.c v),(2,SV.c (.int .i64 k)),(3,SV.c (.string (S a))),(4,SV.c (.string (S b))),(5,SV.c (.int .i64 day)),(7,SV.ptr 7 0),(12,SV.ptr 12 0),(14,SV.ptr 14 0)]/\mm=[(7,Blk.row 35 68 PA),(12,Blk.row 33 66 bZ.zero),(14,Blk.row 80 70 CA)],?_,?_⟩
 ·refine ⟨fun c=>?_,fun c=>?_⟩
  ·have c:(SE == 0)=true:=c
   have c:SE=0:=by simpa using c
   refine ⟨_,C1,fun d=>?_,fun d=>?_⟩
   ·have d:=dO d
    refine ⟨by decide,_,C3,PF,[],[],⟨?_,rfl⟩,trivial,rfl⟩
    rw [decide_eq_true c,decide_eq_true d,Bool.true_and,if_pos rfl] at hL
    rw [hL];rfl
   ·have d:=dN d
    exact ⟨_,_,⟨by rw [decide_eq_false d,Bool.and_false],rfl,rfl⟩,⟨rfl,rfl,rfl,rfl,rfl,rfl,rfl,rfl,trivial⟩,⟨rfl,rfl,rfl,trivial⟩,rfl⟩
  ·have c:(SE == 0)=false:=c
   have c:¬ SE=0:=by simpa using c
   refine ⟨fun d=>absurd d (by decide),fun _=>?_⟩
   exact ⟨_,_,⟨by rw [decide_eq_false c,Bool.false_and],rfl,rfl⟩,⟨rfl,rfl,rfl,rfl,rfl,rfl,rfl,rfl,trivial⟩,⟨rfl,rfl,rfl,trivial⟩,rfl⟩
 ·rintro f1 m1 ⟨hno,rfl,rfl⟩
  rw [hno,if_neg Bool.false_ne_true] at hL
  refine ⟨hsz2,?_⟩
  refine .inr (.inr (.inr ⟨[],[9000],[_,_,_,_,_],[],_,S2,rfl,trivial,rfl,trivial,?_⟩))
  rintro r1 U1 ⟨s2,n2,hn2,rfl,hs2,rfl⟩
  obtain ⟨sa2,sc2,rfl⟩:=hs2.len
  refine ⟨rfl,CH.fits _,?_⟩
  generalize cB (aZ xs k p (b++a) day) p.tol=C' at *
  generalize iV xs k p (b++a) day=SE' at *
  have C1':=CH.g1 C' (.slice sa2 n2 sc2)
  have C3':=CH.g3 C' (.slice sa2 n2 sc2)
  have PF':=C'.price.A_fits
  generalize C'.A (.slice sa2 n2 sc2)=CA' at *
  refine ⟨fun c=>?_,fun c=>?_⟩
  ·have c:(SE' == 0)=true:=c
   have c:SE'=0:=by simpa using c
   refine ⟨_,C1',fun d=>?_,fun d=>?_⟩
   ·have d:=dO d
    have hd:=D2 (by rw [decide_eq_true c,decide_eq_true d];rfl)
    rw [decide_eq_true c,decide_eq_true d,Bool.true_and,if_pos rfl] at hL
    refine .inl ⟨_,D4,by decide,_,C3',.inl ⟨_,JX qo hd.in_,RQ.A_fits _,by kernel_rfl,RQ.A_fits _,[],[],⟨?_,rfl⟩,trivial,rfl⟩⟩
    rw [hL];rfl
   ·have d:=dN d
    rw [decide_eq_false d,Bool.and_false,if_neg Bool.false_ne_true] at hL
    refine ⟨_,rfl,(RQ.of 0 0).A_fits,[],[],⟨?_,rfl⟩,trivial,rfl⟩
    rw [hL];rfl
  ·have c:(SE' == 0)=false:=c
   have c:¬ SE'=0:=by simpa using c
   rw [decide_eq_false c,Bool.false_and,if_neg Bool.false_ne_true] at hL
   refine ⟨fun d=>absurd d (by decide),fun _=>?_⟩
   refine ⟨_,rfl,(RQ.of 0 0).A_fits,[],[],⟨?_,rfl⟩,trivial,rfl⟩
   rw [hL];rfl
theorem FX {E:Env} (hE:E.P=Tryz.prog) {v vp:Value} {xs:List QC} {p:PL} (h:MkR E v vp xs p) (k day:Int) {cs:List (List UInt8)} {n:Nat} {vc:Value} (hn:n=cs.length) (hn2:n<=100):OwnC E 89 [SV.c (.agg (eW v vp p k day)),SV.c vc] [(9300,Blk.own vc 9 1 n (cat cP cs))] (fun x U=>x=.int .i64 (eU xs p day cs)/\U=[(9300,Blk.own vc 9 1 n (cat cP cs))]):=by
 subst hn
 refine (OwnC.with_own2 (k:=9300) (v:=vc) (e:=9) (sz:=1) (n:=cs.length) (A:=cat cP cs) (pre:=[]) (Q:=fun x U=>x=.int .i64 (eU xs p day cs)/\U=[]) rfl rfl (Go.SX.cat_all ft cs) (by rw [hE];exact MH.enters) (fun E0 h0 ho hl=>Ie (h0.trans hE) (h.of_old ho) k day hl hn2) (fun x U h=>by rw [h.2];rfl)).mono ?_
 rintro r U ⟨U0,⟨h1,rfl⟩,rfl⟩
 exact ⟨h1,rfl⟩
theorem Cs {E:Env} (hE:E.P=Tryz.prog) {v vp:Value} {xs:List QC} {p:PL} (h:MkR E v vp xs p) (day:Int) {cs:List (List UInt8)} {n:Nat} {vc:Value} (hn:n=cs.length) (hn2:n<=100):OwnC E 225 [SV.c v,SV.c (.agg (p.A vp)),SV.c (.int .i64 day),SV.c vc] [(9300,Blk.own vc 9 1 n (cat cP cs))] (fun x U=>x=.int .i64 (eU xs p day cs)/\U=[(9300,Blk.own vc 9 1 n (cat cP cs))]):=by
 subst hn
 refine (OwnC.with_own2 (k:=9300) (v:=vc) (e:=9) (sz:=1) (n:=cs.length) (A:=cat cP cs) (pre:=[]) (Q:=fun x U=>x=.int .i64 (eU xs p day cs)/\U=[]) rfl rfl (Go.SX.cat_all ft cs) (by rw [hE];exact I8.enters) (fun E0 h0 ho hl=>FW (h0.trans hE) (h.of_old ho) day hl hn2) (fun x U h=>by rw [h.2];rfl)).mono ?_
 rintro r U ⟨U0,⟨h1,rfl⟩,rfl⟩
 exact ⟨h1,rfl⟩
def jZ (f:List UInt8->List UInt8->Option RQ):RQ->List (List UInt8)->Option RQ
 | r,a :: b :: cs=>match f a b with
  | some s=>jZ f (bI r s).1 (b :: cs)
  | none=>none
 | r,_=>some r
theorem KR {E:Env} (hE:E.P=Tryz.prog) {v vp vc:Value} {xs:List QC} {p:PL} (h:MkR E v vp xs p) (hv:v.oneCell'=true) (hvp:vp.oneCell'=true) (k day:Int) {cs:List (List UInt8)} (hc:Lst E vc 1 cs.length (cat cP cs)) (hn:cs.length<=100) (hn1:2<=cs.length) (hok:∀ c∈cs,aD c=true):OwnC E 91 [SV.c (.agg (eW v vp p k day)),SV.c vc] [] (fun x U=>x=D0 (jZ (gG xs k p day) cS cs)/\U=[]):=by
 refine aA [] ai ak MG E hE [SV.c (.agg (eW v vp p k day)),SV.c vc] [] _ rfl rfl fun w X β hT=>?_
 have hr:=h.of_old hT
 have hc':=hc.of_old hT
 obtain ⟨ac,capc,rfl,hcc,h4⟩:=id hc'.shape
 obtain ⟨b,o,rfl,h5⟩:=h4 (by omega)
 have M:=jk v vp p k day
 have LG:=fun (a b:List UInt8) (ha:aD a=true) (hb:aD b=true)=>Mn (E:=(aT Tryz.prog tt Tryz.f91.ntmps w X (aF [] β)).toEnv) rfl hr hv hvp k day ha hb
 generalize eW v vp p k day=MA at *
 refine ⟨M,.inl ⟨_,d8 (n:=1) (by decide) (by decide),RQ.A_fits _,?_⟩⟩
 have hE':VOk (aT Tryz.prog tt Tryz.f91.ntmps w X (aF [] β)):=ai
 have S1:=u7 hE' Tryz.underlying27 (j:=ti9) rfl (a:=some ⟨b,o,none⟩) (n:=cs.length) (cap:=capc) (k:=.i64) 1 rfl (by omega)
 rw [if_neg (by omega)] at S1
 refine ⟨_,S1,_,fun w' _=>al Tryz.underlying27 w',?_⟩
 refine ⟨fun q f m=>∃ (i:Nat) (r:RQ),q=cs.length - 1 - i/\i+1<=cs.length/\r.In/\jZ (gG xs k p day) cS cs=jZ (gG xs k p day) r (cs.drop i)/\f=[(1,SV.c (.slice (some ⟨b,o,none⟩) cs.length capc)),(2,SV.ptr 2 0),(4,SV.ptr 4 0),(6,SV.ptr 6 0),(13,SV.c (.slice (some ⟨b,o+1,none⟩) (cs.length - 1) (capc - 1))),(14,SV.c (.int .i64 ((cs.length - 1:Nat):Int))),(15,SV.c (.int .i64 (i:Nat)))]/\m=[(2,Blk.row 136 71 MA),(4,Blk.row 33 66 bZ.zero),(6,Blk.row 33 66 r.A)],cs.length - 1,⟨_,_,⟨0,cS,rfl,by omega,qo,rfl,rfl,rfl⟩,⟨rfl,rfl,rfl,rfl,rfl,rfl,rfl,trivial⟩,⟨rfl,rfl,rfl,trivial⟩,rfl⟩,?_⟩
 rintro q f m ⟨i,r,rfl,hi,hrin,hway,rfl,rfl⟩
 have RF:=r.A_fits
 refine ⟨fun g=>?_,fun g=>?_⟩
 ·have g:i < cs.length - 1:=by have:=af g;omega
  obtain ⟨c,hci⟩:∃ y,cs[i]? = some y:=⟨_,List.getElem?_eq_getElem (by omega)⟩
  obtain ⟨c',hci'⟩:∃ y,cs[i+1]? = some y:=⟨_,List.getElem?_eq_getElem (by omega)⟩
  have L1:=aW hE' h5 cD hci (j:=0) (v:=.string (S c)) rfl (ty:=9) (ti:=ti9) rfl rfl (p:=aL o ((i:Nat):Int) ti9.size) (fY o i)
  have L2:=aW hE' h5 cD hci' (j:=0) (v:=.string (S c')) rfl (ty:=9) (ti:=ti9) rfl rfl (p:=aL (o+1) ((i:Nat):Int) ti9.size) (by rw [fY (o+1) i];omega)
  have hdrop:cs.drop i=c :: c' :: cs.drop (i+2):=by
   rw [iR hci,iR hci']
  have hdrop':cs.drop (i+1)=c' :: cs.drop (i+2):=by rw [iR hci']
  have hw2:jZ (gG xs k p day) cS cs=match gG xs k p day c c' with
   | some s=>jZ (gG xs k p day) (bI r s).1 (c' :: cs.drop (i+2))
   | none=>none:=by rw [hway,hdrop];rfl
  have oc:=hok c (List.mem_of_getElem? hci)
  have oc':=hok c' (List.mem_of_getElem? hci')
  have G1:=LG c c' oc oc'
  refine ⟨by omega,by omega,.inl ⟨_,L2,by omega,by omega,.inl ⟨_,L1,?_⟩⟩⟩
  cases e:gG xs k p day c c' with
  | none =>
   rw [e] at hw2 G1
   have hw2:jZ (gG xs k p day) cS cs=none:=hw2
   refine .inr (.inr (.inl ⟨[],[_,_,_],[],_,[],G1,rfl,trivial,rfl,rfl,(RQ.of 0 0).A_fits,by kernel_rfl,fun c1=>?_,fun c1=>absurd (show true=false from c1) (by decide)⟩))
   refine ⟨_,rfl,(RQ.of 0 0).A_fits,[],[],⟨?_,rfl⟩,trivial,rfl⟩
   rw [hw2];rfl
  | some s =>
   rw [e] at hw2 G1
   have hw2:jZ (gG xs k p day) cS cs=jZ (gG xs k p day) (bI r s).1 (c' :: cs.drop (i+2)):=hw2
   have hs:Leg s:=by
    unfold gG at e
    split at e
    ·cases e
    ·exact iE (dS oc) (dS oc') e
   refine .inr (.inr (.inl ⟨[],[_,_,_],[],_,[],G1,rfl,trivial,rfl,rfl,s.A_fits,by kernel_rfl,fun c1=>absurd (show false=true from c1) (by decide),fun c1=>?_⟩))
   refine .inl ⟨_,x5 hrin hs.in_,RQ.A_fits _,?_⟩
   refine ⟨cs.length - 1 - (i+1),_,_,by omega,⟨i+1,(bI r s).1,rfl,by omega,jC _ _,by rw [hdrop'];exact hw2,rfl,rfl⟩,⟨rfl,rfl,rfl,rfl,rfl,rfl,am (ar (by omega)),trivial⟩,⟨rfl,rfl,rfl,trivial⟩,rfl⟩
 ·have g:i=cs.length - 1:=by have:=ag g;omega
  subst g
  obtain ⟨c,hci⟩:∃ y,cs[cs.length - 1]? = some y:=⟨_,List.getElem?_eq_getElem (by omega)⟩
  have hd:cs.drop (cs.length - 1)=[c]:=by
   rw [iR hci,List.drop_eq_nil_of_le (by omega)]
  have hway:jZ (gG xs k p day) cS cs=some r:=by rw [hway,hd];rfl
  refine ⟨RF,[],[],⟨?_,rfl⟩,trivial,rfl⟩
  rw [hway];rfl
theorem CQ {E:Env} (hE:E.P=Tryz.prog) {v vp vc:Value} {xs:List QC} {p:PL} (h:MkR E v vp xs p) (hv:v.oneCell'=true) (hvp:vp.oneCell'=true) (k day:Int) {cs:List (List UInt8)} {n:Nat} (hcn:n=cs.length) (hn:n<=100) (hn1:2<=n) (hok:∀ c∈cs,aD c=true):OwnC E 91 [SV.c (.agg (eW v vp p k day)),SV.c vc] [(9300,Blk.own vc 9 1 n (cat cP cs))] (fun x U=>x=D0 (jZ (gG xs k p day) cS cs)/\U=[(9300,Blk.own vc 9 1 n (cat cP cs))]):=by
 subst hcn
 refine (OwnC.with_own2 (k:=9300) (v:=vc) (e:=9) (sz:=1) (n:=cs.length) (A:=cat cP cs) (pre:=[]) (Q:=fun x U=>x=D0 (jZ (gG xs k p day) cS cs)/\U=[]) rfl rfl (Go.SX.cat_all ft cs) (by rw [hE];exact MG.enters) (fun E0 h0 ho hl=>KR (h0.trans hE) (h.of_old ho) hv hvp k day hl hn hn1 hok) (fun x U h=>by rw [h.2];rfl)).mono ?_
 rintro r U ⟨U0,⟨h1,rfl⟩,rfl⟩
 exact ⟨h1,rfl⟩
theorem B8 (a b:List UInt8):Instr.fill (fun k=>some (k*ti9.size,ti9.size)) (madeCells ti9.zero (2*ti9.size)) [(0,.string (S a)),(1,.string (S b))]=some (cat cP [a,b]):=by kernel_rfl
theorem ov (a b c:List UInt8):Instr.fill (fun k=>some (k*ti9.size,ti9.size)) (madeCells ti9.zero (3*ti9.size)) [(0,.string (S a)),(1,.string (S b)),(2,.string (S c))]=some (cat cP [a,b,c]):=by kernel_rfl
theorem Ff (b:Option Addr) (n d:Nat) (a:Option Addr) (m c:Nat) (p:PL) (k day:Int) {pl:List (Nat×Nat)} (hpl:pl=[(0,1),(1,68),(69,1),(70,1)]):Instr.fill (fun k=>pl[k]?) Dg.zero [(0,.slice b n d),(1,.agg (p.A (.slice a m c))),(2,.int .i64 k),(3,.int .i64 day)]=some (eW (.slice b n d) (.slice a m c) p k day):=by
 subst hpl
 have:=nl (pl:=fun k=>[(0,1),(1,68),(69,1),(70,1)][k]?) (vs:=[.slice b n d,.agg (p.A (.slice a m c)),.int .i64 k,.int .i64 day]) (Z:=Dg.zero) ⟨by simp [Value.cells],by simp [Value.cells,PL.size],by simp [Value.cells,PL.size],by simp [Value.cells,PL.size],trivial⟩ (by simp [jM,Value.cells,PL.size];rfl)
 rw [show jM [.slice b n d,.agg (p.A (.slice a m c)),.int .i64 k,.int .i64 day]=eW (.slice b n d) (.slice a m c) p k day by simp [jM,Value.cells,eW]] at this
 exact this
theorem Jp {f:List UInt8->List UInt8->Option RQ} {a b:List UInt8} (hok:∀ r,f a b=some r->r.ok=true):jZ f cS [a,b]=f a b:=by
 show (match f a b with | some s=>some (bI cS s).1 | none=>none)=_
 cases e:f a b with
 | none=>rfl
 | some s=>show some (bI cS s).1=_;rw [vJ (hok s e)]
theorem Jo {f:List UInt8->List UInt8->Option RQ} {a b c:List UInt8} (hok:∀ r,f a b=some r->r.ok=true):jZ f cS [a,b,c]=match f a b,f b c with
    | some x,some y=>some (bI x y).1
    | _,_=>none:=by
 show (match f a b with | some s=>(match f b c with | some t=>some (bI (bI cS s).1 t).1 | none=>none) | none=>none)=_
 cases e:f a b with
 | none=>rfl
 | some s =>
  show (match f b c with | some t=>some (bI (bI cS s).1 t).1 | none=>none)=_
  rw [vJ (hok s e)]
  cases f b c<;>rfl
theorem z6 {xs:List QC} {k:Int} {p:PL} {day:Int} {a b:List UInt8} (ha:aD a=true) (hb:aD b=true) {r:RQ} (h:gG xs k p day a b=some r):Leg r:=by
 unfold gG at h
 split at h
 ·cases h
 ·exact iE (dS ha) (dS hb) h
theorem t7 {xs:List QC} {k:Int} {p:PL} {day:Int} {a b:List UInt8} (h:a≠b):gG xs k p day a b=gY xs k p day a b:=by unfold gG;rw [if_neg h]
theorem zF {xs:List QC} {k:Int} {p:PL} {day:Int} {v a b:List UInt8} (h:eU xs p day [v,a,b]≠0):bY xs k p day v a b=(aN,eU xs p day [v,a,b]):=by unfold bY;rw [if_pos h]
theorem tH {xs:List QC} {k:Int} {p:PL} {day:Int} {v a b:List UInt8} (h:eU xs p day [v,a,b]=0) (h2:a=b):bY xs k p day v a b=(cS,0):=by unfold bY;rw [if_neg (fun g=>g h),if_pos h2]
theorem zE {xs:List QC} {k:Int} {p:PL} {day:Int} {v a b:List UInt8} (h:eU xs p day [v,a,b]=0) (h2:a≠b) {r:RQ} (h3:gY xs k p day a b=some r):bY xs k p day v a b=(r,0):=by unfold bY;rw [if_neg (fun g=>g h),if_neg h2,h3]
theorem pq {xs:List QC} {k:Int} {p:PL} {day:Int} {v a b:List UInt8} (h:eU xs p day [v,a,b]=0) (h2:a≠b) (h3:gY xs k p day a b=none) (h4:v=a\/v=b):bY xs k p day v a b=(aN,161):=by unfold bY;rw [if_neg (fun g=>g h),if_neg h2,h3];simp only [];rw [if_pos h4]
theorem zD {xs:List QC} {k:Int} {p:PL} {day:Int} {v a b:List UInt8} (h:eU xs p day [v,a,b]=0) (h2:a≠b) (h3:gY xs k p day a b=none) (h4:¬ (v=a\/v=b)):bY xs k p day v a b=(match gY xs k p day a v,gY xs k p day v b with
    | some x,some y=>bI x y
    | _,_=>(aN,161)):=by unfold bY;rw [if_neg (fun g=>g h),if_neg h2,h3];simp only [];exact if_neg h4
theorem kU (n:Int):cT [.agg bZ.zero,.int .i64 n]=iW (aN,n):=by kernel_rfl
theorem KP {E:Env} (hE:E.P=Tryz.prog) {v vp:Value} {xs:List QC} {p:PL} (h:MkR E v vp xs p) (k day:Int) {u a b:List UInt8}:OwnC E 34 [SV.c v,SV.c (.agg (p.A vp)),SV.c (.int .i64 k),SV.c (.string (S u)),SV.c (.string (S a)),SV.c (.string (S b)),SV.c (.int .i64 day)] [] (fun x U=>x=iW (bY xs k p day u a b)/\U=[]):=by
 refine aA [] ai ak R3 E hE [SV.c v,SV.c (.agg (p.A vp)),SV.c (.int .i64 k),SV.c (.string (S u)),SV.c (.string (S a)),SV.c (.string (S b)),SV.c (.int .i64 day)] [] _ rfl rfl fun w X β hT=>?_
 have hr:=h.of_old hT
 obtain ⟨ap,capp,rfl,hcp,-⟩:=id hr.s.shape
 obtain ⟨av,capv,rfl,hcv,-⟩:=id hr.l.shape
 have F1:=p.size (.slice ap p.srcs.length capp)
 have FM:=Ff av xs.length capv ap p.srcs.length capp p k day (pl:=[(0,1),(1,68),(69,1),(70,1)]) rfl
 have MF:=BG (v:=.slice av xs.length capv) (vp:=.slice ap p.srcs.length capp) p k day rfl rfl
 have CK:=fun (g:Nat)=>FX (E:=(aT Tryz.prog tt Tryz.f34.ntmps w X (aF [] β)).toEnv) rfl hr k day (cs:=[u,a,b]) (n:=3) (vc:=.slice (some ⟨g,0,none⟩) 3 3) rfl (by decide)
 have W2:=fun (g:Nat) hok=>CQ (E:=(aT Tryz.prog tt Tryz.f34.ntmps w X (aF [] β)).toEnv) rfl hr rfl rfl k day (cs:=[a,b]) (n:=2) (vc:=.slice (some ⟨g,0,none⟩) 2 2) rfl (by decide) (by decide) hok
 have W3:=fun (g:Nat) hok=>CQ (E:=(aT Tryz.prog tt Tryz.f34.ntmps w X (aF [] β)).toEnv) rfl hr rfl rfl k day (cs:=[a,u,b]) (n:=3) (vc:=.slice (some ⟨g,0,none⟩) 3 3) rfl (by decide) (by decide) hok
 generalize eW (.slice av xs.length capv) (.slice ap p.srcs.length capp) p k day=MA at *
 generalize p.A (.slice ap p.srcs.length capp)=PA at *
 refine ⟨F1,MA,FM,MF,?_⟩
 refine .inr ⟨by decide,by decide,by decide,_,ov u a b,rfl,trivial,fun g=>?_⟩
 refine .inr (.inr (.inl ⟨[(9300,31)],[_,_],[_],_,[_],CK g,rfl,⟨.inl rfl,trivial⟩,rfl,rfl,fun c=>?_,fun c=>?_⟩))
 ·have c:(eU xs p day [u,a,b] != 0)=true:=c
  refine ⟨_,rfl,(RQ.of 0 0).A_fits,[],[],⟨?_,rfl⟩,trivial,rfl⟩
  rw [zF (by simpa using c)];exact kU _
 ·have c:(eU xs p day [u,a,b] != 0)=false:=c
  have c:eU xs p day [u,a,b]=0:=by simpa using c
  obtain ⟨-,-,-,-,hall⟩:=tW c
  have hu:=hall u (by simp)
  have ha:=hall a (by simp)
  have hb:=hall b (by simp)
  refine ⟨fun d=>?_,fun d=>?_⟩
  ·have d:=dO d
   refine .inl ⟨_,d8 (n:=1) (by decide) (by decide),RQ.A_fits _,[],[],⟨?_,rfl⟩,trivial,rfl⟩
   rw [tH c d];rfl
  ·have d:=dN d
   refine .inr ⟨by decide,by decide,by decide,_,B8 a b,rfl,trivial,fun g2=>?_⟩
   have G2:=W2 g2 (by intro z hz;simp at hz;rcases hz with rfl | rfl;exact ha;exact hb)
   rw [Jp (fun r hr=>(z6 ha hb hr).ok),t7 d] at G2
   cases e:gY xs k p day a b with
   | some r =>
    rw [e] at G2
    refine .inr (.inr (.inl ⟨[(9300,45)],[_,_],[_],_,[_],G2,rfl,⟨.inl rfl,trivial⟩,rfl,rfl,RQ.A_fits _,fun c1=>?_,fun c1=>absurd (show true=false from c1) (by decide)⟩))
    refine ⟨RQ.A_fits _,[],[],⟨?_,rfl⟩,trivial,rfl⟩
    rw [zE c d e];rfl
   | none =>
    rw [e] at G2
    refine .inr (.inr (.inl ⟨[(9300,45)],[_,_],[_],_,[_],G2,rfl,⟨.inl rfl,trivial⟩,rfl,rfl,RQ.A_fits _,fun c1=>absurd (show false=true from c1) (by decide),fun c1=>?_⟩))
    refine ⟨fun z1=>?_,fun z1=>?_⟩
    ·have z1:(!((S u).toList == (S a).toList))=true:=z1
     have z1:u≠a:=dN (by simpa using z1)
     refine ⟨fun z2=>?_,fun z2=>?_⟩
     ·have z2:(!((S u).toList == (S b).toList))=true:=z2
      have z2:u≠b:=dN (by simpa using z2)
      have hq:=zD c d e (by rintro (h | h);exact z1 h;exact z2 h)
      refine .inr ⟨by decide,by decide,by decide,_,ov a u b,rfl,trivial,fun g3=>?_⟩
      have G3:=W3 g3 (by intro z hz;simp at hz;rcases hz with rfl | rfl | rfl;exact ha;exact hu;exact hb)
      have W:=Jo (f:=gG xs k p day) (a:=a) (b:=u) (c:=b) (fun r hr=>(z6 ha hu hr).ok)
      rw [t7 (fun h=>z1 h.symm),t7 z2] at W
      cases e1:gY xs k p day a u with
      | none =>
       rw [e1] at W hq
       have W:jZ (gG xs k p day) cS [a,u,b]=none:=W
       rw [W] at G3
       have hq:bY xs k p day u a b=(aN,161):=hq
       refine .inr (.inr (.inl ⟨[(9300,64)],[_,_],[_],_,[_],G3,rfl,⟨.inl rfl,trivial⟩,rfl,rfl,RQ.A_fits _,fun c1=>absurd (show false=true from c1) (by decide),fun _=>?_⟩))
       refine ⟨_,rfl,(RQ.of 0 0).A_fits,[],[],⟨?_,rfl⟩,trivial,rfl⟩
       rw [hq];exact kU _
      | some x =>
       cases e2:gY xs k p day u b with
       | none =>
        rw [e1,e2] at W hq
        have W:jZ (gG xs k p day) cS [a,u,b]=none:=W
        rw [W] at G3
        have hq:bY xs k p day u a b=(aN,161):=hq
        refine .inr (.inr (.inl ⟨[(9300,64)],[_,_],[_],_,[_],G3,rfl,⟨.inl rfl,trivial⟩,rfl,rfl,RQ.A_fits _,fun c1=>absurd (show false=true from c1) (by decide),fun _=>?_⟩))
        refine ⟨_,rfl,(RQ.of 0 0).A_fits,[],[],⟨?_,rfl⟩,trivial,rfl⟩
        rw [hq];exact kU _
       | some y =>
        rw [e1,e2] at W hq
        have W:jZ (gG xs k p day) cS [a,u,b]=some (bI x y).1:=W
        have hq:bY xs k p day u a b=bI x y:=hq
        have lx:=iE (dS ha) (dS hu) e1
        have ly:=iE (dS hu) (dS hb) e2
        obtain ⟨t,m1,-,-,-,-⟩:=Ht lx ly
        rw [m1] at W hq
        rw [W] at G3
        refine .inr (.inr (.inl ⟨[(9300,64)],[_,_],[_],_,[_],G3,rfl,⟨.inl rfl,trivial⟩,rfl,rfl,RQ.A_fits _,fun _=>?_,fun c1=>absurd (show true=false from c1) (by decide)⟩))
        refine ⟨RQ.A_fits _,[],[],⟨?_,rfl⟩,trivial,rfl⟩
        rw [hq];rfl
     ·have z2:(!((S u).toList == (S b).toList))=false:=z2
      have z2:u=b:=dO (by simpa using z2)
      refine ⟨_,rfl,(RQ.of 0 0).A_fits,[],[],⟨?_,rfl⟩,trivial,rfl⟩
      rw [pq c d e (.inr z2)];exact kU _
    ·have z1:(!((S u).toList == (S a).toList))=false:=z1
     have z1:u=a:=dO (by simpa using z1)
     refine ⟨fun h=>absurd h (by decide),fun _=>?_⟩
     refine ⟨_,rfl,(RQ.of 0 0).A_fits,[],[],⟨?_,rfl⟩,trivial,rfl⟩
     rw [pq c d e (.inl z1)];exact kU _
theorem of_ok {n:Int} (hn:Bd 60 n):(RQ.of n 1).ok=true:=by
 rw [Mk hn]
 obtain ⟨r,e1,e2,e3,e4,e5⟩:=IS (y:=1) (by decide) hn (show Bd 1 1 from by unfold Bd;decide)
 rw [e1];exact e2
theorem KO {E:Env} (hE:E.P=Tryz.prog) {v vp:Value} {xs:List QC} {p:PL} (h:MkR E v vp xs p) (k day:Int) {u a b:List UInt8}:OwnC E 171 [SV.c v,SV.c (.agg (p.A vp)),SV.c (.int .i64 k),SV.c (.string (S u)),SV.c (.string (S a)),SV.c (.string (S b)),SV.c (.int .i64 day)] [] (fun x U=>x=iW (bY xs k p day u a b)/\U=[]):=by
 refine aA [] ai ak OZ E hE [SV.c v,SV.c (.agg (p.A vp)),SV.c (.int .i64 k),SV.c (.string (S u)),SV.c (.string (S a)),SV.c (.string (S b)),SV.c (.int .i64 day)] [] _ rfl rfl fun w X β hT=>?_
 have hr:=h.of_old hT
 obtain ⟨ap,capp,rfl,hcp,-⟩:=id hr.s.shape
 have F1:=p.size (.slice ap p.srcs.length capp)
 have CK:=fun (g:Nat)=>Cs (E:=(aT Tryz.prog tt Tryz.f171.ntmps w X (aF [] β)).toEnv) rfl hr day (cs:=[u,a,b]) (n:=3) (vc:=.slice (some ⟨g,0,none⟩) 3 3) rfl (by decide)
 have LG:=fun a b ha hb=>Kg (E:=(aT Tryz.prog tt Tryz.f171.ntmps w X (aF [] β)).toEnv) rfl hr k day (a:=a) (b:=b) ha hb
 generalize p.A (.slice ap p.srcs.length capp)=PA at *
 refine ⟨F1,?_⟩
 refine .inr ⟨by decide,by decide,by decide,_,ov u a b,rfl,trivial,fun g=>?_⟩
 refine .inr (.inr (.inl ⟨[(9300,29)],[_,_,_,_],[_],_,[_],CK g,rfl,⟨.inl rfl,trivial⟩,rfl,rfl,fun c=>?_,fun c=>?_⟩))
 ·have c:(eU xs p day [u,a,b] != 0)=true:=c
  refine ⟨_,rfl,(RQ.of 0 0).A_fits,[],[],⟨?_,rfl⟩,trivial,rfl⟩
  rw [zF (by simpa using c)];exact kU _
 ·have c:(eU xs p day [u,a,b] != 0)=false:=c
  have c:eU xs p day [u,a,b]=0:=by simpa using c
  obtain ⟨-,-,-,-,hall⟩:=tW c
  have hu:=hall u (by simp)
  have ha:=hall a (by simp)
  have hb:=hall b (by simp)
  refine ⟨fun d=>?_,fun d=>?_⟩
  ·have d:=dO d
   refine .inl ⟨_,D4,RQ.A_fits _,[],[],⟨?_,rfl⟩,trivial,rfl⟩
   rw [tH c d];rfl
  ·have d:=dN d
   have G1:=LG a b ha hb
   cases e:gY xs k p day a b with
   | some r =>
    rw [e] at G1
    refine .inr (.inr (.inl ⟨[],[_,_,_,_,_,_],[],_,[],G1,rfl,trivial,rfl,rfl,RQ.A_fits _,fun _=>?_,fun c1=>absurd (show true=false from c1) (by decide)⟩))
    refine ⟨RQ.A_fits _,[],[],⟨?_,rfl⟩,trivial,rfl⟩
    rw [zE c d e];rfl
   | none =>
    rw [e] at G1
    refine .inr (.inr (.inl ⟨[],[_,_,_,_,_,_],[],_,[],G1,rfl,trivial,rfl,rfl,RQ.A_fits _,fun c1=>absurd (show false=true from c1) (by decide),fun _=>?_⟩))
    refine ⟨fun z1=>?_,fun z1=>?_⟩
    ·have z1:=dN z1
     refine ⟨fun z2=>?_,fun z2=>?_⟩
     ·have z2:u=b:=dO z2
      refine ⟨_,rfl,(RQ.of 0 0).A_fits,[],[],⟨?_,rfl⟩,trivial,rfl⟩
      rw [pq c d e (.inr z2)];exact kU _
     ·have z2:u≠b:=dN z2
      have hq:=zD c d e (by rintro (h | h);exact z1 h;exact z2 h)
      have G2:=LG a u ha hu
      have G3:=LG u b hu hb
      cases e1:gY xs k p day a u with
      | none =>
       rw [e1] at G2 hq
       have hq:bY xs k p day u a b=(aN,161):=hq
       refine .inr (.inr (.inl ⟨[],[_,_,_,_,_,_],[],_,[],G2,rfl,trivial,rfl,rfl,RQ.A_fits _,?_⟩))
       refine .inr (.inr (.inl ⟨[],[_,_,_,_,_,_],[],_,[],G3,rfl,trivial,rfl,rfl,RQ.A_fits _,?_⟩))
       refine ⟨fun c1=>absurd (show true=false from c1) (by decide),fun _=>⟨fun _=>?_,fun c1=>absurd (show true=false from c1) (by decide)⟩⟩
       refine ⟨_,rfl,(RQ.of 0 0).A_fits,[],[],⟨?_,rfl⟩,trivial,rfl⟩
       rw [hq];exact kU _
      | some x =>
       rw [e1] at G2
       have lx:=iE (dS ha) (dS hu) e1
       refine .inr (.inr (.inl ⟨[],[_,_,_,_,_,_],[],_,[],G2,rfl,trivial,rfl,rfl,RQ.A_fits _,?_⟩))
       cases e2:gY xs k p day u b with
       | none =>
        rw [e1,e2] at hq
        rw [e2] at G3
        have hq:bY xs k p day u a b=(aN,161):=hq
        refine .inr (.inr (.inl ⟨[],[_,_,_,_,_,_],[],_,[],G3,rfl,trivial,rfl,rfl,RQ.A_fits _,?_⟩))
        refine ⟨fun _=>⟨fun _=>?_,fun c1=>absurd (show true=false from c1) (by decide)⟩,fun c1=>absurd (show false=true from c1) (by decide)⟩
        refine ⟨_,rfl,(RQ.of 0 0).A_fits,[],[],⟨?_,rfl⟩,trivial,rfl⟩
        rw [hq];exact kU _
       | some y =>
        rw [e1,e2] at hq
        rw [e2] at G3
        have hq:bY xs k p day u a b=bI x y:=hq
        have ly:=iE (dS hu) (dS hb) e2
        refine .inr (.inr (.inl ⟨[],[_,_,_,_,_,_],[],_,[],G3,rfl,trivial,rfl,rfl,RQ.A_fits _,?_⟩))
        refine ⟨fun _=>⟨fun c1=>absurd (show false=true from c1) (by decide),fun _=>?_⟩,fun c1=>absurd (show false=true from c1) (by decide)⟩
        refine .inl ⟨_,x6 lx.in_ ly.in_,RQ.A_fits _,[],[],⟨?_,rfl⟩,trivial,rfl⟩
        rw [hq];rfl
    ·have z1:=dO z1
     refine ⟨fun _=>?_,fun h=>absurd h (by decide)⟩
     refine ⟨_,rfl,(RQ.of 0 0).A_fits,[],[],⟨?_,rfl⟩,trivial,rfl⟩
     rw [pq c d e (.inl z1)];exact kU _
end Go.Proofs.YtklehfchdoikeaaGreatDoor
