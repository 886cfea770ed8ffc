/- chapter 20: given prices, the document. chapter 20: amounts of lines. chapter 20: checks, the program. chapter 20: checks, the document. chapter 20: lines as they lie. chapter 20: lines, the program. chapter 20: items. chapter 20: sheets, plain. chapter 20: what items give, plain; no condition. -/
import Derived.Test.YtofllflnmmjijaaGreatDoorP34
set_option maxRecDepth 100000
set_option maxHeartbeats 4000000
namespace Go.Proofs.YtofllflnmmjijaaGreatDoor
open Go Go.RowKit Go.SX
section
variable {α:Type} {g:α→Array Value} {s:Nat}
end
theorem off_at (o i s:Nat) (hs:s≠1):offAt o ((i:Nat):Int) s=o+i*s:=by
 unfold offAt
 split
 ·exact absurd rfl hs
 ·rfl
end Go.Proofs.YtofllflnmmjijaaGreatDoor
namespace Go.Proofs.YtofllflnmmjijaaGreatDoor
open Go Go.RowKit Go.SX
theorem hp1020:2 ^ e960*2 ^ 60 < BB ^ 32:=by decide +kernel
theorem amt_fit {p r:RQ} (hp:p.ok=true) (hr:r.ok=true) {n:Int} (hn : -1000000000000000≤n∧n≤1000000000000000):(p.p*r.p).natAbs < BB ^ 32∧(p.p*r.p*n).natAbs < BB ^ 32∧(p.q*r.q).natAbs < BB ^ 32:=by
 have k1:=RQ.ok_bits hp
 have k2:=RQ.ok_bits hr
 refine ⟨mul_lt' k1.1 k2.1,?_,mul_lt' k1.2.1 k2.2.1⟩
 have h1:=bits_mul k1.1 k2.1
 rw [Int.natAbs_mul]
 refine Nat.lt_of_le_of_lt (Nat.mul_le_mul (Nat.le_of_lt h1) (show n.natAbs≤2 ^ 60 by omega)) hp1020
theorem amtQ_1 {n:Int} {p r:RQ} (h:¬ (-1000000000000000≤n∧n≤1000000000000000)):amtQ n p r=(0,33):=by unfold amtQ;rw [if_pos (by omega)]
theorem amtQ_2 {n:Int} {p r:RQ} (h : -1000000000000000≤n∧n≤1000000000000000) (h2:(p.ok && r.ok)=false):amtQ n p r=(0,20):=by unfold amtQ;rw [if_neg (by omega),h2];rfl
theorem amtQ_3 {n:Int} {p r:RQ} (h : -1000000000000000≤n∧n≤1000000000000000) (h2:(p.ok && r.ok)=true) (h3:(mkQ (p.p*r.p*n) (p.q*r.q)).2≠0):amtQ n p r=(0,(mkQ (p.p*r.p*n) (p.q*r.q)).2):=by unfold amtQ;rw [if_neg (by omega),if_pos h2,if_pos h3]
theorem amtQ_4 {n:Int} {p r:RQ} (h : -1000000000000000≤n∧n≤1000000000000000) (h2:(p.ok && r.ok)=true) (h3:(mkQ (p.p*r.p*n) (p.q*r.q)).2=0):amtQ n p r=rndI (rndQ (mkQ (p.p*r.p*n) (p.q*r.q)).1 2 6):=by unfold amtQ;rw [if_neg (by omega),if_pos h2,if_neg (fun g=>g h3)]
theorem amount_v {n:Int} {p r:RQ} (hn : -9223372036854775808≤n∧n≤9223372036854775807) (hp:p.In) (hr:r.In):Pure Tryz.prog 12 [SV.c (.int .i64 n),SV.c (.agg p.A),SV.c (.agg r.A)] (resI (amtQ n p r)):=by
 refine sx_pure tt_ok mixed at12 _ _ rfl rfl fun w=>?_
 have D1:=within_v n (-1000000000000000) 1000000000000000
 have V1:=valid_raw hp
 have V2:=valid_raw hr
 have P0:=p.cat_l
 have P1:=p.cat_r
 have R0:=r.cat_l
 have R1:=r.cat_r
 have PS:=p.A_size
 have RS:=r.A_size
 have q1:=amtQ_1 (n:=n) (p:=p) (r:=r)
 have q2:=amtQ_2 (n:=n) (p:=p) (r:=r)
 have q3:=amtQ_3 (n:=n) (p:=p) (r:=r)
 have q4:=amtQ_4 (n:=n) (p:=p) (r:=r)
 generalize amtQ n p r=AQ at *
 refine ⟨PS,RS,.inl ⟨_,D1,fun c=>?_,fun c=>?_⟩⟩
 ·have c:=bnot_t c
  have hno:¬ (-1000000000000000≤n∧n≤1000000000000000):=fun h=>by
   unfold inB at c
   rw [decide_eq_true h.1,decide_eq_true h.2] at c;cases c
  exact ⟨by rw [q1 hno];rfl,trivial⟩
 ·have c:=bnot_f c
  have h0 : -1000000000000000≤n∧n≤1000000000000000:=by
   unfold inB at c
   simp only [Bool.and_eq_true,decide_eq_true_eq] at c
   exact c
  refine .inl ⟨_,V1,fun c1=>.inl ⟨_,V2,fun c2=>?_,fun c2=>?_⟩,fun c1=>?_⟩
  ·have c1:p.ok=true:=of_bnf c1
   have c2:r.ok=false:=bnot_t c2
   exact ⟨by rw [q2 h0 (by rw [c1,c2];rfl)];rfl,trivial⟩
  ·have c1:p.ok=true:=of_bnf c1
   have c2:r.ok=true:=bnot_f c2
   obtain ⟨f1,f2,f3⟩:=amt_fit c1 c2 h0
   have F1:=product_v hp.num hr.num f1
   have F2:=fromInt_z n hn.1 hn.2
   have F3:=product_v (isI_e f1) (isI_e (z:=n) (i64_lt hn.1 hn.2)) f2
   have F4:=product_v hp.den hr.den f3
   have M1:=make_z (isI_e f2) (isI_e f3)
   have q3:=q3 h0 (by rw [c1,c2];rfl)
   have q4:=q4 h0 (by rw [c1,c2];rfl)
   have hin:=mkQ_in (p.p*r.p*n) (p.q*r.q)
   have MF:=(mkQ (p.p*r.p*n) (p.q*r.q)).1.A_fits
   have RI:=roundInt_z hin 2 6
   generalize mkQ (p.p*r.p*n) (p.q*r.q)=MQ at *
   obtain ⟨m,e⟩:=MQ
   refine ⟨by decide,_,P0,by decide,_,R0,.inl ⟨_,F1,.inl ⟨_,F2,.inl ⟨_,F3,by decide,_,P1,by decide,_,R1,.inl ⟨_,F4,.inl ⟨_,M1,MF,by kernel_rfl,fun c3=>?_,fun c3=>?_⟩⟩⟩⟩⟩⟩
   ·have c3:(e != 0)=true:=c3
    exact ⟨by rw [q3 (by simpa using c3)];rfl,trivial⟩
   ·have c3:(e != 0)=false:=c3
    refine .inl ⟨_,RI,by rw [q4 (by simpa using c3)];rfl,trivial⟩
  ·have c1:p.ok=false:=bnt c1
   exact ⟨fun _=>⟨by rw [q2 h0 (by rw [c1];rfl)];rfl,trivial⟩,fun h=>absurd h (by decide)⟩
theorem amount_r {n:Int} {p r:RQ} (hn : -9223372036854775808≤n∧n≤9223372036854775807) (hp:p.In) (hr:r.In):Pure Tryz.prog 13 [SV.c (.int .i64 n),SV.c (.agg p.A),SV.c (.agg r.A)] (resI (amtQ n p r)):=by
 refine sx_pure tt_ok mixed at13 _ _ rfl rfl fun w=>?_
 have V1:=valid_r hp
 have V2:=valid_r hr
 have P0:=p.cat_l
 have P1:=p.cat_r
 have R0:=r.cat_l
 have R1:=r.cat_r
 have PS:=p.A_size
 have RS:=r.A_size
 have q1:=amtQ_1 (n:=n) (p:=p) (r:=r)
 have q2:=amtQ_2 (n:=n) (p:=p) (r:=r)
 have q3:=amtQ_3 (n:=n) (p:=p) (r:=r)
 have q4:=amtQ_4 (n:=n) (p:=p) (r:=r)
 generalize amtQ n p r=AQ at *
 refine ⟨PS,RS,fun c=>⟨fun c'=>?_,fun c'=>?_⟩,fun c=>?_⟩
 ·have c':=of_decide_eq_true (show decide (n < -1000000000000000)=true from c')
  exact ⟨by rw [q1 (by omega)];rfl,trivial⟩
 ·have c:=of_decide_eq_false (show decide (n > 1000000000000000)=false from c)
  have c':=of_decide_eq_false (show decide (n < -1000000000000000)=false from c')
  have h0 : -1000000000000000≤n∧n≤1000000000000000:=by omega
  refine .inl ⟨_,V1,fun c1=>.inl ⟨_,V2,fun c2=>?_,fun c2=>?_⟩,fun c1=>?_⟩
  ·have c1:p.ok=true:=of_bnf c1
   have c2:r.ok=false:=bnot_t c2
   exact ⟨by rw [q2 h0 (by rw [c1,c2];rfl)];rfl,trivial⟩
  ·have c1:p.ok=true:=of_bnf c1
   have c2:r.ok=true:=bnot_f c2
   obtain ⟨f1,f2,f3⟩:=amt_fit c1 c2 h0
   have F1:=mul_r hp.num hr.num
   rw [fitR,if_pos f1] at F1
   have F2:=fromInt_r n hn.1 hn.2
   have F3:=mul_r (isI_e f1) (isI_e (z:=n) (i64_lt hn.1 hn.2))
   rw [fitR,if_pos f2] at F3
   have F4:=mul_r hp.den hr.den
   rw [fitR,if_pos f3] at F4
   have M1:=make_r (isI_e f2) (isI_e f3)
   have q3:=q3 h0 (by rw [c1,c2];rfl)
   have q4:=q4 h0 (by rw [c1,c2];rfl)
   have hin:=mkQ_in (p.p*r.p*n) (p.q*r.q)
   have MF:=(mkQ (p.p*r.p*n) (p.q*r.q)).1.A_fits
   have RI:=roundInt_r hin 2 6
   have E1:=eA_fits (p.p*r.p)
   have E2:=eA_fits (p.p*r.p*n)
   have E3:=eA_fits (p.q*r.q)
   generalize mkQ (p.p*r.p*n) (p.q*r.q)=MQ at *
   obtain ⟨m,e⟩:=MQ
   refine ⟨by decide,_,P0,by decide,_,R0,.inl ⟨_,F1,E1,.inl ⟨_,F2,.inl ⟨_,F3,E2,by kernel_rfl,by decide,_,P1,by decide,_,R1,.inl ⟨_,F4,E3,.inl ⟨_,M1,MF,fun c3=>?_,fun c3=>?_⟩⟩⟩⟩⟩⟩
   ·have c3:(e != 0)=true:=c3
    exact ⟨by rw [q3 (by simpa using c3)];rfl,trivial⟩
   ·have c3:(e != 0)=false:=c3
    refine .inl ⟨_,RI,by rw [q4 (by simpa using c3)];rfl,trivial⟩
  ·have c1:p.ok=false:=bnt c1
   exact ⟨fun _=>⟨by rw [q2 h0 (by rw [c1];rfl)];rfl,trivial⟩,fun h=>absurd h (by decide)⟩
 ·have c:=of_decide_eq_true (show decide (n > 1000000000000000)=true from c)
  exact ⟨fun _=>⟨by rw [q1 (by omega)];rfl,trivial⟩,fun h=>absurd h (by decide)⟩
theorem cent_v:Pure Tryz.prog 324 [] (.agg centQ.A):=by
 refine sx_pure tt_ok mixed at324 _ _ rfl rfl fun w=>?_
 have O:=of_z (n:=1) (d:=100) (by decide) (by decide) (by decide) (by decide)
 exact .inl ⟨_,O,RQ.A_fits _,RQ.A_fits _,rfl,trivial⟩
theorem PfIn.of_old {E E':Env} {g:Led} {vh vc vp:Value} (h:PfIn E g vh vc vp) (hT:∀ w,OldW E' w→OldW E w):PfIn E' g vh vc vp:=⟨h.h.of_old hT,h.c.of_old hT,h.p.of_old hT,h.b,h.ih,h.ic,h.ip⟩
structure VIn (E:Env) (v:VQ) (vh vc vp vq vs vn va:Value):Prop where
 pf:PfIn E v.g vh vc vp
 q:MkR E vq vs v.qs v.pol
 n:Lst E vn 68 v.nst.length (cat NeQ.A v.nst)
 nb:v.nst.length≤2000000000000
 nin:∀ y∈v.nst,y.In
 a:Lst E va 136 v.acs.length (cat AcQ.A v.acs)
 ab:v.acs.length≤2000000000000
 ain:∀ y∈v.acs,y.In
 cur:v.cur.length≤9223372036854775807
 piv:v.piv.length≤9223372036854775807
theorem VIn.of_old {E E':Env} {v:VQ} {vh vc vp vq vs vn va:Value} (h:VIn E v vh vc vp vq vs vn va) (hT:∀ w,OldW E' w→OldW E w):VIn E' v vh vc vp vq vs vn va:=⟨h.pf.of_old hT,h.q.of_old hT,h.n.of_old hT,h.nb,h.nin,h.a.of_old hT,h.ab,h.ain,h.cur,h.piv⟩
structure VA (v:VQ) (vh vc vp vq vs vn va:Value) (A:Array Value):Prop where
 size:A.size=78
 g0:A[0]? = some (.string (S v.cur))
 g1:A[1]? = some (.string (S v.piv))
 g2:A[2]? = some (.int .i64 v.day)
 g3:A[3]? = some (.int .i64 v.known)
 g4:A[4]? = some vh
 g5:A[5]? = some vc
 g6:A[6]? = some vp
 g7:A[7]? = some vq
 pf:A.extract 4 (4+3)=#[vh,vc,vp]
 pol:A.extract 8 (8+68)=v.pol.A vs
 g76:A[76]? = some vn
 g77:A[77]? = some va
theorem VQ.at (v:VQ) (vh vc vp vq vs vn va:Value):VA v vh vc vp vq vs vn va (v.A vh vc vp vq vs vn va):=by
 have hp:(v.pol.A vs).size=68:=v.pol.size vs
 refine ⟨by simp [VQ.A,hp],?_,?_,?_,?_,?_,?_,?_,?_,?_,?_,?_,?_⟩
 iterate 8 (unfold VQ.A;rw [Array.getElem?_append_left (by simp)];rfl)
 ·unfold VQ.A
  rw [Array.extract_append]
  simp
 ·unfold VQ.A
  rw [Array.extract_append,Array.extract_append]
  simp [hp]
 ·unfold VQ.A
  rw [Array.getElem?_append_right (by simp),Array.getElem?_append_right (by simp [hp])]
  simp [hp]
 ·unfold VQ.A
  rw [Array.getElem?_append_right (by simp),Array.getElem?_append_right (by simp [hp])]
  simp [hp]
theorem VQ.fits {v:VQ} {vh vc vp vq vs vn va:Value} (h1:vh.oneCell'=true) (h2:vc.oneCell'=true) (h3:vp.oneCell'=true) (h4:vq.oneCell'=true) (h5:vs.oneCell'=true) (h6:vn.oneCell'=true) (h7:va.oneCell'=true):Fits (v.A vh vc vp vq vs vn va) 78:=⟨(v.at ..).size,by
 rw [VQ.A,Array.all_append,Array.all_append,(v.pol.fits h5).one]
 simp [h1,h2,h3,h4,h6,h7]
 exact ⟨rfl,rfl,rfl,rfl⟩⟩
theorem chkV_1 {v:VQ} (h:(curOk v.cur && (curOk v.piv && (inB v.day 0 73048 && inB v.known 0 2147483647)))=false):chkV v=false:=by unfold chkV;rw [h];rfl
theorem chkV_2 {v:VQ} (h:(validP v.g && (decide (chkQ v.qs=0) && (polOk v.pol && nesOk v.nst)))=false):chkV v=false:=by unfold chkV;rw [h];simp
theorem chkV_3 {v:VQ} (h:(decide (v.acs.length≤16) && v.acs.all accOk)=false):chkV v=false:=by unfold chkV;rw [h];simp
theorem chkV_4 {v:VQ} (h:¬ v.g.h.length+v.g.c.length+v.g.p.length+v.acs.length≤512):chkV v=false:=by unfold chkV;rw [decide_eq_false h];simp
theorem chkV_5 {v:VQ} (h1:(curOk v.cur && (curOk v.piv && (inB v.day 0 73048 && inB v.known 0 2147483647)))=true) (h2:(validP v.g && (decide (chkQ v.qs=0) && (polOk v.pol && nesOk v.nst)))=true) (h3:(decide (v.acs.length≤16) && v.acs.all accOk)=true) (h4:v.g.h.length+v.g.c.length+v.g.p.length+v.acs.length≤512):chkV v=true:=by unfold chkV;rw [h1,h2,h3,decide_eq_true h4];rfl
theorem check_v {E:Env} (hE:E.P=Tryz.prog) {v:VQ} {vh vc vp vq vs vn va:Value} {A:Array Value} (hA:VA v vh vc vp vq vs vn va A) (I:VIn E v vh vc vp vq vs vn va):OwnC E 9 [SV.c (.agg A)] [] (fun r U=>r=.int .i64 (if chkV v then 0 else 201)∧U=[]):=by
 refine sx_ownC [] tt_ok mixed at9 E hE [SV.c (.agg A)] [] _ rfl rfl fun w X β hT=>?_
 have J:=I.of_old hT
 have hE2:(envC Tryz.prog tt Tryz.f9.ntmps w X (tiedK [] β)).toEnv.P=Tryz.prog:=rfl
 have K1:=currency_v v.cur I.cur
 have K2:=currency_v v.piv I.piv
 have D1:=within_v v.day 0 73048
 have D2:=within_v v.known 0 2147483647
 have P1:=valid_pz hE2 J.pf
 have Q1:=check_q hE2 J.q.l J.q.n J.q.inn
 have Q2:=check_p hE2 J.q.s J.q.m J.q.pin
 have N1:=nested_v hE2 J.n J.nb J.nin
 have A1:=containsF_v hE2 J.a J.ab J.ain
 obtain ⟨hs,g0,g1,g2,g3,g4,g5,g6,g7,gp,gl,g76,g77⟩:=hA
 obtain ⟨ah,ch,rfl,-,-⟩:=J.pf.h.shape
 obtain ⟨ac,cc,rfl,-,-⟩:=J.pf.c.shape
 obtain ⟨ap,cp,rfl,-,-⟩:=J.pf.p.shape
 obtain ⟨aa,ca,rfl,-,-⟩:=J.a.shape
 have t1:=chkV_1 (v:=v)
 have t2:=chkV_2 (v:=v)
 have t3:=chkV_3 (v:=v)
 have t4:=chkV_4 (v:=v)
 have t5:=chkV_5 (v:=v)
 generalize chkV v=CV at *
 have nf:∀ {p:Prop},true=false→p:=fun h=>by cases h
 have bad:CV=false→mkRes [.int .i64 201]=Value.int .i64 (if CV=true then 0 else 201):=fun h=>by rw [h];rfl
 have FP:Fits #[Value.slice ah v.g.h.length ch,Value.slice ac v.g.c.length cc,Value.slice ap v.g.p.length cp] 3:=⟨rfl,by simp [Value.oneCell']⟩
 refine ⟨hs,by decide,_,gp,FP,_,g0,.inl ⟨_,K1,fun c1=>?_,fun c1=>?_⟩⟩
 case refine_2 =>
  have c1:curOk v.cur=false:=bnot_t c1
  exact ⟨nf,fun _=>⟨nf,fun _=>⟨fun _=>⟨[],[],⟨bad (t1 (by rw [c1];rfl)),rfl⟩,trivial,rfl⟩,nf⟩⟩⟩
 have c1:curOk v.cur=true:=bnot_f c1
 refine ⟨_,g1,.inl ⟨_,K2,fun c2=>?_,fun c2=>?_⟩⟩
 case refine_2 =>
  have c2:curOk v.piv=false:=bnot_t c2
  exact ⟨nf,fun _=>⟨fun _=>⟨[],[],⟨bad (t1 (by rw [c2];simp)),rfl⟩,trivial,rfl⟩,nf⟩⟩
 have c2:curOk v.piv=true:=bnot_f c2
 refine ⟨_,g2,.inl ⟨_,D1,fun c3=>?_,fun c3=>?_⟩⟩
 case refine_2 =>
  have c3:inB v.day 0 73048=false:=bnot_t c3
  exact ⟨fun _=>⟨[],[],⟨bad (t1 (by rw [c3];simp)),rfl⟩,trivial,rfl⟩,nf⟩
 have c3:inB v.day 0 73048=true:=bnot_f c3
 refine ⟨_,g3,.inl ⟨_,D2,fun c4=>?_,fun c4=>?_⟩⟩
 ·have c4:inB v.known 0 2147483647=false:=bnot_t c4
  exact ⟨[],[],⟨bad (t1 (by rw [c4];simp)),rfl⟩,trivial,rfl⟩
 have c4:inB v.known 0 2147483647=true:=bnot_f c4
 refine .inr (.inr (.inl ⟨[],[_],[],_,[],P1,rfl,trivial,rfl,rfl,fun c5=>?_,fun c5=>?_⟩))
 case refine_2 =>
  have c5:validP v.g=false:=bnot_t c5
  exact ⟨nf,fun _=>⟨nf,fun _=>⟨fun _=>⟨[],[],⟨bad (t2 (by rw [c5];rfl)),rfl⟩,trivial,rfl⟩,nf⟩⟩⟩
 have c5:validP v.g=true:=bnot_f c5
 refine ⟨_,g7,.inr (.inr (.inl ⟨[],[_],[],_,[],Q1,rfl,trivial,rfl,rfl,fun c6=>?_,fun c6=>?_⟩))⟩
 case refine_2 =>
  have c6:(chkQ v.qs != 0)=true:=c6
  have c6:¬ chkQ v.qs=0:=by simpa using c6
  exact ⟨nf,fun _=>⟨fun _=>⟨[],[],⟨bad (t2 (by rw [decide_eq_false c6];simp)),rfl⟩,trivial,rfl⟩,nf⟩⟩
 have c6:(chkQ v.qs != 0)=false:=c6
 have c6:chkQ v.qs=0:=by simpa using c6
 refine ⟨by decide,_,gl,.inr (.inr (.inl ⟨[],[_],[],_,[],Q2,rfl,trivial,rfl,rfl,fun c7=>?_,fun c7=>?_⟩))⟩
 case refine_2 =>
  have c7:((if polOk v.pol then (0:Int) else 150) != 0)=true:=c7
  have c7:polOk v.pol=false:=by cases e:polOk v.pol<;>simp [e] at c7 ⊢
  exact ⟨fun _=>⟨[],[],⟨bad (t2 (by rw [c7];simp)),rfl⟩,trivial,rfl⟩,nf⟩
 have c7:((if polOk v.pol then (0:Int) else 150) != 0)=false:=c7
 have c7:polOk v.pol=true:=by cases e:polOk v.pol<;>simp [e] at c7 ⊢
 refine ⟨_,g76,.inr (.inr (.inl ⟨[],[_],[],_,[],N1,rfl,trivial,rfl,rfl,fun c8=>?_,fun c8=>?_⟩))⟩
 ·have c8:nesOk v.nst=false:=bnot_t c8
  exact ⟨[],[],⟨bad (t2 (by rw [c8];simp)),rfl⟩,trivial,rfl⟩
 have c8:nesOk v.nst=true:=bnot_f c8
 refine ⟨_,g77,_,fun w' _=>run_len_sl Tryz.underlying37 w',fun c9=>?_,fun c9=>?_⟩
 case refine_2 =>
  have c9:v.acs.length > 16:=by have:=of_decide_eq_true (show decide (((v.acs.length:Nat):Int) > 16)=true from c9);omega
  exact ⟨fun _=>⟨[],[],⟨bad (t3 (by rw [decide_eq_false (show ¬ v.acs.length≤16 by omega)];rfl)),rfl⟩,trivial,rfl⟩,nf⟩
 have c9:¬ v.acs.length > 16:=by have:=of_decide_eq_false (show decide (((v.acs.length:Nat):Int) > 16)=false from c9);omega
 refine ⟨_,g77,.inr (.inr (.inl ⟨[],[_,_],[],_,[],A1,rfl,trivial,rfl,rfl,fun ca=>?_,fun ca=>?_⟩))⟩
 ·have ca:v.acs.all accOk=false:=bnot_t ca
  exact ⟨[],[],⟨bad (t3 (by rw [ca];simp)),rfl⟩,trivial,rfl⟩
 have ca:v.acs.all accOk=true:=bnot_f ca
 have hb:=I.pf.b
 have ew:IntKind.i64.wrap (IntKind.i64.wrap (IntKind.i64.wrap (((v.g.h.length:Nat):Int)+((v.g.c.length:Nat):Int))+((v.g.p.length:Nat):Int))+((v.acs.length:Nat):Int))=((v.g.h.length+v.g.c.length+v.g.p.length+v.acs.length:Nat):Int):=by
  rw [i64_in (x:=((v.g.h.length:Nat):Int)+((v.g.c.length:Nat):Int)) (by omega),i64_in (x:=((v.g.h.length:Nat):Int)+((v.g.c.length:Nat):Int)+((v.g.p.length:Nat):Int)) (by omega),i64_in (by omega)]
  omega
 refine ⟨_,rfl,_,fun w' _=>run_len_sl Tryz.underlying22 w',_,rfl,_,fun w' _=>run_len_sl Tryz.underlying23 w',_,rfl,_,fun w' _=>run_len_sl Tryz.underlying23 w',_,g77,_,fun w' _=>run_len_sl Tryz.underlying37 w',fun cb=>?_,fun cb=>?_⟩
 ·have cb:=of_decide_eq_true (show decide (IntKind.i64.wrap (IntKind.i64.wrap (IntKind.i64.wrap (((v.g.h.length:Nat):Int)+((v.g.c.length:Nat):Int))+((v.g.p.length:Nat):Int))+((v.acs.length:Nat):Int)) > 512)=true from cb)
  rw [ew] at cb
  exact ⟨[],[],⟨bad (t4 (by omega)),rfl⟩,trivial,rfl⟩
 ·have cb:=of_decide_eq_false (show decide (IntKind.i64.wrap (IntKind.i64.wrap (IntKind.i64.wrap (((v.g.h.length:Nat):Int)+((v.g.c.length:Nat):Int))+((v.g.p.length:Nat):Int))+((v.acs.length:Nat):Int)) > 512)=false from cb)
  rw [ew] at cb
  have hg:CV=true:=t5 (by rw [c1,c2,c3,c4];rfl) (by rw [c5,c7,c8,decide_eq_true c6];rfl) (by rw [ca,decide_eq_true (show v.acs.length≤16 by omega)];rfl) (by omega)
  exact ⟨[],[],⟨by rw [hg];rfl,rfl⟩,trivial,rfl⟩
theorem LnQ.lay4 (a:LnQ):a.A=#[.int .i64 a.kind,.string (S a.nm),.int .i64 a.day,.int .i64 a.qty]++(a.price.A++(a.rate.A++#[.int .i64 a.amt])):=rfl
theorem LnQ.lay70 (a:LnQ):a.A=(#[.int .i64 a.kind,.string (S a.nm),.int .i64 a.day,.int .i64 a.qty]++a.price.A)++(a.rate.A++#[.int .i64 a.amt]):=by simp [LnQ.A]
theorem LnQ.lay136 (a:LnQ):a.A=(#[.int .i64 a.kind,.string (S a.nm),.int .i64 a.day,.int .i64 a.qty]++(a.price.A++a.rate.A))++#[.int .i64 a.amt]:=by simp [LnQ.A]
theorem LnQ.setday (a:LnQ) (n:Int):a.A.setIfInBounds (0+2) (.int .i64 n)=({ a with day:=n }:LnQ).A:=by
 rw [LnQ.A,Array.setIfInBounds_append_left (by simp)];rfl
theorem LnQ.setprice (a:LnQ) (x:RQ):splice a.A (0+4) x.A.toList=({ a with price:=x }:LnQ).A:=by
 rw [LnQ.lay4,LnQ.lay4,splice_in (by simp) (by simp [RQ.A_size])]
theorem LnQ.setrate (a:LnQ) (x:RQ):splice a.A (0+70) x.A.toList=({ a with rate:=x }:LnQ).A:=by
 rw [LnQ.lay70,LnQ.lay70,splice_in (by simp [RQ.A_size]) (by simp [RQ.A_size])]
theorem LnQ.setamt (a:LnQ) (n:Int):a.A.setIfInBounds (0+136) (.int .i64 n)=({ a with amt:=n }:LnQ).A:=by
 rw [LnQ.lay136,LnQ.lay136,set_right 0 (by simp [RQ.A_size])];rfl
theorem fill_ln4 (kind day qty:Int) (nm:Bs) {pl:List (Nat×Nat)} (hpl:pl=[(0,1),(1,1),(2,1),(3,1),(4,66),(70,66),(136,1)]):Instr.fill (fun k=>pl[k]?) ti60.zero [(0,.int .i64 kind),(1,.string (S nm)),(2,.int .i64 day),(3,.int .i64 qty)]=some (LnQ.A ⟨kind,nm,day,qty,zeroQ,zeroQ,0⟩):=by
 subst hpl;kernel_rfl
theorem fill_ln5 (kind day qty:Int) (nm:Bs) (x:RQ) {pl:List (Nat×Nat)} (hpl:pl=[(0,1),(1,1),(2,1),(3,1),(4,66),(70,66),(136,1)]):Instr.fill (fun k=>pl[k]?) ti60.zero [(0,.int .i64 kind),(1,.string (S nm)),(2,.int .i64 day),(3,.int .i64 qty),(4,.agg x.A)]=some (LnQ.A ⟨kind,nm,day,qty,x,zeroQ,0⟩):=by
 subst hpl;kernel_rfl
def lineR (v:VQ) (i:ItQ):Value:=.tuple #[.agg (lineQ v i).1.A,.string (S (lineQ v i).2.1),.int .i64 (lineQ v i).2.2]
def balA (x:Ky×Int) (k:Int):Array Value:=#[.string (S x.1.1),.int .i64 x.1.2,.int .i64 x.2,.int .i64 k]
theorem find_none {l:List NeQ} {k:Bs} (h:∀ (j:Nat) y,l[j]? = some y→¬ y.ins=k):l.find? (fun n=>decide (n.ins=k))=none:=by
 rw [List.find?_eq_none]
 intro x hx
 obtain ⟨j,hj⟩:=List.getElem?_of_mem hx
 simpa using h j x hj
theorem find_at {l:List NeQ} {k:Bs} {i:Nat} {y:NeQ} (hy:l[i]? = some y) (h:y.ins=k) (hb:∀ (j:Nat) z,j < i→l[j]? = some z→¬ z.ins=k):l.find? (fun n=>decide (n.ins=k))=some y:=by
 have hlt:=(List.getElem?_eq_some_iff.1 hy).1
 have e:l=l.take i++y :: l.drop (i+1):=by
  have h1:=(List.take_append_drop i l).symm
  rw [List.drop_eq_getElem_cons hlt] at h1
  have h2:l[i]=y:=(List.getElem?_eq_some_iff.1 hy).2
  rw [h2] at h1
  exact h1
 rw [e,List.find?_append]
 have:(l.take i).find? (fun n=>decide (n.ins=k))=none:=find_none fun j z hz=>by
  have hj:j < i:=by
   have:=(List.getElem?_eq_some_iff.1 hz).1
   rw [List.length_take] at this;omega
  rw [List.getElem?_take_of_lt hj] at hz
  exact hb j z hj hz
 rw [this]
 simp [h]
theorem line_b {E:Env} (hE:E.P=Tryz.prog) {v:VQ} {vh vc vp vq vs vn va:Value} {A:Array Value} (hA:VA v vh vc vp vq vs vn va A) (x:Ky×Int) (k:Int):OwnC E 323 [SV.c (.agg (balA x k)),SV.c (.agg A)] [] (fun r U=>r=lineR v (.b x k)∧U=[]):=by
 refine sx_ownC [] tt_ok mixed at323 E hE [SV.c (.agg (balA x k)),SV.c (.agg A)] [] _ rfl rfl fun w X β hT=>?_
 obtain ⟨hs,g0,g1,g2,g3,g4,g5,g6,g7,gp,gl,g76,g77⟩:=hA
 have C1:=cent_v
 have F1:=fun d=>fill_ln5 k d x.2 x.1.1 centQ rfl
 have LF:=fun d=>LnQ.fits ⟨k,x.1.1,d,x.2,centQ,zeroQ,0⟩
 have LD:=LnQ.setday ⟨k,x.1.1,v.day,x.2,centQ,zeroQ,0⟩ x.1.2
 have L0:lineQ v (.b x k)=(⟨k,x.1.1,if k=3 then x.1.2 else v.day,x.2,centQ,zeroQ,0⟩,x.1.1,0):=rfl
 have LF2:=LF x.1.2
 have LF1:=LF v.day
 have F1:=F1 v.day
 unfold lineR
 rw [L0]
 generalize hLA:LnQ.A ⟨k,x.1.1,v.day,x.2,centQ,zeroQ,0⟩=LA at *
 generalize hLB:LnQ.A ⟨k,x.1.1,x.1.2,x.2,centQ,zeroQ,0⟩=LB at *
 refine ⟨rfl,hs,_,rfl,_,rfl,_,g2,_,rfl,.inl ⟨_,C1,_,F1,LF1,by kernel_rfl,_,rfl,fun c=>?_,fun c=>?_⟩⟩
 ·have c:k=3:=by have c:(k == 3)=true:=c;simpa using c
  refine ⟨_,rfl,by decide,rfl,_,LD,_,rfl,LF2,by kernel_rfl,?_⟩
  refine ⟨[],[],⟨?_,rfl⟩,trivial,rfl⟩
  rw [if_pos c,hLB];rfl
 ·have c:¬ k=3:=by have c:(k == 3)=false:=c;simpa using c
  refine ⟨_,rfl,LF1,by kernel_rfl,?_⟩
  refine ⟨[],[],⟨?_,rfl⟩,trivial,rfl⟩
  rw [if_neg c,hLA];rfl
theorem bkd_bd (a:AcQ) : -2000000000000000≤(bkdQ a).1∧(bkdQ a).1≤2000000000000000:=by
 unfold bkdQ
 split
 ·rename_i h
  unfold accOk at h
  simp only [Bool.and_eq_true,decide_eq_true_eq] at h
  have hb : -1000000000000000≤owedQ a∧owedQ a≤1000000000000000:=rndI_bd _
  have:=h.2.2.1
  have:=h.2.2.2.1
  simp only
  omega
 ·simp
theorem line_f {E:Env} (hE:E.P=Tryz.prog) {v:VQ} {vh vc vp vq vs vn va:Value} {A:Array Value} (hA:VA v vh vc vp vq vs vn va A) {a:AcQ} (ha:a.In):OwnC E 326 [SV.c (.agg a.A),SV.c (.agg A)] [] (fun r U=>r=lineR v (.f a)∧U=[]):=by
 refine sx_ownC [] tt_ok mixed at326 E hE [SV.c (.agg a.A),SV.c (.agg A)] [] _ rfl rfl fun w X β hT=>?_
 obtain ⟨hs,g0,g1,g2,g3,g4,g5,g6,g7,gp,gl,g76,g77⟩:=hA
 have C1:=cent_v
 have B1:=booked_a ha
 have bb:=bkd_bd a
 have F1:=fill_ln5 4 a.til (-(bkdQ a).1) a.nm centQ rfl
 have LF:=LnQ.fits ⟨4,a.nm,a.til,-(bkdQ a).1,centQ,zeroQ,0⟩
 have L0:lineQ v (.f a)=(⟨4,a.nm,a.til,-(bkdQ a).1,centQ,zeroQ,0⟩,v.cur,(bkdQ a).2):=rfl
 have A0:=a.g0
 have A5:=a.g135
 have AS:=a.size
 unfold lineR
 rw [L0]
 generalize bkdQ a=BQ at *
 obtain ⟨n,e⟩:=BQ
 generalize hLA:LnQ.A ⟨4,a.nm,a.til,-(n,e).1,centQ,zeroQ,0⟩=LA at *
 generalize a.A=AA at *
 have hw:IntKind.i64.wrap (0 - n)=-n:=by rw [Int.zero_sub];exact i64_in (by simp only at bb;omega)
 have F2:Instr.fill (fun k=>[(0,1),(1,1),(2,1),(3,1),(4,66),(70,66),(136,1)][k]?) ti60.zero [(0,.int .i64 4),(1,.string (S a.nm)),(2,.int .i64 a.til),(3,.int .i64 (IntKind.i64.wrap (0 - n))),(4,.agg centQ.A)]=some LA:=by rw [hw];exact F1
 refine ⟨AS,hs,.inl ⟨_,B1,_,A0,_,A5,.inl ⟨_,C1,LA,F2,_,g0,LF,by kernel_rfl,?_⟩⟩⟩
 exact ⟨[],[],⟨rfl,rfl⟩,trivial,rfl⟩
theorem lineQ_h1 {v:VQ} {x:Bs×Int} {y:NeQ} (h:v.nst.find? (fun n=>decide (n.ins=x.1))=some y):lineR v (.h x)=.tuple #[.agg (LnQ.A ⟨1,x.1,v.day,x.2,y.price,zeroQ,0⟩),.string (S y.cur),.int .i64 0]:=by
 simp only [lineR,lineQ,h]
theorem lineQ_h2 {v:VQ} {x:Bs×Int} (h:v.nst.find? (fun n=>decide (n.ins=x.1))=none):lineR v (.h x)=.tuple #[.agg (LnQ.A ⟨1,x.1,(selCh (cands v.qs v.known v.pol x.1 v.day) v.pol.tol).day,x.2,(selCh (cands v.qs v.known v.pol x.1 v.day) v.pol.tol).price,zeroQ,0⟩),.string (S (selCh (cands v.qs v.known v.pol x.1 v.day) v.pol.tol).cur),.int .i64 (selE v.qs v.known v.pol x.1 v.day)]:=by
 simp only [lineR,lineQ,h]
theorem line_h {E:Env} (hE:E.P=Tryz.prog) {v:VQ} {vh vc vp vq vs vn va:Value} {A:Array Value} (hA:VA v vh vc vp vq vs vn va A) (I:VIn E v vh vc vp vq vs vn va) (x:Bs×Int):OwnC E 322 [SV.c (.agg (sumA x)),SV.c (.agg A)] [] (fun r U=>r=lineR v (.h x)∧U=[]):=by
 refine sx_ownC [] tt_ok mixed at322 E hE [SV.c (.agg (sumA x)),SV.c (.agg A)] [] _ rfl rfl fun w X β hT=>?_
 have J:=I.of_old hT
 have hE2:(envC Tryz.prog tt Tryz.f322.ntmps w X (tiedK [] β)).toEnv.P=Tryz.prog:=rfl
 have S1:=select_q (k:=v.known) hE2 J.q.l J.q.n J.q.inn J.q.s J.q.m J.q.pin x.1 v.day
 obtain ⟨hs,g0,g1,g2,g3,g4,g5,g6,g7,gp,gl,g76,g77⟩:=hA
 obtain ⟨an,cn,rfl,-,h4⟩:=J.n.shape
 have F1:=fill_ln4 1 v.day x.2 x.1 rfl
 have LF:=fun d p=>LnQ.fits ⟨1,x.1,d,x.2,p,zeroQ,0⟩
 have LP:∀ p,_:=fun p=>LnQ.setprice ⟨1,x.1,v.day,x.2,zeroQ,zeroQ,0⟩ p
 have LD:∀ d,_:=fun d=>LnQ.setday ⟨1,x.1,v.day,x.2,zeroQ,zeroQ,0⟩ d
 have LQ:=fun d p=>LnQ.setprice ⟨1,x.1,d,x.2,zeroQ,zeroQ,0⟩ p
 have LF0:=LF v.day zeroQ
 have hf:=fun y=>lineQ_h1 (v:=v) (x:=x) (y:=y)
 have hg:=lineQ_h2 (v:=v) (x:=x)
 generalize lineR v (.h x)=LR at *
 have hLA:∃ LA,LA=LnQ.A ⟨1,x.1,v.day,x.2,zeroQ,zeroQ,0⟩:=⟨_,rfl⟩
 obtain ⟨LA,hLA⟩:=hLA
 rw [← hLA] at F1 LF0 LP LD
 refine ⟨rfl,hs,_,rfl,_,g2,_,rfl,LA,F1,LF0,?_⟩
 refine ⟨_,g76,_,fun w' _=>run_len_sl Tryz.underlying36 w',?_⟩
 refine ⟨fun q f m=>∃ (i:Nat),q=v.nst.length - i∧i≤v.nst.length∧(∀ (j:Nat) y,j < i→v.nst[j]? = some y→¬ y.ins=x.1)∧f=[(2,SV.ptr 2 0),(3,SV.ptr 3 0),(4,SV.ptr 4 0),(7,SV.ptr 7 0),(20,SV.c (.slice an v.nst.length cn)),(21,SV.c (.int .i64 (v.nst.length:Nat))),(22,SV.c (.int .i64 (i:Nat)))]∧m=[(2,Blk.row 96 2 (sumA x)),(3,Blk.row 39 78 A),(4,Blk.row 60 137 ti60.zero),(7,Blk.row 60 137 LA)],v.nst.length,⟨_,_,⟨0,rfl,by omega,fun j y h=>by omega,rfl,rfl⟩,⟨rfl,rfl,rfl,rfl,rfl,rfl,rfl,trivial⟩,⟨rfl,rfl,rfl,rfl,trivial⟩,rfl⟩,?_⟩
 rintro q f m ⟨i,rfl,hi,hno,rfl,rfl⟩
 refine ⟨fun h=>?_,fun h=>?_⟩
 ·have h:i < v.nst.length:=by have:=of_decide_eq_true h;omega
  obtain ⟨b,o,rfl,h5⟩:=h4 (by omega)
  obtain ⟨y,hy⟩:∃ y,v.nst[i]? = some y:=⟨_,List.getElem?_eq_getElem h⟩
  have hE':VOk (envC Tryz.prog tt Tryz.f322.ntmps w X (tiedK [] β)):=tt_ok
  have L1:=lst_elem hE' h5 NeQ.size hy (ty:=127) (ti:=ti127) rfl rfl rfl (p:=o+(i:Int).toNat*68) rfl
  have Y0:=y.g0
  have Y1:=y.g1
  have YP:=y.gprice
  have YF:=y.fits
  have PF:=y.price.A_fits
  have LP:=LP y.price
  have LG:=LF v.day y.price
  generalize y.A=YA at *
  refine ⟨by omega,by omega,.inl ⟨_,L1,YF,_,Y0,_,rfl,fun c=>?_,fun c=>?_⟩⟩
  ·have c:y.ins=x.1:=by
     have c:decide (y.ins=x.1)=true:=by rw [← S_beq];exact c
     exact of_decide_eq_true c
   have hf:=hf y (find_at hy c hno)
   generalize LnQ.A ⟨1,x.1,v.day,x.2,y.price,zeroQ,0⟩=LB at *
   refine ⟨by decide,_,YP,by decide,PF,LB,LP,_,Y1,LG,by kernel_rfl,?_⟩
   exact ⟨[],[],⟨by rw [hf];rfl,rfl⟩,trivial,rfl⟩
  ·have c:¬ y.ins=x.1:=by
     have c:decide (y.ins=x.1)=false:=by rw [← S_beq];exact c
     exact of_decide_eq_false c
   refine ⟨v.nst.length - (i+1),_,_,by omega,⟨i+1,rfl,by omega,fun j z hj hz=>?_,rfl,rfl⟩,⟨rfl,rfl,rfl,rfl,rfl,rfl,c_int (i64_succ (by have:=I.nb;omega)),trivial⟩,⟨rfl,rfl,rfl,rfl,trivial⟩,rfl⟩
   rcases Nat.lt_or_ge j i with h9 | h9
   ·exact hno j z h9 hz
   ·have:j=i:=by omega
    subst this
    rw [hy] at hz;cases hz
    exact c
 ·have h:i=v.nst.length:=by have:=of_decide_eq_false h;omega
  subst h
  have hg:=hg (find_none fun j y hy=>hno j y (List.getElem?_eq_some_iff.1 hy).1 hy)
  clear h4 LP LF
  generalize v.pol.A vs=PA at *
  unfold SelQ at S1
  generalize selCh (cands v.qs v.known v.pol x.1 v.day) v.pol.tol=C at *
  generalize selE v.qs v.known v.pol x.1 v.day=SE at *
  generalize selBad (cands v.qs v.known v.pol x.1 v.day) v.pol.tol=SB at *
  refine ⟨_,g7,by decide,_,gl,_,g3,_,rfl,_,g2,?_⟩
  refine .inr (.inr (.inr ⟨[],[9000],[_,_,_,_,_],[],_,S1,rfl,trivial,rfl,trivial,?_⟩))
  rintro r1 U1 ⟨s1,n1,hn1,rfl,hs1,rfl⟩
  obtain ⟨sa1,sc1,rfl⟩:=hs1.len
  have CF:=CH.fits C (a:=sa1) (n:=n1) (c:=sc1)
  have C1:=CH.g1 C (.slice sa1 n1 sc1)
  have C2:=CH.g2 C (.slice sa1 n1 sc1)
  have C3:=CH.g3 C (.slice sa1 n1 sc1)
  have PF:=C.price.A_fits
  have LD:=LD C.day
  have LQ:=LQ C.day C.price
  have LG:=LnQ.fits ⟨1,x.1,C.day,x.2,C.price,zeroQ,0⟩
  generalize C.A (.slice sa1 n1 sc1)=CA at *
  generalize hLB:LnQ.A ⟨1,x.1,C.day,x.2,C.price,zeroQ,0⟩=LB at *
  generalize LnQ.A ⟨1,x.1,C.day,x.2,zeroQ,zeroQ,0⟩=LC at *
  refine ⟨rfl,CF,_,C2,by decide,_,C3,by decide,rfl,LC,LD,by decide,PF,LB,LQ,by kernel_rfl,?_⟩
  refine ⟨_,C1,LG,by kernel_rfl,?_⟩
  exact ⟨[],[],⟨by rw [hg];rfl,rfl⟩,trivial,rfl⟩
def itV:ItQ→Value
 | .h x=>.iface 96 (.agg (sumA x))
 | .b x k=>.iface 98 (.agg (balA x k))
 | .f a=>.iface 99 (.agg a.A)
def itA (i:ItQ):Array Value:=#[itV i]
theorem itA_size (i:ItQ):(itA i).size=1:=rfl
theorem itV_one (i:ItQ):(itV i).oneCell'=true:=by cases i<;>rfl
theorem itA_one (i:ItQ):(itA i).all (·.oneCell')=true:=by simp [itA,itV_one]
theorem fill_it1 (t:TypeId) (w:Value):Instr.fill (fun k=>some (k*(tV .nilIface).size,(tV .nilIface).size)) (madeCells (tV .nilIface).zero (1*(tV .nilIface).size)) [(0,.iface t w)]=some #[.iface t w]:=by kernel_rfl
theorem it_ext (u:Value):(#[u]:Array Value).extract 0 (0+1*1)=#[u]:=rfl
theorem info_it:∃ q,Tryz.prog.info? 58=some q∧q.bytes=16:=info_of (by kernel_rfl)
theorem fill_balk (x:Ky×Int) (k:Int) {pl:List (Nat×Nat)} (hpl:pl=[(0,3),(3,1)]):Instr.fill (fun k=>pl[k]?) ti98.zero [(0,.agg (sumK x)),(1,.int .i64 k)]=some (balA x k):=by
 subst hpl;rfl
theorem it_snoc {α:Type} (P:List ItQ) {xs:List α} (f:α→ItQ) {i:Nat} {y:α} (hy:xs[i]? = some y):cat itA (P++(xs.take i).map f)++itA (f y)=cat itA (P++(xs.take (i+1)).map f):=by
 rw [List.take_add_one,hy,List.map_append,← List.append_assoc,Go.SX.cat_append (P++_)]
 simp [cat]
theorem own_eqn {v:Value} {e:TypeId} {sz n m:Nat} {A B:Array Value} (h:n=m) (h2:A=B):some (Blk.own v e sz n A)=some (Blk.own v e sz m B):=by rw [h,h2]
def ItQs (l:List ItQ) (r:Value) (U:MemL):Prop:=∃ x,IsL x l.length∧r=x∧U=[(9900,Blk.own x 58 1 l.length (cat itA l))]
theorem items_v {E:Env} (hE:E.P=Tryz.prog) {v:VQ} {vh vc vp vq vs vn va:Value} {A:Array Value} (hA:VA v vh vc vp vq vs vn va A) (I:VIn E v vh vc vp vq vs vn va) (hl:v.g.h.length+v.g.c.length+v.g.p.length+v.acs.length≤512):OwnC E 16 [SV.c (.agg A)] [] (ItQs (itemsQ v)):=by
 refine sx_ownC [] tt_ok mixed at16 E hE [SV.c (.agg A)] [] _ rfl rfl fun w X β hT=>?_
 have J:=I.of_old hT
 obtain ⟨hs,g0,g1,g2,g3,g4,g5,g6,g7,gp,gl,g76,g77⟩:=hA
 obtain ⟨ah,ch,rfl,-,h4h⟩:=J.pf.h.shape
 obtain ⟨ac,cc,rfl,-,h4c⟩:=J.pf.c.shape
 obtain ⟨ap,cp,rfl,-,h4p⟩:=J.pf.p.shape
 obtain ⟨aa,ca,rfl,-,h4a⟩:=J.a.shape
 obtain ⟨qi,hqi,hbi⟩:=info_it
 refine ⟨hs,?_⟩
 refine ⟨_,g4,_,fun w' _=>run_len_sl Tryz.underlying22 w',?_⟩
 refine ⟨fun q f m=>∃ (i:Nat) (x:Value),q=v.g.h.length - i∧i≤v.g.h.length∧IsL x (i)∧f=[(1,SV.ptr 1 0),(3,SV.c x),(14,SV.c (.slice ah v.g.h.length ch)),(15,SV.c (.int .i64 (v.g.h.length:Nat))),(16,SV.c (.int .i64 (i:Nat)))]∧m=[(1,Blk.row 39 78 A),(9900,Blk.own x 58 1 (i) (cat itA ((v.g.h.take i).map .h)))],v.g.h.length,⟨_,_,⟨0,.slice none 0 0,rfl,by omega,.nil,rfl,rfl⟩,⟨rfl,rfl,rfl,rfl,rfl,trivial⟩,⟨rfl,.inr ⟨rfl,rfl,rfl⟩,trivial⟩,rfl⟩,?_⟩
 rintro q f m ⟨i,x,rfl,hi,hx,rfl,rfl⟩
 refine ⟨fun h=>?_,fun h=>?_⟩
 ·have h:i < v.g.h.length:=by have:=of_decide_eq_true h;omega
  obtain ⟨b,o,rfl,h5⟩:=h4h (by omega)
  obtain ⟨y,hy⟩:∃ y,v.g.h[i]? = some y:=⟨_,List.getElem?_eq_getElem h⟩
  have hE':VOk (envC Tryz.prog tt Tryz.f16.ntmps w X (tiedK [] β)):=tt_ok
  have L1:=lst_elem hE' h5 sumA_size hy (ty:=76) (ti:=ti76) rfl rfl rfl (p:=o+(i:Int).toNat*2) rfl
  have SN:=it_snoc [] .h hy
  obtain ⟨xa,xc,rfl⟩:=hx.len
  refine ⟨by omega,by omega,.inl ⟨_,L1,sumA_fits y,?_⟩⟩
  refine goodX_iface rfl rfl ⟨_,Tryz.underlying96,fun ms h=>by cases h⟩ ?_
  refine .inl ⟨by decide,by decide,_,fill_it1 _ _,rfl,by decide,9900,i,_,.inl rfl,by decide,itA_one (.h y),rfl,_,it_ext _,?_⟩
  refine ⟨by omega,by unfold maxLen;omega,⟨qi,hqi,by rw [hbi];omega⟩,trivial,fun g2 cap2=>?_⟩
  exact ⟨v.g.h.length - (i+1),_,_,by omega,⟨i+1,_,rfl,by omega,.some,rfl,rfl⟩,⟨rfl,rfl,rfl,rfl,c_int (i64_succ (by omega)),trivial⟩,⟨rfl,.inl (own_eq SN),trivial⟩,rfl⟩
 ·have h:i=v.g.h.length:=by have:=of_decide_eq_false h;omega
  subst h
  rw [List.take_length]
  obtain ⟨P1,hP1⟩:∃ P:List ItQ,P=v.g.h.map .h:=⟨_,rfl⟩
  have hl1:v.g.h.length=P1.length+0:=by rw [hP1];simp
  rw [← hP1]
  obtain ⟨x1,ex1⟩:∃ z,z=x:=⟨_,rfl⟩
  subst ex1
  have hx1:IsL x1 (P1.length+0):=by rw [← hl1];exact hx
  refine ⟨_,g5,_,fun w' _=>run_len_sl Tryz.underlying23 w',?_⟩
  refine ⟨fun q f m=>∃ (i:Nat) (x:Value),q=v.g.c.length - i∧i≤v.g.c.length∧IsL x (P1.length+i)∧f=[(1,SV.ptr 1 0),(3,SV.c x),(28,SV.c (.slice ac v.g.c.length cc)),(29,SV.c (.int .i64 (v.g.c.length:Nat))),(30,SV.c (.int .i64 (i:Nat)))]∧m=[(1,Blk.row 39 78 A),(9900,Blk.own x 58 1 (P1.length+i) (cat itA (P1++(v.g.c.take i).map (.b · 2))))],v.g.c.length,⟨_,[(1,Blk.row 39 78 A),(9900,Blk.own x1 58 1 (P1.length+0) (cat itA (P1++(v.g.c.take 0).map (.b · 2))))],⟨0,x1,rfl,by omega,hx1,rfl,rfl⟩,⟨rfl,rfl,rfl,rfl,rfl,trivial⟩,⟨rfl,.inl (own_eqn hl1 (by rw [hP1];simp)),trivial⟩,rfl⟩,?_⟩
  rintro q f m ⟨i,x,rfl,hi,hx,rfl,rfl⟩
  refine ⟨fun h=>?_,fun h=>?_⟩
  ·have h:i < v.g.c.length:=by have:=of_decide_eq_true h;omega
   obtain ⟨b,o,rfl,h5⟩:=h4c (by omega)
   obtain ⟨y,hy⟩:∃ y,v.g.c[i]? = some y:=⟨_,List.getElem?_eq_getElem h⟩
   have hE':VOk (envC Tryz.prog tt Tryz.f16.ntmps w X (tiedK [] β)):=tt_ok
   have L1:=lst_elem hE' h5 sumK_size hy (ty:=78) (ti:=ti78) rfl rfl rfl (p:=o+(i:Int).toNat*3) rfl
   have SN:=it_snoc P1 (.b · 2) hy
   obtain ⟨xa,xc,rfl⟩:=hx.len
   refine ⟨by omega,by omega,.inl ⟨_,L1,⟨sumK_size y,sumK_one y⟩,_,fill_balk y 2 rfl,?_⟩⟩
   refine goodX_iface rfl rfl ⟨_,Tryz.underlying98,fun ms h=>by cases h⟩ ?_
   refine .inl ⟨by decide,by decide,_,fill_it1 _ _,rfl,by decide,9900,P1.length+i,_,.inl rfl,by decide,itA_one (.b y 2),rfl,_,it_ext _,?_⟩
   refine ⟨by omega,by unfold maxLen;omega,⟨qi,hqi,by rw [hbi];omega⟩,trivial,fun g2 cap2=>?_⟩
   exact ⟨v.g.c.length - (i+1),_,_,by omega,⟨i+1,_,rfl,by omega,.some,rfl,rfl⟩,⟨rfl,rfl,rfl,rfl,c_int (i64_succ (by omega)),trivial⟩,⟨rfl,.inl (own_eq SN),trivial⟩,rfl⟩
  ·have h:i=v.g.c.length:=by have:=of_decide_eq_false h;omega
   subst h
   rw [List.take_length]
   obtain ⟨P2,hP2⟩:∃ P:List ItQ,P=P1++v.g.c.map (.b · 2):=⟨_,rfl⟩
   have hl2:P1.length+v.g.c.length=P2.length+0:=by rw [hP2];simp
   rw [← hP2]
   obtain ⟨x2,ex2⟩:∃ z,z=x:=⟨_,rfl⟩
   subst ex2
   have hx2:IsL x2 (P2.length+0):=by rw [← hl2];exact hx
   refine ⟨_,g6,_,fun w' _=>run_len_sl Tryz.underlying23 w',?_⟩
   refine ⟨fun q f m=>∃ (i:Nat) (x:Value),q=v.g.p.length - i∧i≤v.g.p.length∧IsL x (P2.length+i)∧f=[(1,SV.ptr 1 0),(3,SV.c x),(43,SV.c (.slice ap v.g.p.length cp)),(44,SV.c (.int .i64 (v.g.p.length:Nat))),(45,SV.c (.int .i64 (i:Nat)))]∧m=[(1,Blk.row 39 78 A),(9900,Blk.own x 58 1 (P2.length+i) (cat itA (P2++(v.g.p.take i).map (.b · 3))))],v.g.p.length,⟨_,[(1,Blk.row 39 78 A),(9900,Blk.own x2 58 1 (P2.length+0) (cat itA (P2++(v.g.p.take 0).map (.b · 3))))],⟨0,x2,rfl,by omega,hx2,rfl,rfl⟩,⟨rfl,rfl,rfl,rfl,rfl,trivial⟩,⟨rfl,.inl (own_eqn hl2 (by rw [hP2];simp)),trivial⟩,rfl⟩,?_⟩
   rintro q f m ⟨i,x,rfl,hi,hx,rfl,rfl⟩
   refine ⟨fun h=>?_,fun h=>?_⟩
   ·have h:i < v.g.p.length:=by have:=of_decide_eq_true h;omega
    obtain ⟨b,o,rfl,h5⟩:=h4p (by omega)
    obtain ⟨y,hy⟩:∃ y,v.g.p[i]? = some y:=⟨_,List.getElem?_eq_getElem h⟩
    have hE':VOk (envC Tryz.prog tt Tryz.f16.ntmps w X (tiedK [] β)):=tt_ok
    have L1:=lst_elem hE' h5 sumK_size hy (ty:=78) (ti:=ti78) rfl rfl rfl (p:=o+(i:Int).toNat*3) rfl
    have SN:=it_snoc P2 (.b · 3) hy
    obtain ⟨xa,xc,rfl⟩:=hx.len
    refine ⟨by omega,by omega,.inl ⟨_,L1,⟨sumK_size y,sumK_one y⟩,_,fill_balk y 3 rfl,?_⟩⟩
    refine goodX_iface rfl rfl ⟨_,Tryz.underlying98,fun ms h=>by cases h⟩ ?_
    refine .inl ⟨by decide,by decide,_,fill_it1 _ _,rfl,by decide,9900,P2.length+i,_,.inl rfl,by decide,itA_one (.b y 3),rfl,_,it_ext _,?_⟩
    refine ⟨by omega,by unfold maxLen;omega,⟨qi,hqi,by rw [hbi];omega⟩,trivial,fun g2 cap2=>?_⟩
    exact ⟨v.g.p.length - (i+1),_,_,by omega,⟨i+1,_,rfl,by omega,.some,rfl,rfl⟩,⟨rfl,rfl,rfl,rfl,c_int (i64_succ (by omega)),trivial⟩,⟨rfl,.inl (own_eq SN),trivial⟩,rfl⟩
   ·have h:i=v.g.p.length:=by have:=of_decide_eq_false h;omega
    subst h
    rw [List.take_length]
    obtain ⟨P3,hP3⟩:∃ P:List ItQ,P=P2++v.g.p.map (.b · 3):=⟨_,rfl⟩
    have hl3:P2.length+v.g.p.length=P3.length+0:=by rw [hP3];simp
    rw [← hP3]
    obtain ⟨x3,ex3⟩:∃ z,z=x:=⟨_,rfl⟩
    subst ex3
    have hx3:IsL x3 (P3.length+0):=by rw [← hl3];exact hx
    refine ⟨_,g77,_,fun w' _=>run_len_sl Tryz.underlying37 w',?_⟩
    refine ⟨fun q f m=>∃ (i:Nat) (x:Value),q=v.acs.length - i∧i≤v.acs.length∧IsL x (P3.length+i)∧f=[(1,SV.ptr 1 0),(3,SV.c x),(57,SV.c (.slice aa v.acs.length ca)),(58,SV.c (.int .i64 (v.acs.length:Nat))),(59,SV.c (.int .i64 (i:Nat)))]∧m=[(1,Blk.row 39 78 A),(9900,Blk.own x 58 1 (P3.length+i) (cat itA (P3++(v.acs.take i).map .f)))],v.acs.length,⟨_,[(1,Blk.row 39 78 A),(9900,Blk.own x3 58 1 (P3.length+0) (cat itA (P3++(v.acs.take 0).map .f)))],⟨0,x3,rfl,by omega,hx3,rfl,rfl⟩,⟨rfl,rfl,rfl,rfl,rfl,trivial⟩,⟨rfl,.inl (own_eqn hl3 (by rw [hP3];simp)),trivial⟩,rfl⟩,?_⟩
    rintro q f m ⟨i,x,rfl,hi,hx,rfl,rfl⟩
    refine ⟨fun h=>?_,fun h=>?_⟩
    ·have h:i < v.acs.length:=by have:=of_decide_eq_true h;omega
     obtain ⟨b,o,rfl,h5⟩:=h4a (by omega)
     obtain ⟨y,hy⟩:∃ y,v.acs[i]? = some y:=⟨_,List.getElem?_eq_getElem h⟩
     have hE':VOk (envC Tryz.prog tt Tryz.f16.ntmps w X (tiedK [] β)):=tt_ok
     have L1:=lst_elem hE' h5 AcQ.size hy (ty:=71) (ti:=ti71) rfl rfl rfl (p:=o+(i:Int).toNat*136) rfl
     have SN:=it_snoc P3 .f hy
     obtain ⟨xa,xc,rfl⟩:=hx.len
     refine ⟨by omega,by omega,.inl ⟨_,L1,y.fits,?_⟩⟩
     refine goodX_iface rfl rfl ⟨_,Tryz.underlying99,fun ms h=>by cases h⟩ ?_
     refine .inl ⟨by decide,by decide,_,fill_it1 _ _,rfl,by decide,9900,P3.length+i,_,.inl rfl,by decide,itA_one (.f y),rfl,_,it_ext _,?_⟩
     refine ⟨by omega,by unfold maxLen;omega,⟨qi,hqi,by rw [hbi];omega⟩,trivial,fun g2 cap2=>?_⟩
     exact ⟨v.acs.length - (i+1),_,_,by omega,⟨i+1,_,rfl,by omega,.some,rfl,rfl⟩,⟨rfl,rfl,rfl,rfl,c_int (i64_succ (by omega)),trivial⟩,⟨rfl,.inl (own_eq SN),trivial⟩,rfl⟩
    ·have h:i=v.acs.length:=by have:=of_decide_eq_false h;omega
     subst h
     rw [List.take_length]
     have eP:P3++v.acs.map .f=itemsQ v:=by rw [hP3,hP2,hP1];unfold itemsQ;simp
     have eN:P3.length+v.acs.length=(itemsQ v).length:=by rw [← eP];simp
     rw [eP,eN]
     rw [eN] at hx
     exact ⟨[(9900,Blk.own x 58 1 (itemsQ v).length (cat itA (itemsQ v)))],[],⟨x,hx,rfl,rfl⟩,⟨.inl rfl,trivial⟩,rfl⟩
theorem meth_h (x:Value):Meth Tryz.prog 96 x "fundadmin/valuation.line" 322 x:=fun w=>by kernel_rfl
theorem meth_b (x:Value):Meth Tryz.prog 98 x "fundadmin/valuation.line" 323 x:=fun w=>by kernel_rfl
theorem meth_f (x:Value):Meth Tryz.prog 99 x "fundadmin/valuation.line" 326 x:=fun w=>by kernel_rfl
theorem runV_stop {v:VQ} {l:List ItQ} {i:Nat} {it:ItQ} {ls:List LnQ} {e:Int} (hi:l[i]? = some it) (h:runV v (l.take i)=.ok ls) (he:stepQ v it=.error e):runV v l=.error e:=by
 have hlt:=(List.getElem?_eq_some_iff.1 hi).1
 have e1:l=l.take i++it :: l.drop (i+1):=by
  have h1:=(List.take_append_drop i l).symm
  rw [List.drop_eq_getElem_cons hlt,(List.getElem?_eq_some_iff.1 hi).2] at h1
  exact h1
 rw [e1]
 exact runV_bad h he
theorem runV_next {v:VQ} {l:List ItQ} {i:Nat} {it:ItQ} {ls:List LnQ} {y:LnQ} (hi:l[i]? = some it) (h:runV v (l.take i)=.ok ls) (hs:stepQ v it=.ok y):runV v (l.take (i+1))=.ok (ls++[y]):=by
 rw [List.take_add_one,hi]
 show runV v (l.take i++[it])=_
 rw [runV_snoc h,hs]
theorem valQ_bad {v:VQ} (h:chkV v=false):valQ v=(shZero,201):=by unfold valQ;rw [h];rfl
theorem valQ_err {v:VQ} {e:Int} (hc:chkV v=true) (h:runV v (itemsQ v)=.error e):valQ v=(shZero,e):=by unfold valQ;rw [if_pos hc,h]
theorem valQ_out {v:VQ} {ls:List LnQ} (hc:chkV v=true) (h:runV v (itemsQ v)=.ok ls) (ht:inB (totQ ls) (-1000000000000000) 1000000000000000=false):valQ v=(shZero,33):=by
 unfold valQ
 rw [if_pos hc,h]
 unfold inB at ht
 rw [← Bool.decide_and] at ht
 have ht:=of_decide_eq_false ht
 show (if _ then _ else _)=_
 rw [if_pos (by omega)]
theorem valQ_ok {v:VQ} {ls:List LnQ} (hc:chkV v=true) (h:runV v (itemsQ v)=.ok ls) (ht:inB (totQ ls) (-1000000000000000) 1000000000000000=true):valQ v=(⟨v.cur,v.day,v.known,ls,totQ ls⟩,0):=by
 unfold valQ
 rw [if_pos hc,h]
 unfold inB at ht
 rw [← Bool.decide_and] at ht
 have ht:=of_decide_eq_true ht
 show (if _ then _ else _)=_
 rw [if_neg (by omega)]
theorem stepQ_1 {v:VQ} {i:ItQ} {l:LnQ} {f:Bs} {e:Int} (h:lineQ v i=(l,f,e)) (he:e≠0):stepQ v i=.error e:=by unfold stepQ;rw [h];exact if_pos he
theorem stepQ_2 {v:VQ} {i:ItQ} {l:LnQ} {f:Bs} {r:RQ} {e:Int} (h:lineQ v i=(l,f,0)) (hr:rateQ v.qs v.known v.pol v.day v.piv f v.cur=(r,e)) (he:e≠0):stepQ v i=.error e:=by
 unfold stepQ;rw [h];show (if _ then _ else _)=_;rw [if_neg (by simp)];show (if _ then _ else _)=_;rw [hr];exact if_pos he
theorem stepQ_3 {v:VQ} {i:ItQ} {l:LnQ} {f:Bs} {r:RQ} {n e:Int} (h:lineQ v i=(l,f,0)) (hr:rateQ v.qs v.known v.pol v.day v.piv f v.cur=(r,0)) (ha:amtQ l.qty l.price r=(n,e)) (he:e≠0):stepQ v i=.error e:=by
 unfold stepQ;rw [h];show (if _ then _ else _)=_;rw [if_neg (by simp)];show (if _ then _ else _)=_;rw [hr,if_neg (by simp)];show (if _ then _ else _)=_;rw [ha];exact if_pos he
theorem stepQ_4 {v:VQ} {i:ItQ} {l:LnQ} {f:Bs} {r:RQ} {n:Int} (h:lineQ v i=(l,f,0)) (hr:rateQ v.qs v.known v.pol v.day v.piv f v.cur=(r,0)) (ha:amtQ l.qty l.price r=(n,0)):stepQ v i=.ok { l with rate:=r,amt:=n }:=by
 unfold stepQ;rw [h];show (if _ then _ else _)=_;rw [if_neg (by simp)];show (if _ then _ else _)=_;rw [hr,if_neg (by simp)];show (if _ then _ else _)=_;rw [ha];rfl
def ShQx (R:ShQ×Int) (r:Value) (U:MemL):Prop:=∃ x,IsL x R.1.lines.length∧r=.tuple #[.agg (R.1.A x),.int .i64 R.2]∧U=[(9800,Blk.own x 60 137 R.1.lines.length (cat LnQ.A R.1.lines))]
theorem fill_sh3 (cur:Bs) (day known:Int) {pl:List (Nat×Nat)} (hpl:pl=[(0,1),(1,1),(2,1),(3,1),(4,1)]):Instr.fill (fun k=>pl[k]?) ti42.zero [(0,.string (S cur)),(1,.int .i64 day),(2,.int .i64 known)]=some #[.string (S cur),.int .i64 day,.int .i64 known,.slice none 0 0,.int .i64 0]:=by
 subst hpl;rfl
theorem fill_line1 (l:LnQ):Instr.fill (fun k=>some (k*ti60.size,ti60.size)) (madeCells ti60.zero (1*ti60.size)) [(0,.agg l.A)]=some l.A:=by
 kernel_rfl
theorem LnQ.ext137 (l:LnQ):l.A.extract 0 (0+1*137)=l.A:=by
 have:l.A.size=137:=l.size
 simp [this]
theorem info_ln:∃ q,Tryz.prog.info? 60=some q∧q.bytes=576:=info_of (by kernel_rfl)
theorem rateQ_in {xs:List QC} {k:Int} {p:PL} {day:Int} {u a b:List UInt8}:(rateQ xs k p day u a b).1.In:=by
 unfold rateQ
 split
 ·exact zeroQ_in
 ·rename_i hm
  obtain ⟨-,-,-,-,hall⟩:=mktC_ok (Decidable.not_not.1 hm)
  split
  ·exact one_in
  ·cases e:legO xs k p day a b with
   | some r=>exact (legO_leg (cur_ne (hall a (by simp))) (cur_ne (hall b (by simp))) e).in_
   | none =>
    simp only []
    split
    ·exact zeroQ_in
    ·cases legO xs k p day a u<;>cases legO xs k p day u b<;>first | exact zeroQ_in | exact mulQ_in _ _
theorem allAt_at {p:Nat→Bool} {n i:Nat} (h:allAt p n=true) (hi:i < n):p i=true:=by
 cases e:p i with
 | true=>rfl
 | false=>rw [allAt_bad hi e] at h;cases h
theorem pf_qty {g:Led} (h:validP g=true):(∀ x∈g.h,insOk x.1=true∧1≤x.2∧x.2≤1000000000000000)∧(∀ x∈g.c,curOk x.1.1=true∧-1000000000000000≤x.2∧x.2≤1000000000000000)∧(∀ x∈g.p,curOk x.1.1=true∧-1000000000000000≤x.2∧x.2≤1000000000000000):=by
 unfold validP at h
 simp only [Bool.and_eq_true] at h
 obtain ⟨-,h1,h2,h3,-⟩:=h
 have key:∀ (l:List (Ky×Int)),allAt (okK l) l.length=true→∀ x∈l,curOk x.1.1=true∧-1000000000000000≤x.2∧x.2≤1000000000000000:=fun l hl x hx=>by
  obtain ⟨i,hi⟩:=List.getElem?_of_mem hx
  have:=allAt_at hl (List.getElem?_eq_some_iff.1 hi).1
  unfold okK inB at this
  rw [hi] at this
  simp only [Bool.and_eq_true,decide_eq_true_eq] at this
  exact ⟨this.1,this.2.2.2.1⟩
 refine ⟨fun x hx=>?_,key _ h2,key _ h3⟩
 obtain ⟨i,hi⟩:=List.getElem?_of_mem hx
 have:=allAt_at h1 (List.getElem?_eq_some_iff.1 hi).1
 unfold okH inB at this
 rw [hi] at this
 simp only [Bool.and_eq_true,decide_eq_true_eq] at this
 exact ⟨this.1,this.2.1⟩
theorem chkV_parts {v:VQ} (h:chkV v=true):curOk v.cur=true∧curOk v.piv=true∧(0≤v.day∧v.day≤73048)∧(0≤v.known∧v.known≤2147483647)∧validP v.g=true∧chkQ v.qs=0∧polOk v.pol=true∧nesOk v.nst=true∧v.acs.all accOk=true∧v.g.h.length+v.g.c.length+v.g.p.length+v.acs.length≤512:=by
 unfold chkV inB at h
 simp only [Bool.and_eq_true,decide_eq_true_eq] at h
 obtain ⟨⟨a1,a2,a3,a4⟩,⟨a5,a6,a7,a8⟩,⟨-,a9⟩,a10⟩:=h
 exact ⟨a1,a2,a3,a4,a5,a6,a7,a8,a9,a10⟩
theorem cent_in:centQ.In:=mkQ_in _ _
theorem line_in {v:VQ} (hc:chkV v=true) (hq:∀ y∈v.qs,y.In) (hn:∀ y∈v.nst,y.In) {it:ItQ} (hi:it∈itemsQ v):(lineQ v it).1.price.In∧-2000000000000000≤(lineQ v it).1.qty∧(lineQ v it).1.qty≤2000000000000000:=by
 obtain ⟨-,-,-,-,hv,-⟩:=chkV_parts hc
 obtain ⟨q1,q2,q3⟩:=pf_qty hv
 unfold itemsQ at hi
 simp only [List.mem_append,List.mem_map] at hi
 rcases hi with ⟨x,hx,rfl⟩ | ⟨x,hx,rfl⟩ | ⟨x,hx,rfl⟩ | ⟨x,hx,rfl⟩
 ·have:=q1 x hx
  cases e:v.nst.find? (fun n=>decide (n.ins=x.1)) with
  | some n =>
   have hm:=List.mem_of_find?_eq_some e
   simp only [lineQ,e]
   exact ⟨(hn n hm).price,by omega,by omega⟩
  | none =>
   simp only [lineQ,e]
   exact ⟨selCh_in fun z hz=>(cands_mem hq hz).1,by omega,by omega⟩
 ·have:=q2 x hx
  exact ⟨cent_in,by show _≤x.2;omega,by show x.2≤_;omega⟩
 ·have:=q3 x hx
  exact ⟨cent_in,by show _≤x.2;omega,by show x.2≤_;omega⟩
 ·have:=bkd_bd x
  exact ⟨cent_in,by show _≤-(bkdQ x).1;omega,by show -(bkdQ x).1≤_;omega⟩
theorem items_len (v:VQ):(itemsQ v).length=v.g.h.length+v.g.c.length+v.g.p.length+v.acs.length:=by
 unfold itemsQ;simp;omega
end Go.Proofs.YtofllflnmmjijaaGreatDoor
