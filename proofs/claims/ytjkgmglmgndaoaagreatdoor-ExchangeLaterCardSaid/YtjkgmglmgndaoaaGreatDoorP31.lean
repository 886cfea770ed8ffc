/- rates of exchange: checks, ways. rates of exchange: the program. plain laws of converted amounts. rates of exchange: the document; converted amounts; no condition. -/
import Derived.Test.YtjkgmglmgndaoaaGreatDoorP30
set_option maxRecDepth 100000
set_option maxHeartbeats 4000000
namespace Go.Proofs.YtjkgmglmgndaoaaGreatDoor
open Go Go.RowKit Go.SX
theorem mktC_1 {xs:List QC} {p:PL} {day:Int} {cs:List (List UInt8)} (h:chkQ xs≠0):mktC xs p day cs=chkQ xs:=by unfold mktC;rw [if_pos h]
theorem mktC_2 {xs:List QC} {p:PL} {day:Int} {cs:List (List UInt8)} (h:chkQ xs=0) (h2:polOk p=false):mktC xs p day cs=150:=by
 unfold mktC;rw [if_neg (fun h3=>h3 h),h2];rfl
theorem mktC_3 {xs:List QC} {p:PL} {day:Int} {cs:List (List UInt8)} (h:chkQ xs=0) (h2:polOk p=true) (h3:day < 0∨day > 73048):mktC xs p day cs=50:=by
 unfold mktC;rw [if_neg (fun h3=>h3 h),if_pos h2,if_pos h3]
theorem mktC_4 {xs:List QC} {p:PL} {day:Int} {cs:List (List UInt8)} (h:chkQ xs=0) (h2:polOk p=true) (h3:¬ (day < 0∨day > 73048)):mktC xs p day cs=if cs.all curOk then 0 else 160:=by
 unfold mktC;rw [if_neg (fun h3=>h3 h),if_pos h2,if_neg h3]
theorem all_at {p:List UInt8→Bool} {cs:List (List UInt8)} (h:∀ (j:Nat) c,cs[j]? = some c→p c=true):cs.all p=true:=by
 rw [List.all_eq_true]
 intro x hx
 obtain ⟨j,hj⟩:=List.getElem?_of_mem hx
 exact h j x hj
theorem all_bad {p:List UInt8→Bool} {cs:List (List UInt8)} {j:Nat} {c:List UInt8} (hj:cs[j]? = some c) (h:p c=false):cs.all p=false:=by
 rw [List.all_eq_false]
 exact ⟨c,List.mem_of_getElem? hj,by rw [h];simp⟩
theorem check_e {E:Env} (hE:E.P=Tryz.prog) {v vp vc:Value} {xs:List QC} {p:PL} (h:MkR E v vp xs p) (k day:Int) {cs:List (List UInt8)} (hc:Lst E vc 1 cs.length (cat strA cs)) (hn:cs.length≤100):OwnC E 35 [SV.c (.agg (mktA v vp p k day)),SV.c vc] [] (fun x U=>x=.int .i64 (mktC xs p day cs)∧U=[]):=by
 refine sx_ownC [] tt_ok mixed at35 E hE [SV.c (.agg (mktA v vp p k day)),SV.c vc] [] _ rfl rfl fun w X β hT=>?_
 have hr:=h.of_old hT
 have hc':=hc.of_old hT
 obtain ⟨ac,capc,rfl,hcc,h4⟩:=id hc'.shape
 have C1:=check_q rfl hr.l hr.n hr.inn
 have C2:=check_p rfl hr.s hr.m hr.pin
 have M:=mktA_size v vp p k day
 have M0:=mktA_0 v vp p k day
 have M1:=mktA_1 v vp p k day
 have M3:=mktA_70 v vp p k day
 generalize mktA v vp p k day=MA at *
 refine ⟨M,_,M0,?_⟩
 refine .inr (.inr (.inl ⟨[],[_],[],_,[],C1,rfl,trivial,rfl,rfl,fun c=>?_,fun c=>?_⟩))
 ·have c:(chkQ xs != 0)=true:=c
  refine ⟨[],[],⟨?_,rfl⟩,trivial,rfl⟩
  rw [mktC_1 (by simpa using c)];rfl
 ·have c:(chkQ xs != 0)=false:=c
  have c:chkQ xs=0:=by simpa using c
  refine ⟨by decide,_,M1,.inr (.inr (.inl ⟨[],[_],[],_,[],C2,rfl,trivial,rfl,rfl,fun c2=>?_,fun c2=>?_⟩))⟩
  ·have c2:((if polOk p then (0:Int) else 150) != 0)=true:=c2
   have c2:polOk p=false:=by cases e:polOk p<;>simp [e] at c2 ⊢
   refine ⟨[],[],⟨?_,rfl⟩,trivial,rfl⟩
   rw [mktC_2 c c2,c2];rfl
  ·have c2:((if polOk p then (0:Int) else 150) != 0)=false:=c2
   have c2:polOk p=true:=by cases e:polOk p<;>simp [e] at c2 ⊢
   refine ⟨_,M3,fun d1=>?_,fun d1=>?_⟩
   ·have d1:=of_decide_eq_false d1
    refine ⟨_,M3,fun d2=>?_,fun d2=>?_⟩
    ·have d2:=of_decide_eq_true (show decide (day > 73048)=true from d2)
     refine ⟨[],[],⟨?_,rfl⟩,trivial,rfl⟩
     rw [mktC_3 c c2 (.inr d2)];rfl
    ·have d2:=of_decide_eq_false (show decide (day > 73048)=false from d2)
     have hm:=mktC_4 (cs:=cs) c c2 (day:=day) (by omega)
     refine ⟨_,fun w' _=>run_len_sl Tryz.underlying23 w',?_⟩
     refine ⟨fun q f m=>∃ (i:Nat),q=cs.length - i∧i≤cs.length∧(∀ (j:Nat) c,j < i→cs[j]? = some c→curOk c=true)∧f=[(29,SV.c (.slice ac cs.length capc)),(30,SV.c (.int .i64 (cs.length:Nat))),(31,SV.c (.int .i64 (i:Nat)))]∧m=[],cs.length,⟨_,_,⟨0,by omega,by omega,fun j c h=>by omega,rfl,rfl⟩,⟨rfl,rfl,rfl,trivial⟩,trivial,rfl⟩,?_⟩
     rintro q f m ⟨i,rfl,hi,hall,rfl,rfl⟩
     refine ⟨fun h=>?_,fun h=>?_⟩
     ·have h:i < cs.length:=by have:=of_decide_eq_true h;omega
      obtain ⟨b,o,rfl,h5⟩:=h4 (by omega)
      obtain ⟨y,hy⟩:∃ y,cs[i]? = some y:=⟨_,List.getElem?_eq_getElem h⟩
      have hE':VOk (envC Tryz.prog tt Tryz.f35.ntmps w X (tiedK [] β)):=tt_ok
      have L1:=lst_at hE' h5 strA_size hy (j:=0) (v:=.string (S y)) rfl (ty:=9) (ti:=ti9) rfl rfl (p:=offAt o ((i:Nat):Int) ti9.size) (off_one o i)
      refine ⟨by omega,by omega,.inl ⟨_,L1,.inl ⟨_,code_e y,fun g=>?_,fun g=>?_⟩⟩⟩
      ·have g:(!curOk y)=true:=g
       refine ⟨[],[],⟨?_,rfl⟩,trivial,rfl⟩
       rw [hm,all_bad hy (by simpa using g)];rfl
      ·have g:(!curOk y)=false:=g
       have g:curOk y=true:=by simpa using g
       exact ⟨cs.length - (i+1),_,_,by omega,⟨i+1,rfl,by omega,fun j z hj hz=>by
        rcases Nat.lt_or_ge j i with h9 | h9
        ·exact hall j z h9 hz
        ·have:j=i:=by omega
         subst this;rw [hy] at hz;cases hz;exact g,rfl,rfl⟩,⟨rfl,rfl,c_int (i64_succ (by omega)),trivial⟩,trivial,rfl⟩
     ·have h:i=cs.length:=by have:=of_decide_eq_false h;omega
      subst h
      refine ⟨[],[],⟨?_,rfl⟩,trivial,rfl⟩
      rw [hm,all_at fun j z hz=>hall j z (List.getElem?_eq_some_iff.1 hz).1 hz];rfl
   ·have d1:=of_decide_eq_true (show decide (day < 0)=true from d1)
    refine ⟨fun _=>?_,fun h=>absurd h (by decide)⟩
    refine ⟨[],[],⟨?_,rfl⟩,trivial,rfl⟩
    rw [mktC_3 c c2 (.inl d1)];rfl
theorem code_r0 (l:List UInt8):Pure Tryz.prog 76 [SV.c (.string (S l))] (.bool (curOk l)):=by
 refine sx_pure tt_ok mixed at76 _ _ rfl rfl fun w=>?_
 have hx:∀ i:Nat,i < l.length→Runs ((envP Tryz.prog tt Tryz.f76.ntmps w).toEnv) (Instr.index 9 (.string (S l)) (.int .i64 (i:Int))) (.int .u8 ((l.getD i 0).toNat:Nat)):=fun i h=>runs_idx Tryz.underlying9 i rfl h
 rw [curOk_eq]
 refine ⟨_,fun w _=>run_len_S Tryz.underlying9 w,fun h=>?_,fun h=>?_⟩
 ·have h:((l.length:Int) == 3)=true:=h
  have h:(l.length:Int)=3:=by simpa using h
  rw [decide_eq_true h,Bool.true_and]
  refine ⟨_,hx 0 (by omega),.inl ⟨_,capital_r _,fun h0=>⟨_,hx 1 (by omega),.inl ⟨_,capital_r _,fun h1=>⟨_,hx 2 (by omega),.inl ⟨_,capital_r _,bv ?_,trivial⟩⟩,fun h1=>⟨bv ?_,trivial⟩⟩⟩,fun h0=>⟨nofun,fun _=>⟨bv ?_,trivial⟩⟩⟩⟩
  ·rw [show capR l 0=true from h0,show capR l 1=true from h1];rfl
  ·rw [show capR l 0=true from h0,show capR l 1=false from h1];rfl
  ·rw [show capR l 0=false from h0];rfl
 ·have h:((l.length:Int) == 3)=false:=h
  have h:¬ (l.length:Int)=3:=by simpa using h
  rw [decide_eq_false h,Bool.false_and]
  refine ⟨nofun,fun _=>⟨nofun,fun _=>⟨rfl,trivial⟩⟩⟩
theorem check_er {E:Env} (hE:E.P=Tryz.prog) {v vp vc:Value} {xs:List QC} {p:PL} (h:MkR E v vp xs p) (day:Int) {cs:List (List UInt8)} (hc:Lst E vc 1 cs.length (cat strA cs)) (hn:cs.length≤100):OwnC E 37 [SV.c v,SV.c (.agg (p.A vp)),SV.c (.int .i64 day),SV.c vc] [] (fun x U=>x=.int .i64 (mktC xs p day cs)∧U=[]):=by
 refine sx_ownC [] tt_ok mixed at37 E hE [SV.c v,SV.c (.agg (p.A vp)),SV.c (.int .i64 day),SV.c vc] [] _ rfl rfl fun w X β hT=>?_
 have hr:=h.of_old hT
 have hc':=hc.of_old hT
 obtain ⟨ac,capc,rfl,hcc,h4⟩:=id hc'.shape
 obtain ⟨ap,capp,rfl,hcp,-⟩:=id hr.s.shape
 have C1:=check_qr rfl hr.l hr.n hr.inn
 have C2:=check_p15 rfl hr.s hr.m hr.pin rfl
 have F1:=p.size (.slice ap p.srcs.length capp)
 generalize p.A (.slice ap p.srcs.length capp)=PA at *
 refine ⟨F1,.inr (.inr (.inl ⟨[],[_],[],_,[],C1,rfl,trivial,rfl,rfl,fun c=>?_,fun c=>?_⟩))⟩
 ·have c:(chkQ xs != 0)=true:=c
  refine ⟨[],[],⟨?_,rfl⟩,trivial,rfl⟩
  rw [mktC_1 (by simpa using c)];rfl
 ·have c:(chkQ xs != 0)=false:=c
  have c:chkQ xs=0:=by simpa using c
  refine .inr (.inr (.inl ⟨[],[_],[],_,[],C2,rfl,trivial,rfl,rfl,fun c2=>?_,fun c2=>?_⟩))
  ·have c2:((if polOk p then (0:Int) else 150) != 0)=true:=c2
   have c2:polOk p=false:=by cases e:polOk p<;>simp [e] at c2 ⊢
   refine ⟨[],[],⟨?_,rfl⟩,trivial,rfl⟩
   rw [mktC_2 c c2];rfl
  ·have c2:((if polOk p then (0:Int) else 150) != 0)=false:=c2
   have c2:polOk p=true:=by cases e:polOk p<;>simp [e] at c2 ⊢
   refine .inl ⟨_,out_r day,fun d1=>?_,fun d1=>?_⟩
   ·have d1:(decide (day < 0) || decide (day > 73048))=true:=d1
    simp only [Bool.or_eq_true,decide_eq_true_eq] at d1
    refine ⟨[],[],⟨?_,rfl⟩,trivial,rfl⟩
    rw [mktC_3 c c2 d1];rfl
   ·have d1:(decide (day < 0) || decide (day > 73048))=false:=d1
    simp only [Bool.or_eq_false_iff,decide_eq_false_iff_not] at d1
    have hm:=mktC_4 (cs:=cs) c c2 (day:=day) (by omega)
    refine ⟨fun q f m=>∃ (i:Nat),q=cs.length - i∧i≤cs.length∧(∀ (j:Nat) c,j < i→cs[j]? = some c→curOk c=true)∧f=[(3,SV.c (.slice ac cs.length capc)),(10,SV.c (.int .i64 (i:Nat)))]∧m=[],cs.length,⟨_,_,⟨0,by omega,by omega,fun j c h=>by omega,rfl,rfl⟩,⟨rfl,rfl,trivial⟩,trivial,rfl⟩,?_⟩
    rintro q f m ⟨i,rfl,hi,hall,rfl,rfl⟩
    refine ⟨_,fun w' _=>run_len_sl Tryz.underlying23 w',fun h=>?_,fun h=>?_⟩
    ·have h:i < cs.length:=by have:=of_decide_eq_true h;omega
     obtain ⟨b,o,rfl,h5⟩:=h4 (by omega)
     obtain ⟨y,hy⟩:∃ y,cs[i]? = some y:=⟨_,List.getElem?_eq_getElem h⟩
     have hE':VOk (envC Tryz.prog tt Tryz.f37.ntmps w X (tiedK [] β)):=tt_ok
     have L1:=lst_at hE' h5 strA_size hy (j:=0) (v:=.string (S y)) rfl (ty:=9) (ti:=ti9) rfl rfl (p:=offAt o ((i:Nat):Int) ti9.size) (off_one o i)
     refine ⟨by omega,by omega,.inl ⟨_,L1,.inl ⟨_,code_r0 y,fun g=>?_,fun g=>?_⟩⟩⟩
     ·have g:(!curOk y)=true:=g
      refine ⟨[],[],⟨?_,rfl⟩,trivial,rfl⟩
      rw [hm,all_bad hy (by simpa using g)];rfl
     ·have g:(!curOk y)=false:=g
      have g:curOk y=true:=by simpa using g
      exact ⟨cs.length - (i+1),_,_,by omega,⟨i+1,rfl,by omega,fun j z hj hz=>by
       rcases Nat.lt_or_ge j i with h9 | h9
       ·exact hall j z h9 hz
       ·have:j=i:=by omega
        subst this;rw [hy] at hz;cases hz;exact g,rfl,rfl⟩,⟨rfl,c_int (i64_succ (by omega)),trivial⟩,trivial,rfl⟩
    ·have h:i=cs.length:=by have:=of_decide_eq_false h;omega
     subst h
     refine ⟨[],[],⟨?_,rfl⟩,trivial,rfl⟩
     rw [hm,all_at fun j z hz=>hall j z (List.getElem?_eq_some_iff.1 hz).1 hz];rfl
theorem one_r:Pure Tryz.prog 24 [] (.agg oneQ.A):=by
 refine sx_pure tt_ok mixed at24 _ _ rfl rfl fun w=>?_
 exact .inl ⟨_,whole_r (n:=1) (by decide) (by decide),RQ.A_fits _,rfl,trivial⟩
theorem leg_er {E:Env} (hE:E.P=Tryz.prog) {v vp:Value} {xs:List QC} {p:PL} (h:MkR E v vp xs p) (k day:Int) {a b:List UInt8} (ha:curOk a=true) (hb:curOk b=true):OwnC E 38 [SV.c v,SV.c (.agg (p.A vp)),SV.c (.int .i64 k),SV.c (.string (S a)),SV.c (.string (S b)),SV.c (.int .i64 day)] [] (fun x U=>x=optQ (legO xs k p day a b)∧U=[]):=by
 refine sx_ownC [4] tt_ok mixed at38 E hE [SV.c v,SV.c (.agg (p.A vp)),SV.c (.int .i64 k),SV.c (.string (S a)),SV.c (.string (S b)),SV.c (.int .i64 day)] [] _ rfl rfl fun w X β hT=>?_
 have hr:=h.of_old hT
 have la:=cur_len ha
 have lb:=cur_len hb
 have S1:=select_qr (k:=k) rfl hr.l hr.n hr.inn hr.s hr.m hr.pin (a++b) day
 have S2:=select_qr (k:=k) rfl hr.l hr.n hr.inn hr.s hr.m hr.pin (b++a) day
 rw [← S_add] at S1 S2
 have hsz:(S a).size+(S b).size≤9223372036854775807:=by rw [S_size,S_size];omega
 have hsz2:(S b).size+(S a).size≤9223372036854775807:=by rw [S_size,S_size];omega
 obtain ⟨ap,capp,rfl,hcp,-⟩:=id hr.s.shape
 have F1:=p.size (.slice ap p.srcs.length capp)
 have hL:legO xs k p day a b=if (dirQ xs k p day a b).2 then some (dirQ xs k p day a b).1 else if (dirQ xs k p day b a).2 then some (quoQ oneQ (dirQ xs k p day b a).1).1 else none:=rfl
 have D2:=dir_leg (xs:=xs) (k:=k) (p:=p) (day:=day) (a:=b) (b:=a) (cur_ne ha)
 unfold dirQ at hL D2
 generalize p.A (.slice ap p.srcs.length capp)=PA at *
 generalize legO xs k p day a b=LQ at *
 refine ⟨F1,hsz,?_⟩
 refine .inr (.inr (.inr ⟨[],[9000],[_,_,_,_,_],[],_,S1,rfl,trivial,rfl,trivial,?_⟩))
 rintro r1 U1 ⟨s1,n1,hn1,rfl,hs1,rfl⟩
 obtain ⟨sa1,sc1,rfl⟩:=hs1.len
 refine ⟨rfl,CH.fits _,?_⟩
 generalize selCh (cands xs k p (a++b) day) p.tol=C at *
 generalize selE xs k p (a++b) day=SE at *
 have C1:=CH.g1 C (.slice sa1 n1 sc1)
 have C3:=CH.g3 C (.slice sa1 n1 sc1)
 have PF:=C.price.A_fits
 generalize C.A (.slice sa1 n1 sc1)=CA at *
 refine ⟨fun f mm=>(decide (SE=0) && decide (C.cur=b))=false∧f=[(0,SV.c v),(2,SV.c (.int .i64 k)),(3,SV.c (.string (S a))),(4,SV.c (.string (S b))),(5,SV.c (.int .i64 day)),(7,SV.ptr 7 0),(12,SV.ptr 12 0),(14,SV.ptr 14 0)]∧mm=[(7,Blk.row 31 68 PA),(12,Blk.row 29 66 ti29.zero),(14,Blk.row 57 70 CA)],?_,?_⟩
 ·refine ⟨fun c=>?_,fun c=>?_⟩
  ·have c:(SE == 0)=true:=c
   have c:SE=0:=by simpa using c
   refine ⟨_,C1,fun d=>?_,fun d=>?_⟩
   ·have d:=str_eq d
    refine ⟨by decide,_,C3,PF,[],[],⟨?_,rfl⟩,trivial,rfl⟩
    rw [decide_eq_true c,decide_eq_true d,Bool.true_and,if_pos rfl] at hL
    rw [hL];rfl
   ·have d:=str_ne d
    exact ⟨_,_,⟨by rw [decide_eq_false d,Bool.and_false],rfl,rfl⟩,⟨rfl,rfl,rfl,rfl,rfl,rfl,rfl,rfl,trivial⟩,⟨rfl,rfl,rfl,trivial⟩,rfl⟩
  ·have c:(SE == 0)=false:=c
   have c:¬ SE=0:=by simpa using c
   refine ⟨fun d=>absurd d (by decide),fun _=>?_⟩
   exact ⟨_,_,⟨by rw [decide_eq_false c,Bool.false_and],rfl,rfl⟩,⟨rfl,rfl,rfl,rfl,rfl,rfl,rfl,rfl,trivial⟩,⟨rfl,rfl,rfl,trivial⟩,rfl⟩
 ·rintro f1 m1 ⟨hno,rfl,rfl⟩
  rw [hno,if_neg Bool.false_ne_true] at hL
  refine ⟨hsz2,?_⟩
  refine .inr (.inr (.inr ⟨[],[9000],[_,_,_,_,_],[],_,S2,rfl,trivial,rfl,trivial,?_⟩))
  rintro r1 U1 ⟨s2,n2,hn2,rfl,hs2,rfl⟩
  obtain ⟨sa2,sc2,rfl⟩:=hs2.len
  refine ⟨rfl,CH.fits _,?_⟩
  generalize selCh (cands xs k p (b++a) day) p.tol=C' at *
  generalize selE xs k p (b++a) day=SE' at *
  have C1':=CH.g1 C' (.slice sa2 n2 sc2)
  have C3':=CH.g3 C' (.slice sa2 n2 sc2)
  have PF':=C'.price.A_fits
  generalize C'.A (.slice sa2 n2 sc2)=CA' at *
  refine ⟨fun c=>?_,fun c=>?_⟩
  ·have c:(SE' == 0)=true:=c
   have c:SE'=0:=by simpa using c
   refine ⟨_,C1',fun d=>?_,fun d=>?_⟩
   ·have d:=str_eq d
    have hd:=D2 (by rw [decide_eq_true c,decide_eq_true d];rfl)
    rw [decide_eq_true c,decide_eq_true d,Bool.true_and,if_pos rfl] at hL
    refine .inl ⟨_,one_r,by decide,_,C3',.inl ⟨_,quoR_r one_in hd.in_,RQ.A_fits _,by kernel_rfl,RQ.A_fits _,[],[],⟨?_,rfl⟩,trivial,rfl⟩⟩
    rw [hL];rfl
   ·have d:=str_ne d
    rw [decide_eq_false d,Bool.and_false,if_neg Bool.false_ne_true] at hL
    refine ⟨_,rfl,(RQ.of 0 0).A_fits,[],[],⟨?_,rfl⟩,trivial,rfl⟩
    rw [hL];rfl
  ·have c:(SE' == 0)=false:=c
   have c:¬ SE'=0:=by simpa using c
   rw [decide_eq_false c,Bool.false_and,if_neg Bool.false_ne_true] at hL
   refine ⟨fun d=>absurd d (by decide),fun _=>?_⟩
   refine ⟨_,rfl,(RQ.of 0 0).A_fits,[],[],⟨?_,rfl⟩,trivial,rfl⟩
   rw [hL];rfl
theorem check_eo {E:Env} (hE:E.P=Tryz.prog) {v vp:Value} {xs:List QC} {p:PL} (h:MkR E v vp xs p) (k day:Int) {cs:List (List UInt8)} {n:Nat} {vc:Value} (hn:n=cs.length) (hn2:n≤100):OwnC E 35 [SV.c (.agg (mktA v vp p k day)),SV.c vc] [(9300,Blk.own vc 9 1 n (cat strA cs))] (fun x U=>x=.int .i64 (mktC xs p day cs)∧U=[(9300,Blk.own vc 9 1 n (cat strA cs))]):=by
 subst hn
 refine (OwnC.with_own2 (k:=9300) (v:=vc) (e:=9) (sz:=1) (n:=cs.length) (A:=cat strA cs) (pre:=[]) (Q:=fun x U=>x=.int .i64 (mktC xs p day cs)∧U=[]) rfl rfl (Go.SX.cat_all strA_one cs) (by rw [hE];exact at35.enters) (fun E0 h0 ho hl=>check_e (h0.trans hE) (h.of_old ho) k day hl hn2) (fun x U h=>by rw [h.2];rfl)).mono ?_
 rintro r U ⟨U0,⟨h1,rfl⟩,rfl⟩
 exact ⟨h1,rfl⟩
theorem check_ero {E:Env} (hE:E.P=Tryz.prog) {v vp:Value} {xs:List QC} {p:PL} (h:MkR E v vp xs p) (day:Int) {cs:List (List UInt8)} {n:Nat} {vc:Value} (hn:n=cs.length) (hn2:n≤100):OwnC E 37 [SV.c v,SV.c (.agg (p.A vp)),SV.c (.int .i64 day),SV.c vc] [(9300,Blk.own vc 9 1 n (cat strA cs))] (fun x U=>x=.int .i64 (mktC xs p day cs)∧U=[(9300,Blk.own vc 9 1 n (cat strA cs))]):=by
 subst hn
 refine (OwnC.with_own2 (k:=9300) (v:=vc) (e:=9) (sz:=1) (n:=cs.length) (A:=cat strA cs) (pre:=[]) (Q:=fun x U=>x=.int .i64 (mktC xs p day cs)∧U=[]) rfl rfl (Go.SX.cat_all strA_one cs) (by rw [hE];exact at37.enters) (fun E0 h0 ho hl=>check_er (h0.trans hE) (h.of_old ho) day hl hn2) (fun x U h=>by rw [h.2];rfl)).mono ?_
 rintro r U ⟨U0,⟨h1,rfl⟩,rfl⟩
 exact ⟨h1,rfl⟩
def wayO (f:List UInt8→List UInt8→Option RQ):RQ→List (List UInt8)→Option RQ
 | r,a :: b :: cs=>match f a b with
  | some s=>wayO f (mulQ r s).1 (b :: cs)
  | none=>none
 | r,_=>some r
theorem way_e {E:Env} (hE:E.P=Tryz.prog) {v vp vc:Value} {xs:List QC} {p:PL} (h:MkR E v vp xs p) (hv:v.oneCell'=true) (hvp:vp.oneCell'=true) (k day:Int) {cs:List (List UInt8)} (hc:Lst E vc 1 cs.length (cat strA cs)) (hn:cs.length≤100) (hn1:2≤cs.length) (hok:∀ c∈cs,curOk c=true):OwnC E 40 [SV.c (.agg (mktA v vp p k day)),SV.c vc] [] (fun x U=>x=optQ (wayO (legQ xs k p day) oneQ cs)∧U=[]):=by
 refine sx_ownC [] tt_ok mixed at40 E hE [SV.c (.agg (mktA v vp p k day)),SV.c vc] [] _ rfl rfl fun w X β hT=>?_
 have hr:=h.of_old hT
 have hc':=hc.of_old hT
 obtain ⟨ac,capc,rfl,hcc,h4⟩:=id hc'.shape
 obtain ⟨b,o,rfl,h5⟩:=h4 (by omega)
 have M:=mktA_size v vp p k day
 have LG:=fun (a b:List UInt8) (ha:curOk a=true) (hb:curOk b=true)=>leg_e (E:=(envC Tryz.prog tt Tryz.f40.ntmps w X (tiedK [] β)).toEnv) rfl hr hv hvp k day ha hb
 generalize mktA v vp p k day=MA at *
 refine ⟨M,.inl ⟨_,whole1_z (n:=1) (by decide) (by decide),RQ.A_fits _,?_⟩⟩
 have hE':VOk (envC Tryz.prog tt Tryz.f40.ntmps w X (tiedK [] β)):=tt_ok
 have S1:=runs_slo hE' Tryz.underlying23 (j:=ti9) rfl (a:=some ⟨b,o,none⟩) (n:=cs.length) (cap:=capc) (k:=.i64) 1 rfl (by omega)
 rw [if_neg (by omega)] at S1
 refine ⟨_,S1,_,fun w' _=>run_len_sl Tryz.underlying23 w',?_⟩
 refine ⟨fun q f m=>∃ (i:Nat) (r:RQ),q=cs.length - 1 - i∧i+1≤cs.length∧r.In∧wayO (legQ xs k p day) oneQ cs=wayO (legQ xs k p day) r (cs.drop i)∧f=[(1,SV.c (.slice (some ⟨b,o,none⟩) cs.length capc)),(2,SV.ptr 2 0),(4,SV.ptr 4 0),(6,SV.ptr 6 0),(13,SV.c (.slice (some ⟨b,o+1,none⟩) (cs.length - 1) (capc - 1))),(14,SV.c (.int .i64 ((cs.length - 1:Nat):Int))),(15,SV.c (.int .i64 (i:Nat)))]∧m=[(2,Blk.row 66 71 MA),(4,Blk.row 29 66 ti29.zero),(6,Blk.row 29 66 r.A)],cs.length - 1,⟨_,_,⟨0,oneQ,rfl,by omega,one_in,rfl,rfl,rfl⟩,⟨rfl,rfl,rfl,rfl,rfl,rfl,rfl,trivial⟩,⟨rfl,rfl,rfl,trivial⟩,rfl⟩,?_⟩
 rintro q f m ⟨i,r,rfl,hi,hrin,hway,rfl,rfl⟩
 have RF:=r.A_fits
 refine ⟨fun g=>?_,fun g=>?_⟩
 ·have g:i < cs.length - 1:=by have:=of_decide_eq_true g;omega
  obtain ⟨c,hci⟩:∃ y,cs[i]? = some y:=⟨_,List.getElem?_eq_getElem (by omega)⟩
  obtain ⟨c',hci'⟩:∃ y,cs[i+1]? = some y:=⟨_,List.getElem?_eq_getElem (by omega)⟩
  have L1:=lst_at hE' h5 strA_size hci (j:=0) (v:=.string (S c)) rfl (ty:=9) (ti:=ti9) rfl rfl (p:=offAt o ((i:Nat):Int) ti9.size) (off_one o i)
  have L2:=lst_at hE' h5 strA_size hci' (j:=0) (v:=.string (S c')) rfl (ty:=9) (ti:=ti9) rfl rfl (p:=offAt (o+1) ((i:Nat):Int) ti9.size) (by rw [off_one (o+1) i];omega)
  have hdrop:cs.drop i=c :: c' :: cs.drop (i+2):=by
   rw [drop_at hci,drop_at hci']
  have hdrop':cs.drop (i+1)=c' :: cs.drop (i+2):=by rw [drop_at hci']
  have hw2:wayO (legQ xs k p day) oneQ cs=match legQ xs k p day c c' with
   | some s=>wayO (legQ xs k p day) (mulQ r s).1 (c' :: cs.drop (i+2))
   | none=>none:=by rw [hway,hdrop];rfl
  have oc:=hok c (List.mem_of_getElem? hci)
  have oc':=hok c' (List.mem_of_getElem? hci')
  have G1:=LG c c' oc oc'
  refine ⟨by omega,by omega,.inl ⟨_,L2,by omega,by omega,.inl ⟨_,L1,?_⟩⟩⟩
  cases e:legQ xs k p day c c' with
  | none =>
   rw [e] at hw2 G1
   have hw2:wayO (legQ xs k p day) oneQ cs=none:=hw2
   refine .inr (.inr (.inl ⟨[],[_,_,_],[],_,[],G1,rfl,trivial,rfl,rfl,(RQ.of 0 0).A_fits,by kernel_rfl,fun c1=>?_,fun c1=>absurd (show true=false from c1) (by decide)⟩))
   refine ⟨_,rfl,(RQ.of 0 0).A_fits,[],[],⟨?_,rfl⟩,trivial,rfl⟩
   rw [hw2];rfl
  | some s =>
   rw [e] at hw2 G1
   have hw2:wayO (legQ xs k p day) oneQ cs=wayO (legQ xs k p day) (mulQ r s).1 (c' :: cs.drop (i+2)):=hw2
   have hs:Leg s:=by
    unfold legQ at e
    split at e
    ·cases e
    ·exact legO_leg (cur_ne oc) (cur_ne oc') e
   refine .inr (.inr (.inl ⟨[],[_,_,_],[],_,[],G1,rfl,trivial,rfl,rfl,s.A_fits,by kernel_rfl,fun c1=>absurd (show false=true from c1) (by decide),fun c1=>?_⟩))
   refine .inl ⟨_,mulR_z hrin hs.in_,RQ.A_fits _,?_⟩
   refine ⟨cs.length - 1 - (i+1),_,_,by omega,⟨i+1,(mulQ r s).1,rfl,by omega,mulQ_in _ _,by rw [hdrop'];exact hw2,rfl,rfl⟩,⟨rfl,rfl,rfl,rfl,rfl,rfl,c_int (i64_succ (by omega)),trivial⟩,⟨rfl,rfl,rfl,trivial⟩,rfl⟩
 ·have g:i=cs.length - 1:=by have:=of_decide_eq_false g;omega
  subst g
  obtain ⟨c,hci⟩:∃ y,cs[cs.length - 1]? = some y:=⟨_,List.getElem?_eq_getElem (by omega)⟩
  have hd:cs.drop (cs.length - 1)=[c]:=by
   rw [drop_at hci,List.drop_eq_nil_of_le (by omega)]
  have hway:wayO (legQ xs k p day) oneQ cs=some r:=by rw [hway,hd];rfl
  refine ⟨RF,[],[],⟨?_,rfl⟩,trivial,rfl⟩
  rw [hway];rfl
theorem way_eo {E:Env} (hE:E.P=Tryz.prog) {v vp vc:Value} {xs:List QC} {p:PL} (h:MkR E v vp xs p) (hv:v.oneCell'=true) (hvp:vp.oneCell'=true) (k day:Int) {cs:List (List UInt8)} {n:Nat} (hcn:n=cs.length) (hn:n≤100) (hn1:2≤n) (hok:∀ c∈cs,curOk c=true):OwnC E 40 [SV.c (.agg (mktA v vp p k day)),SV.c vc] [(9300,Blk.own vc 9 1 n (cat strA cs))] (fun x U=>x=optQ (wayO (legQ xs k p day) oneQ cs)∧U=[(9300,Blk.own vc 9 1 n (cat strA cs))]):=by
 subst hcn
 refine (OwnC.with_own2 (k:=9300) (v:=vc) (e:=9) (sz:=1) (n:=cs.length) (A:=cat strA cs) (pre:=[]) (Q:=fun x U=>x=optQ (wayO (legQ xs k p day) oneQ cs)∧U=[]) rfl rfl (Go.SX.cat_all strA_one cs) (by rw [hE];exact at40.enters) (fun E0 h0 ho hl=>way_e (h0.trans hE) (h.of_old ho) hv hvp k day hl hn hn1 hok) (fun x U h=>by rw [h.2];rfl)).mono ?_
 rintro r U ⟨U0,⟨h1,rfl⟩,rfl⟩
 exact ⟨h1,rfl⟩
theorem fill_str2 (a b:List UInt8):Instr.fill (fun k=>some (k*ti9.size,ti9.size)) (madeCells ti9.zero (2*ti9.size)) [(0,.string (S a)),(1,.string (S b))]=some (cat strA [a,b]):=by kernel_rfl
theorem fill_str3 (a b c:List UInt8):Instr.fill (fun k=>some (k*ti9.size,ti9.size)) (madeCells ti9.zero (3*ti9.size)) [(0,.string (S a)),(1,.string (S b)),(2,.string (S c))]=some (cat strA [a,b,c]):=by kernel_rfl
theorem fill_mkt (b:Option Addr) (n d:Nat) (a:Option Addr) (m c:Nat) (p:PL) (k day:Int) {pl:List (Nat×Nat)} (hpl:pl=[(0,1),(1,68),(69,1),(70,1)]):Instr.fill (fun k=>pl[k]?) ti66.zero [(0,.slice b n d),(1,.agg (p.A (.slice a m c))),(2,.int .i64 k),(3,.int .i64 day)]=some (mktA (.slice b n d) (.slice a m c) p k day):=by
 subst hpl
 have:=fill_all (pl:=fun k=>[(0,1),(1,68),(69,1),(70,1)][k]?) (vs:=[.slice b n d,.agg (p.A (.slice a m c)),.int .i64 k,.int .i64 day]) (Z:=ti66.zero) ⟨by simp [Value.cells],by simp [Value.cells,PL.size],by simp [Value.cells,PL.size],by simp [Value.cells,PL.size],trivial⟩ (by simp [catV,Value.cells,PL.size];rfl)
 rw [show catV [.slice b n d,.agg (p.A (.slice a m c)),.int .i64 k,.int .i64 day]=mktA (.slice b n d) (.slice a m c) p k day by simp [catV,Value.cells,mktA]] at this
 exact this
def legR (xs:List QC) (k:Int) (p:PL) (day:Int) (a b:List UInt8):Value:=.tuple #[.agg (if mktC xs p day [a,b]=0 then (legQ xs k p day a b).getD zeroQ else zeroQ).A,.bool (if mktC xs p day [a,b]=0 then (legQ xs k p day a b).isSome else false),.int .i64 (mktC xs p day [a,b])]
theorem Leg_e {E:Env} (hE:E.P=Tryz.prog) {v vp:Value} {xs:List QC} {p:PL} (h:MkR E v vp xs p) (k day:Int) {a b:List UInt8}:OwnC E 11 [SV.c v,SV.c (.agg (p.A vp)),SV.c (.int .i64 k),SV.c (.string (S a)),SV.c (.string (S b)),SV.c (.int .i64 day)] [] (fun x U=>x=legR xs k p day a b∧U=[]):=by
 refine sx_ownC [] tt_ok mixed at11 E hE [SV.c v,SV.c (.agg (p.A vp)),SV.c (.int .i64 k),SV.c (.string (S a)),SV.c (.string (S b)),SV.c (.int .i64 day)] [] _ rfl rfl fun w X β hT=>?_
 have hr:=h.of_old hT
 obtain ⟨ap,capp,rfl,hcp,-⟩:=id hr.s.shape
 obtain ⟨av,capv,rfl,hcv,-⟩:=id hr.l.shape
 have F1:=p.size (.slice ap p.srcs.length capp)
 have FM:=fill_mkt av xs.length capv ap p.srcs.length capp p k day (pl:=[(0,1),(1,68),(69,1),(70,1)]) rfl
 have MF:=mktA_fits (v:=.slice av xs.length capv) (vp:=.slice ap p.srcs.length capp) p k day rfl rfl
 have CK:=fun (g:Nat)=>check_eo (E:=(envC Tryz.prog tt Tryz.f11.ntmps w X (tiedK [] β)).toEnv) rfl hr k day (cs:=[a,b]) (n:=2) (vc:=.slice (some ⟨g,0,none⟩) 2 2) rfl (by decide)
 have LG:=fun ha hb=>leg_e (E:=(envC Tryz.prog tt Tryz.f11.ntmps w X (tiedK [] β)).toEnv) rfl hr rfl rfl k day (a:=a) (b:=b) ha hb
 generalize mktA (.slice av xs.length capv) (.slice ap p.srcs.length capp) p k day=MA at *
 generalize p.A (.slice ap p.srcs.length capp)=PA at *
 refine ⟨F1,MA,FM,MF,?_⟩
 refine .inr ⟨by decide,by decide,by decide,_,fill_str2 a b,rfl,trivial,fun g=>?_⟩
 refine .inr (.inr (.inl ⟨[(9300,27)],[_,_],[_],_,[_],CK g,rfl,⟨.inl rfl,trivial⟩,rfl,rfl,fun c=>?_,fun c=>?_⟩))
 ·have c:(mktC xs p day [a,b] != 0)=true:=c
  refine ⟨_,rfl,(RQ.of 0 0).A_fits,[],[],⟨?_,rfl⟩,trivial,rfl⟩
  rw [legR,if_neg (by simpa using c),if_neg (by simpa using c)];rfl
 ·have c:(mktC xs p day [a,b] != 0)=false:=c
  have c:mktC xs p day [a,b]=0:=by simpa using c
  obtain ⟨-,-,-,-,hall⟩:=mktC_ok c
  have G1:=LG (hall a (by simp)) (hall b (by simp))
  refine .inr (.inr (.inl ⟨[],[_,_,_],[],_,[],G1,rfl,trivial,rfl,rfl,RQ.A_fits _,RQ.A_fits _,[],[],⟨?_,rfl⟩,trivial,rfl⟩))
  rw [legR,if_pos c,if_pos c,c];rfl
theorem wayO_2 {f:List UInt8→List UInt8→Option RQ} {a b:List UInt8} (hok:∀ r,f a b=some r→r.ok=true):wayO f oneQ [a,b]=f a b:=by
 show (match f a b with | some s=>some (mulQ oneQ s).1 | none=>none)=_
 cases e:f a b with
 | none=>rfl
 | some s=>show some (mulQ oneQ s).1=_;rw [one_mulQ (hok s e)]
theorem wayO_3 {f:List UInt8→List UInt8→Option RQ} {a b c:List UInt8} (hok:∀ r,f a b=some r→r.ok=true):wayO f oneQ [a,b,c]=match f a b,f b c with
    | some x,some y=>some (mulQ x y).1
    | _,_=>none:=by
 show (match f a b with | some s=>(match f b c with | some t=>some (mulQ (mulQ oneQ s).1 t).1 | none=>none) | none=>none)=_
 cases e:f a b with
 | none=>rfl
 | some s =>
  show (match f b c with | some t=>some (mulQ (mulQ oneQ s).1 t).1 | none=>none)=_
  rw [one_mulQ (hok s e)]
  cases f b c<;>rfl
theorem legQ_ok {xs:List QC} {k:Int} {p:PL} {day:Int} {a b:List UInt8} (ha:curOk a=true) (hb:curOk b=true) {r:RQ} (h:legQ xs k p day a b=some r):Leg r:=by
 unfold legQ at h
 split at h
 ·cases h
 ·exact legO_leg (cur_ne ha) (cur_ne hb) h
theorem legQ_ne {xs:List QC} {k:Int} {p:PL} {day:Int} {a b:List UInt8} (h:a≠b):legQ xs k p day a b=legO xs k p day a b:=by unfold legQ;rw [if_neg h]
theorem rateQ_1 {xs:List QC} {k:Int} {p:PL} {day:Int} {v a b:List UInt8} (h:mktC xs p day [v,a,b]≠0):rateQ xs k p day v a b=(zeroQ,mktC xs p day [v,a,b]):=by unfold rateQ;rw [if_pos h]
theorem rateQ_2 {xs:List QC} {k:Int} {p:PL} {day:Int} {v a b:List UInt8} (h:mktC xs p day [v,a,b]=0) (h2:a=b):rateQ xs k p day v a b=(oneQ,0):=by unfold rateQ;rw [if_neg (fun g=>g h),if_pos h2]
theorem rateQ_3 {xs:List QC} {k:Int} {p:PL} {day:Int} {v a b:List UInt8} (h:mktC xs p day [v,a,b]=0) (h2:a≠b) {r:RQ} (h3:legO xs k p day a b=some r):rateQ xs k p day v a b=(r,0):=by unfold rateQ;rw [if_neg (fun g=>g h),if_neg h2,h3]
theorem rateQ_4 {xs:List QC} {k:Int} {p:PL} {day:Int} {v a b:List UInt8} (h:mktC xs p day [v,a,b]=0) (h2:a≠b) (h3:legO xs k p day a b=none) (h4:v=a∨v=b):rateQ xs k p day v a b=(zeroQ,161):=by unfold rateQ;rw [if_neg (fun g=>g h),if_neg h2,h3];simp only [];rw [if_pos h4]
theorem rateQ_5 {xs:List QC} {k:Int} {p:PL} {day:Int} {v a b:List UInt8} (h:mktC xs p day [v,a,b]=0) (h2:a≠b) (h3:legO xs k p day a b=none) (h4:¬ (v=a∨v=b)):rateQ xs k p day v a b=(match legO xs k p day a v,legO xs k p day v b with
    | some x,some y=>mulQ x y
    | _,_=>(zeroQ,161)):=by unfold rateQ;rw [if_neg (fun g=>g h),if_neg h2,h3];simp only [];rw [if_neg h4];rfl
theorem resZ0 (n:Int):mkRes [.agg ti29.zero,.int .i64 n]=resQ (zeroQ,n):=by kernel_rfl
theorem Rate_e {E:Env} (hE:E.P=Tryz.prog) {v vp:Value} {xs:List QC} {p:PL} (h:MkR E v vp xs p) (k day:Int) {u a b:List UInt8}:OwnC E 13 [SV.c v,SV.c (.agg (p.A vp)),SV.c (.int .i64 k),SV.c (.string (S u)),SV.c (.string (S a)),SV.c (.string (S b)),SV.c (.int .i64 day)] [] (fun x U=>x=resQ (rateQ xs k p day u a b)∧U=[]):=by
 refine sx_ownC [] tt_ok mixed at13 E hE [SV.c v,SV.c (.agg (p.A vp)),SV.c (.int .i64 k),SV.c (.string (S u)),SV.c (.string (S a)),SV.c (.string (S b)),SV.c (.int .i64 day)] [] _ rfl rfl fun w X β hT=>?_
 have hr:=h.of_old hT
 obtain ⟨ap,capp,rfl,hcp,-⟩:=id hr.s.shape
 obtain ⟨av,capv,rfl,hcv,-⟩:=id hr.l.shape
 have F1:=p.size (.slice ap p.srcs.length capp)
 have FM:=fill_mkt av xs.length capv ap p.srcs.length capp p k day (pl:=[(0,1),(1,68),(69,1),(70,1)]) rfl
 have MF:=mktA_fits (v:=.slice av xs.length capv) (vp:=.slice ap p.srcs.length capp) p k day rfl rfl
 have CK:=fun (g:Nat)=>check_eo (E:=(envC Tryz.prog tt Tryz.f13.ntmps w X (tiedK [] β)).toEnv) rfl hr k day (cs:=[u,a,b]) (n:=3) (vc:=.slice (some ⟨g,0,none⟩) 3 3) rfl (by decide)
 have W2:=fun (g:Nat) hok=>way_eo (E:=(envC Tryz.prog tt Tryz.f13.ntmps w X (tiedK [] β)).toEnv) rfl hr rfl rfl k day (cs:=[a,b]) (n:=2) (vc:=.slice (some ⟨g,0,none⟩) 2 2) rfl (by decide) (by decide) hok
 have W3:=fun (g:Nat) hok=>way_eo (E:=(envC Tryz.prog tt Tryz.f13.ntmps w X (tiedK [] β)).toEnv) rfl hr rfl rfl k day (cs:=[a,u,b]) (n:=3) (vc:=.slice (some ⟨g,0,none⟩) 3 3) rfl (by decide) (by decide) hok
 generalize mktA (.slice av xs.length capv) (.slice ap p.srcs.length capp) p k day=MA at *
 generalize p.A (.slice ap p.srcs.length capp)=PA at *
 refine ⟨F1,MA,FM,MF,?_⟩
 refine .inr ⟨by decide,by decide,by decide,_,fill_str3 u a b,rfl,trivial,fun g=>?_⟩
 refine .inr (.inr (.inl ⟨[(9300,31)],[_,_],[_],_,[_],CK g,rfl,⟨.inl rfl,trivial⟩,rfl,rfl,fun c=>?_,fun c=>?_⟩))
 ·have c:(mktC xs p day [u,a,b] != 0)=true:=c
  refine ⟨_,rfl,(RQ.of 0 0).A_fits,[],[],⟨?_,rfl⟩,trivial,rfl⟩
  rw [rateQ_1 (by simpa using c)];exact resZ0 _
 ·have c:(mktC xs p day [u,a,b] != 0)=false:=c
  have c:mktC xs p day [u,a,b]=0:=by simpa using c
  obtain ⟨-,-,-,-,hall⟩:=mktC_ok c
  have hu:=hall u (by simp)
  have ha:=hall a (by simp)
  have hb:=hall b (by simp)
  refine ⟨fun d=>?_,fun d=>?_⟩
  ·have d:=str_eq d
   refine .inl ⟨_,whole1_z (n:=1) (by decide) (by decide),RQ.A_fits _,[],[],⟨?_,rfl⟩,trivial,rfl⟩
   rw [rateQ_2 c d];rfl
  ·have d:=str_ne d
   refine .inr ⟨by decide,by decide,by decide,_,fill_str2 a b,rfl,trivial,fun g2=>?_⟩
   have G2:=W2 g2 (by intro z hz;simp at hz;rcases hz with rfl | rfl;exact ha;exact hb)
   rw [wayO_2 (fun r hr=>(legQ_ok ha hb hr).ok),legQ_ne d] at G2
   cases e:legO xs k p day a b with
   | some r =>
    rw [e] at G2
    refine .inr (.inr (.inl ⟨[(9300,45)],[_,_],[_],_,[_],G2,rfl,⟨.inl rfl,trivial⟩,rfl,rfl,RQ.A_fits _,fun c1=>?_,fun c1=>absurd (show true=false from c1) (by decide)⟩))
    refine ⟨RQ.A_fits _,[],[],⟨?_,rfl⟩,trivial,rfl⟩
    rw [rateQ_3 c d e];rfl
   | none =>
    rw [e] at G2
    refine .inr (.inr (.inl ⟨[(9300,45)],[_,_],[_],_,[_],G2,rfl,⟨.inl rfl,trivial⟩,rfl,rfl,RQ.A_fits _,fun c1=>absurd (show false=true from c1) (by decide),fun c1=>?_⟩))
    refine ⟨fun z1=>?_,fun z1=>?_⟩
    ·have z1:(!((S u).toList == (S a).toList))=true:=z1
     have z1:u≠a:=str_ne (by simpa using z1)
     refine ⟨fun z2=>?_,fun z2=>?_⟩
     ·have z2:(!((S u).toList == (S b).toList))=true:=z2
      have z2:u≠b:=str_ne (by simpa using z2)
      have hq:=rateQ_5 c d e (by rintro (h | h);exact z1 h;exact z2 h)
      refine .inr ⟨by decide,by decide,by decide,_,fill_str3 a u b,rfl,trivial,fun g3=>?_⟩
      have G3:=W3 g3 (by intro z hz;simp at hz;rcases hz with rfl | rfl | rfl;exact ha;exact hu;exact hb)
      have W:=wayO_3 (f:=legQ xs k p day) (a:=a) (b:=u) (c:=b) (fun r hr=>(legQ_ok ha hu hr).ok)
      rw [legQ_ne (fun h=>z1 h.symm),legQ_ne z2] at W
      cases e1:legO xs k p day a u with
      | none =>
       rw [e1] at W hq
       have W:wayO (legQ xs k p day) oneQ [a,u,b]=none:=W
       rw [W] at G3
       have hq:rateQ xs k p day u a b=(zeroQ,161):=hq
       refine .inr (.inr (.inl ⟨[(9300,64)],[_,_],[_],_,[_],G3,rfl,⟨.inl rfl,trivial⟩,rfl,rfl,RQ.A_fits _,fun c1=>absurd (show false=true from c1) (by decide),fun _=>?_⟩))
       refine ⟨_,rfl,(RQ.of 0 0).A_fits,[],[],⟨?_,rfl⟩,trivial,rfl⟩
       rw [hq];exact resZ0 _
      | some x =>
       cases e2:legO xs k p day u b with
       | none =>
        rw [e1,e2] at W hq
        have W:wayO (legQ xs k p day) oneQ [a,u,b]=none:=W
        rw [W] at G3
        have hq:rateQ xs k p day u a b=(zeroQ,161):=hq
        refine .inr (.inr (.inl ⟨[(9300,64)],[_,_],[_],_,[_],G3,rfl,⟨.inl rfl,trivial⟩,rfl,rfl,RQ.A_fits _,fun c1=>absurd (show false=true from c1) (by decide),fun _=>?_⟩))
        refine ⟨_,rfl,(RQ.of 0 0).A_fits,[],[],⟨?_,rfl⟩,trivial,rfl⟩
        rw [hq];exact resZ0 _
       | some y =>
        rw [e1,e2] at W hq
        have W:wayO (legQ xs k p day) oneQ [a,u,b]=some (mulQ x y).1:=W
        have hq:rateQ xs k p day u a b=mulQ x y:=hq
        have lx:=legO_leg (cur_ne ha) (cur_ne hu) e1
        have ly:=legO_leg (cur_ne hu) (cur_ne hb) e2
        obtain ⟨t,m1,-,-,-,-⟩:=mul_leg lx ly
        rw [m1] at W hq
        rw [W] at G3
        refine .inr (.inr (.inl ⟨[(9300,64)],[_,_],[_],_,[_],G3,rfl,⟨.inl rfl,trivial⟩,rfl,rfl,RQ.A_fits _,fun _=>?_,fun c1=>absurd (show true=false from c1) (by decide)⟩))
        refine ⟨RQ.A_fits _,[],[],⟨?_,rfl⟩,trivial,rfl⟩
        rw [hq];rfl
     ·have z2:(!((S u).toList == (S b).toList))=false:=z2
      have z2:u=b:=str_eq (by simpa using z2)
      refine ⟨_,rfl,(RQ.of 0 0).A_fits,[],[],⟨?_,rfl⟩,trivial,rfl⟩
      rw [rateQ_4 c d e (.inr z2)];exact resZ0 _
    ·have z1:(!((S u).toList == (S a).toList))=false:=z1
     have z1:u=a:=str_eq (by simpa using z1)
     refine ⟨fun h=>absurd h (by decide),fun _=>?_⟩
     refine ⟨_,rfl,(RQ.of 0 0).A_fits,[],[],⟨?_,rfl⟩,trivial,rfl⟩
     rw [rateQ_4 c d e (.inl z1)];exact resZ0 _
theorem mulQ_comm (r s:RQ):mulQ r s=mulQ s r:=by
 unfold mulQ
 rw [Bool.and_comm,Int.mul_comm r.p,Int.mul_comm r.q]
def convQ (a:Int) (r:RQ) (mode:Int):Int×Int :=
 if a < -1000000000000000∨a > 1000000000000000 then (0,33) else if !r.ok then (0,20) else if mode < 1∨mode > 6 then (0,31) else
 if (mulQ r (.of a 1)).2≠0 then (0,(mulQ r (.of a 1)).2) else rndI (rndQ (mulQ r (.of a 1)).1 0 mode)
theorem of_ok {n:Int} (hn:Bd 60 n):(RQ.of n 1).ok=true:=by
 rw [of_mk hn]
 obtain ⟨r,e1,e2,e3,e4,e5⟩:=mkQ_v (y:=1) (by decide) hn (show Bd 1 1 from by unfold Bd;decide)
 rw [e1];exact e2
theorem conv_one {a:Int} (h1 : -1000000000000000≤a) (h2:a≤1000000000000000):convQ a oneQ 3=(a,0):=by
 have hb:Bd 60 a:=bd60 (by omega) (by omega)
 have hk:=of_ok hb
 unfold convQ
 rw [if_neg (by omega),one_ok]
 rw [one_mulQ hk]
 simp only [Bool.not_true,Bool.false_eq_true,if_false]
 rw [if_neg (by omega),if_neg (by simp)]
 have:rndQ (RQ.of a 1) 0 3=(a,0):=by
  unfold rndQ
  rw [hk,RQ.of_p,RQ.of_q]
  simp only [Bool.not_true,Bool.false_eq_true,if_false]
  rw [if_neg (by omega),if_neg (by omega)]
  have ht:((tp (0:Int).toNat:Nat):Int)=1:=rfl
  rw [ht,Int.mul_one]
  unfold rndZ
  rw [if_pos (by omega),Int.ediv_one]
 rw [this]
 unfold rndI
 rw [if_neg (by simp),if_neg (by simp;omega)]
theorem rnd0_mk {i j:Nat} {a b:Int} (hb:0 < b) (h1:Bd i a) (h2:Bd j b) (hi:i < 480:=by decide) (hj:j < 480:=by decide):∃ c:Int,rndQ (mkQ a b).1 0 6=(c,0)∧-b≤2*(c*b - a)∧2*(c*b - a)≤b:=by
 obtain ⟨r,e1,e2,e3,e4,e5⟩:=mkQ_v hb h1 h2 hi hj
 obtain ⟨-,-,q1,-,-⟩:=RQ.ok_bits e2
 have ht:((tp (0:Int).toNat:Nat):Int)=1:=rfl
 refine ⟨rndZ 6 r.p r.q,?_,?_⟩
 ·rw [e1,rndQ]
  simp only [e2]
  rw [ht,Int.mul_one]
  simp
 ·obtain ⟨h3,h4⟩:=rnd_half (x:=r.p) q1
  generalize rndZ 6 r.p r.q=c at *
  have e6:(2*(c*b - a))*r.q=(2*(c*r.q - r.p))*b:=by
   have x1:(2*(c*b - a))*r.q=2*(c*b*r.q - a*r.q):=by
    rw [Int.mul_assoc,Int.sub_mul]
   have x2:(2*(c*r.q - r.p))*b=2*(c*b*r.q - r.p*b):=by
    rw [Int.mul_assoc,Int.sub_mul]
    congr 1
    congr 1
    ac_rfl
   rw [x1,x2,e3]
  constructor
  ·have:=Int.mul_le_mul_of_nonneg_right h3 (show 0≤b by omega)
   rw [← e6] at this
   have x : -r.q*b=(-b)*r.q:=by rw [Int.neg_mul,Int.neg_mul,Int.mul_comm]
   rw [x] at this
   exact Int.le_of_mul_le_mul_right this q1
  ·have:=Int.mul_le_mul_of_nonneg_right h4 (show 0≤b by omega)
   rw [← e6,Int.mul_comm r.q b] at this
   exact Int.le_of_mul_le_mul_right this q1
theorem conv_price {n d:Int} (n1:1≤n) (n2:n≤200000) (d1:1≤d) (d2:d≤1000000) (p2:(mkQ n d).1.ok=true) {a:Int} (h1 : -2000000≤a) (h2:a≤2000000):∃ c:Int,convQ a (mkQ n d).1 6=(c,0)∧-d≤2*(c*d - a*n)∧2*(c*d - a*n)≤d:=by
 have hba:Bd 60 a:=bd60 (by omega) (by omega)
 have hbn:Bd 60 n:=bd60 (by omega) (by omega)
 have hbd:Bd 60 d:=bd60 (by omega) (by omega)
 have hb1:Bd 1 (1:Int):=by unfold Bd;decide
 have hm:mulQ (mkQ n d).1 (.of a 1)=mkQ (n*a) (d*1):=by
  rw [of_mk hba]
  exact mulQ_mk (by omega) (by decide) hbn hbd hba hb1
 have hx:Bd 120 (n*a):=hbn.mul hba
 rw [Int.mul_one] at hm
 obtain ⟨k1,k2⟩:=mkQ_ok (show 0 < d by omega) hx hbd
 obtain ⟨c,c1,c2,c3⟩:=rnd0_mk (show 0 < d by omega) hx hbd
 refine ⟨c,?_,by rw [Int.mul_comm a n];exact c2,by rw [Int.mul_comm a n];exact c3⟩
 unfold convQ
 rw [if_neg (by omega),p2]
 simp only [Bool.not_true,Bool.false_eq_true,if_false]
 rw [if_neg (by omega),hm,k2,if_neg (by simp),c1]
 have b1:n*a≤200000*2000000:=by
  rcases Int.le_total 0 a with h | h
  ·exact Int.mul_le_mul n2 h2 h (by decide)
  ·have:=Int.mul_nonneg (show 0≤n by omega) (show 0≤-a by omega)
   rw [Int.mul_neg] at this;omega
 have b2 : -(200000*2000000)≤n*a:=by
  rcases Int.le_total 0 a with h | h
  ·have:=Int.mul_nonneg (show 0≤n by omega) h;omega
  ·have:=Int.mul_le_mul n2 (show -a≤2000000 by omega) (show 0≤-a by omega) (by decide)
   rw [Int.mul_neg] at this;omega
 have b3:c≤1000000000000000:=by
  rcases Int.lt_or_le 1000000000000000 c with h | h
  ·have:=Int.mul_le_mul_of_nonneg_right (show 1000000000000001≤c by omega) (show 0≤d by omega)
   omega
  ·exact h
 have b4 : -1000000000000000≤c:=by
  rcases Int.lt_or_le c (-1000000000000000) with h | h
  ·have:=Int.mul_le_mul_of_nonneg_right (show c≤-1000000000000001 by omega) (show 0≤d by omega)
   omega
  ·exact h
 unfold rndI
 rw [if_neg (by simp),if_neg (by simp;omega)]
theorem conv_mono {r:RQ} (hr:isPrice r) {a b:Int} (h1 : -1000000≤a) (h2:a≤b) (h3:b≤1000010):∃ x y:Int,convQ a r 6=(x,0)∧convQ b r 6=(y,0)∧x≤y:=by
 obtain ⟨n,d,rfl,n1,n2,d1,d2,d3,p1,p2,p3⟩:=price_of hr
 obtain ⟨c,e1,l1,l2⟩:=conv_price n1 n2 d1 d2 p2 (a:=a) (by omega) (by omega)
 rcases Int.lt_or_eq_of_le h2 with hlt | rfl
 ·obtain ⟨c',e2,m1,m2⟩:=conv_price n1 n2 d1 d2 p2 (a:=b) (by omega) (by omega)
  refine ⟨c,c',e1,e2,?_⟩
  have hb:a*n+n≤b*n:=by
   have:=Int.mul_le_mul_of_nonneg_right (show a+1≤b by omega) (show 0≤n by omega)
   rw [Int.add_mul,Int.one_mul] at this;omega
  rcases Int.lt_or_le c' c with h | h
  ·have:=Int.mul_le_mul_of_nonneg_right (show c'+1≤c by omega) (show 0≤d by omega)
   rw [Int.add_mul,Int.one_mul] at this
   omega
  ·exact h
 ·exact ⟨c,c,e1,e1,Int.le_refl _⟩
theorem Leg_r {E:Env} (hE:E.P=Tryz.prog) {v vp:Value} {xs:List QC} {p:PL} (h:MkR E v vp xs p) (k day:Int) {a b:List UInt8}:OwnC E 12 [SV.c v,SV.c (.agg (p.A vp)),SV.c (.int .i64 k),SV.c (.string (S a)),SV.c (.string (S b)),SV.c (.int .i64 day)] [] (fun x U=>x=legR xs k p day a b∧U=[]):=by
 refine sx_ownC [] tt_ok mixed at12 E hE [SV.c v,SV.c (.agg (p.A vp)),SV.c (.int .i64 k),SV.c (.string (S a)),SV.c (.string (S b)),SV.c (.int .i64 day)] [] _ rfl rfl fun w X β hT=>?_
 have hr:=h.of_old hT
 obtain ⟨ap,capp,rfl,hcp,-⟩:=id hr.s.shape
 have F1:=p.size (.slice ap p.srcs.length capp)
 have CK:=fun (g:Nat)=>check_ero (E:=(envC Tryz.prog tt Tryz.f12.ntmps w X (tiedK [] β)).toEnv) rfl hr day (cs:=[a,b]) (n:=2) (vc:=.slice (some ⟨g,0,none⟩) 2 2) rfl (by decide)
 have LG:=fun ha hb=>leg_er (E:=(envC Tryz.prog tt Tryz.f12.ntmps w X (tiedK [] β)).toEnv) rfl hr k day (a:=a) (b:=b) ha hb
 generalize p.A (.slice ap p.srcs.length capp)=PA at *
 refine ⟨F1,?_⟩
 refine .inr ⟨by decide,by decide,by decide,_,fill_str2 a b,rfl,trivial,fun g=>?_⟩
 refine .inr (.inr (.inl ⟨[(9300,23)],[_,_,_,_],[_],_,[_],CK g,rfl,⟨.inl rfl,trivial⟩,rfl,rfl,fun c=>?_,fun c=>?_⟩))
 ·have c:(mktC xs p day [a,b] != 0)=true:=c
  refine ⟨_,rfl,(RQ.of 0 0).A_fits,[],[],⟨?_,rfl⟩,trivial,rfl⟩
  rw [legR,if_neg (by simpa using c),if_neg (by simpa using c)];rfl
 ·have c:(mktC xs p day [a,b] != 0)=false:=c
  have c:mktC xs p day [a,b]=0:=by simpa using c
  obtain ⟨-,-,-,-,hall⟩:=mktC_ok c
  refine ⟨fun d=>?_,fun d=>?_⟩
  ·have d:=str_eq d
   refine ⟨_,rfl,(RQ.of 0 0).A_fits,[],[],⟨?_,rfl⟩,trivial,rfl⟩
   rw [legR,if_pos c,if_pos c,c,show legQ xs k p day a b=none from if_pos d];rfl
  ·have d:=str_ne d
   have G1:=LG (hall a (by simp)) (hall b (by simp))
   refine .inr (.inr (.inl ⟨[],[_,_,_,_,_,_],[],_,[],G1,rfl,trivial,rfl,rfl,RQ.A_fits _,RQ.A_fits _,[],[],⟨?_,rfl⟩,trivial,rfl⟩))
   rw [legR,if_pos c,if_pos c,c,legQ_ne d];rfl
theorem Rate_r {E:Env} (hE:E.P=Tryz.prog) {v vp:Value} {xs:List QC} {p:PL} (h:MkR E v vp xs p) (k day:Int) {u a b:List UInt8}:OwnC E 14 [SV.c v,SV.c (.agg (p.A vp)),SV.c (.int .i64 k),SV.c (.string (S u)),SV.c (.string (S a)),SV.c (.string (S b)),SV.c (.int .i64 day)] [] (fun x U=>x=resQ (rateQ xs k p day u a b)∧U=[]):=by
 refine sx_ownC [] tt_ok mixed at14 E hE [SV.c v,SV.c (.agg (p.A vp)),SV.c (.int .i64 k),SV.c (.string (S u)),SV.c (.string (S a)),SV.c (.string (S b)),SV.c (.int .i64 day)] [] _ rfl rfl fun w X β hT=>?_
 have hr:=h.of_old hT
 obtain ⟨ap,capp,rfl,hcp,-⟩:=id hr.s.shape
 have F1:=p.size (.slice ap p.srcs.length capp)
 have CK:=fun (g:Nat)=>check_ero (E:=(envC Tryz.prog tt Tryz.f14.ntmps w X (tiedK [] β)).toEnv) rfl hr day (cs:=[u,a,b]) (n:=3) (vc:=.slice (some ⟨g,0,none⟩) 3 3) rfl (by decide)
 have LG:=fun a b ha hb=>leg_er (E:=(envC Tryz.prog tt Tryz.f14.ntmps w X (tiedK [] β)).toEnv) rfl hr k day (a:=a) (b:=b) ha hb
 generalize p.A (.slice ap p.srcs.length capp)=PA at *
 refine ⟨F1,?_⟩
 refine .inr ⟨by decide,by decide,by decide,_,fill_str3 u a b,rfl,trivial,fun g=>?_⟩
 refine .inr (.inr (.inl ⟨[(9300,29)],[_,_,_,_],[_],_,[_],CK g,rfl,⟨.inl rfl,trivial⟩,rfl,rfl,fun c=>?_,fun c=>?_⟩))
 ·have c:(mktC xs p day [u,a,b] != 0)=true:=c
  refine ⟨_,rfl,(RQ.of 0 0).A_fits,[],[],⟨?_,rfl⟩,trivial,rfl⟩
  rw [rateQ_1 (by simpa using c)];exact resZ0 _
 ·have c:(mktC xs p day [u,a,b] != 0)=false:=c
  have c:mktC xs p day [u,a,b]=0:=by simpa using c
  obtain ⟨-,-,-,-,hall⟩:=mktC_ok c
  have hu:=hall u (by simp)
  have ha:=hall a (by simp)
  have hb:=hall b (by simp)
  refine ⟨fun d=>?_,fun d=>?_⟩
  ·have d:=str_eq d
   refine .inl ⟨_,one_r,RQ.A_fits _,[],[],⟨?_,rfl⟩,trivial,rfl⟩
   rw [rateQ_2 c d];rfl
  ·have d:=str_ne d
   have G1:=LG a b ha hb
   cases e:legO xs k p day a b with
   | some r =>
    rw [e] at G1
    refine .inr (.inr (.inl ⟨[],[_,_,_,_,_,_],[],_,[],G1,rfl,trivial,rfl,rfl,RQ.A_fits _,fun _=>?_,fun c1=>absurd (show true=false from c1) (by decide)⟩))
    refine ⟨RQ.A_fits _,[],[],⟨?_,rfl⟩,trivial,rfl⟩
    rw [rateQ_3 c d e];rfl
   | none =>
    rw [e] at G1
    refine .inr (.inr (.inl ⟨[],[_,_,_,_,_,_],[],_,[],G1,rfl,trivial,rfl,rfl,RQ.A_fits _,fun c1=>absurd (show false=true from c1) (by decide),fun _=>?_⟩))
    refine ⟨fun z1=>?_,fun z1=>?_⟩
    ·have z1:=str_ne z1
     refine ⟨fun z2=>?_,fun z2=>?_⟩
     ·have z2:u=b:=str_eq z2
      refine ⟨_,rfl,(RQ.of 0 0).A_fits,[],[],⟨?_,rfl⟩,trivial,rfl⟩
      rw [rateQ_4 c d e (.inr z2)];exact resZ0 _
     ·have z2:u≠b:=str_ne z2
      have hq:=rateQ_5 c d e (by rintro (h | h);exact z1 h;exact z2 h)
      have G2:=LG a u ha hu
      have G3:=LG u b hu hb
      cases e1:legO xs k p day a u with
      | none =>
       rw [e1] at G2 hq
       have hq:rateQ xs k p day u a b=(zeroQ,161):=hq
       refine .inr (.inr (.inl ⟨[],[_,_,_,_,_,_],[],_,[],G2,rfl,trivial,rfl,rfl,RQ.A_fits _,?_⟩))
       refine .inr (.inr (.inl ⟨[],[_,_,_,_,_,_],[],_,[],G3,rfl,trivial,rfl,rfl,RQ.A_fits _,?_⟩))
       refine ⟨fun c1=>absurd (show true=false from c1) (by decide),fun _=>⟨fun _=>?_,fun c1=>absurd (show true=false from c1) (by decide)⟩⟩
       refine ⟨_,rfl,(RQ.of 0 0).A_fits,[],[],⟨?_,rfl⟩,trivial,rfl⟩
       rw [hq];exact resZ0 _
      | some x =>
       rw [e1] at G2
       have lx:=legO_leg (cur_ne ha) (cur_ne hu) e1
       refine .inr (.inr (.inl ⟨[],[_,_,_,_,_,_],[],_,[],G2,rfl,trivial,rfl,rfl,RQ.A_fits _,?_⟩))
       cases e2:legO xs k p day u b with
       | none =>
        rw [e1,e2] at hq
        rw [e2] at G3
        have hq:rateQ xs k p day u a b=(zeroQ,161):=hq
        refine .inr (.inr (.inl ⟨[],[_,_,_,_,_,_],[],_,[],G3,rfl,trivial,rfl,rfl,RQ.A_fits _,?_⟩))
        refine ⟨fun _=>⟨fun _=>?_,fun c1=>absurd (show true=false from c1) (by decide)⟩,fun c1=>absurd (show false=true from c1) (by decide)⟩
        refine ⟨_,rfl,(RQ.of 0 0).A_fits,[],[],⟨?_,rfl⟩,trivial,rfl⟩
        rw [hq];exact resZ0 _
       | some y =>
        rw [e1,e2] at hq
        rw [e2] at G3
        have hq:rateQ xs k p day u a b=mulQ x y:=hq
        have ly:=legO_leg (cur_ne hu) (cur_ne hb) e2
        refine .inr (.inr (.inl ⟨[],[_,_,_,_,_,_],[],_,[],G3,rfl,trivial,rfl,rfl,RQ.A_fits _,?_⟩))
        refine ⟨fun _=>⟨fun c1=>absurd (show false=true from c1) (by decide),fun _=>?_⟩,fun c1=>absurd (show false=true from c1) (by decide)⟩
        refine .inl ⟨_,mulR_r lx.in_ ly.in_,RQ.A_fits _,[],[],⟨?_,rfl⟩,trivial,rfl⟩
        rw [hq];rfl
    ·have z1:=str_eq z1
     refine ⟨fun _=>?_,fun h=>absurd h (by decide)⟩
     refine ⟨_,rfl,(RQ.of 0 0).A_fits,[],[],⟨?_,rfl⟩,trivial,rfl⟩
     rw [rateQ_4 c d e (.inl z1)];exact resZ0 _
theorem convQ_1 {a:Int} {r:RQ} {mode:Int} (h:a < -1000000000000000∨a > 1000000000000000):convQ a r mode=(0,33):=by unfold convQ;rw [if_pos h]
theorem convQ_2 {a:Int} {r:RQ} {mode:Int} (h:¬ (a < -1000000000000000∨a > 1000000000000000)) (h2:r.ok=false):convQ a r mode=(0,20):=by unfold convQ;rw [if_neg h,h2];rfl
theorem convQ_3 {a:Int} {r:RQ} {mode:Int} (h:¬ (a < -1000000000000000∨a > 1000000000000000)) (h2:r.ok=true) (h3:mode < 1∨mode > 6):convQ a r mode=(0,31):=by unfold convQ;rw [if_neg h,h2,if_neg (by simp),if_pos h3]
theorem convQ_4 {a:Int} {r:RQ} {mode:Int} (h:¬ (a < -1000000000000000∨a > 1000000000000000)) (h2:r.ok=true) (h3:¬ (mode < 1∨mode > 6)) (h4:(mulQ r (.of a 1)).2≠0):convQ a r mode=(0,(mulQ r (.of a 1)).2):=by unfold convQ;rw [if_neg h,h2,if_neg (by simp),if_neg h3,if_pos h4]
theorem convQ_5 {a:Int} {r:RQ} {mode:Int} (h:¬ (a < -1000000000000000∨a > 1000000000000000)) (h2:r.ok=true) (h3:¬ (mode < 1∨mode > 6)) (h4:¬ (mulQ r (.of a 1)).2≠0):convQ a r mode=rndI (rndQ (mulQ r (.of a 1)).1 0 mode):=by unfold convQ;rw [if_neg h,h2,if_neg (by simp),if_neg h3,if_neg h4]
theorem Convert_e {r:RQ} (hr:r.In) {a:Int} (ha : -9223372036854775808≤a∧a≤9223372036854775807) (mode:Int):Pure Tryz.prog 29 [SV.c (.int .i64 a),SV.c (.agg r.A),SV.c (.int .i64 mode)] (resI (convQ a r mode)):=by
 refine sx_pure tt_ok mixed at29 _ _ rfl rfl fun w=>?_
 have hof:(RQ.of a 1).In:=RQ.of_in (by have:=two64;omega) (by have:=two64;show (1:Int).natAbs < _;omega)
 refine ⟨r.A_size,fun c=>?_,fun c=>?_⟩
 ·have c:=of_decide_eq_false (show decide (a < -1000000000000000)=false from c)
  refine ⟨fun d=>?_,fun d=>?_⟩
  ·have d:=of_decide_eq_true (show decide (a > 1000000000000000)=true from d)
   refine ⟨?_,trivial⟩
   rw [convQ_1 (.inr d)];rfl
  ·have d:=of_decide_eq_false (show decide (a > 1000000000000000)=false from d)
   have hN:¬ (a < -1000000000000000∨a > 1000000000000000):=by omega
   refine .inl ⟨_,valid_raw hr,fun v=>?_,fun v=>?_⟩
   ·have v:(!r.ok)=true:=v
    have v:r.ok=false:=by simpa using v
    refine ⟨?_,trivial⟩
    rw [convQ_2 hN v];rfl
   ·have v:(!r.ok)=false:=v
    have v:r.ok=true:=by simpa using v
    have tail:¬ (mode < 1∨mode > 6)→True:=fun _=>trivial
    refine ⟨fun m1=>?_,fun m1=>?_⟩
    ·have m1:=of_decide_eq_false (show decide (mode < 1)=false from m1)
     refine ⟨fun m2=>?_,fun m2=>?_⟩
     ·have m2:=of_decide_eq_true (show decide (mode > 6)=true from m2)
      refine ⟨?_,trivial⟩
      rw [convQ_3 hN v (.inr m2)];rfl
     ·have m2:=of_decide_eq_false (show decide (mode > 6)=false from m2)
      have hM:¬ (mode < 1∨mode > 6):=by omega
      refine .inl ⟨_,whole1_z (n:=a) ha.1 ha.2,.inl ⟨_,mulR_z hr hof,RQ.A_fits _,by kernel_rfl,fun e=>?_,fun e=>?_⟩⟩
      ·have e:((mulQ r (.of a 1)).2 != 0)=true:=e
       have e:(mulQ r (.of a 1)).2≠0:=by simpa using e
       refine ⟨?_,trivial⟩
       rw [convQ_4 hN v hM e];rfl
      ·have e:((mulQ r (.of a 1)).2 != 0)=false:=e
       have e:¬ (mulQ r (.of a 1)).2≠0:=by simpa using e
       refine .inl ⟨_,roundInt_z (mulQ_in _ _) 0 mode,?_,trivial⟩
       rw [convQ_5 hN v hM e];rfl
    ·have m1:=of_decide_eq_true (show decide (mode < 1)=true from m1)
     refine ⟨fun _=>?_,fun h=>absurd h (by decide)⟩
     refine ⟨?_,trivial⟩
     rw [convQ_3 hN v (.inl m1)];rfl
 ·have c:=of_decide_eq_true (show decide (a < -1000000000000000)=true from c)
  refine ⟨fun _=>?_,fun h=>absurd h (by decide)⟩
  refine ⟨?_,trivial⟩
  rw [convQ_1 (.inl c)];rfl
theorem mulC_r {r s:RQ} (hr:r.In) (hs:s.In):Pure Tryz.prog 23 [SV.c (.agg s.A),SV.c (.agg r.A)] (resQ (mulQ r s)):=by
 rw [mulQ_comm];exact mulR_r hs hr
theorem Convert_r {r:RQ} (hr:r.In) {a:Int} (ha : -9223372036854775808≤a∧a≤9223372036854775807) (mode:Int):Pure Tryz.prog 30 [SV.c (.int .i64 a),SV.c (.agg r.A),SV.c (.int .i64 mode)] (resI (convQ a r mode)):=by
 refine sx_pure tt_ok mixed at30 _ _ rfl rfl fun w=>?_
 have hof:(RQ.of a 1).In:=RQ.of_in (by have:=two64;omega) (by have:=two64;show (1:Int).natAbs < _;omega)
 refine ⟨r.A_size,fun c=>?_,fun c=>?_⟩
 ·have c:=of_decide_eq_false (show decide (a > 1000000000000000)=false from c)
  refine ⟨fun d=>?_,fun d=>?_⟩
  ·have d:=of_decide_eq_true (show decide (a < -1000000000000000)=true from d)
   refine ⟨?_,trivial⟩
   rw [convQ_1 (.inl d)];rfl
  ·have d:=of_decide_eq_false (show decide (a < -1000000000000000)=false from d)
   have hN:¬ (a < -1000000000000000∨a > 1000000000000000):=by omega
   refine .inl ⟨_,valid_r hr,fun v=>?_,fun v=>?_⟩
   ·have v:(!r.ok)=true:=v
    have v:r.ok=false:=by simpa using v
    refine ⟨?_,trivial⟩
    rw [convQ_2 hN v];rfl
   ·have v:(!r.ok)=false:=v
    have v:r.ok=true:=by simpa using v
    have tail:¬ (mode < 1∨mode > 6)→True:=fun _=>trivial
    refine ⟨fun m1=>?_,fun m1=>?_⟩
    ·have m1:=of_decide_eq_false (show decide (mode < 1)=false from m1)
     refine ⟨fun m2=>?_,fun m2=>?_⟩
     ·have m2:=of_decide_eq_true (show decide (mode > 6)=true from m2)
      refine ⟨?_,trivial⟩
      rw [convQ_3 hN v (.inr m2)];rfl
     ·have m2:=of_decide_eq_false (show decide (mode > 6)=false from m2)
      have hM:¬ (mode < 1∨mode > 6):=by omega
      refine .inl ⟨_,whole_r (n:=a) ha.1 ha.2,.inl ⟨_,mulC_r hr hof,RQ.A_fits _,by kernel_rfl,fun e=>?_,fun e=>?_⟩⟩
      ·have e:((mulQ r (.of a 1)).2 != 0)=true:=e
       have e:(mulQ r (.of a 1)).2≠0:=by simpa using e
       refine ⟨?_,trivial⟩
       rw [convQ_4 hN v hM e];rfl
      ·have e:((mulQ r (.of a 1)).2 != 0)=false:=e
       have e:¬ (mulQ r (.of a 1)).2≠0:=by simpa using e
       refine .inl ⟨_,roundInt_r (mulQ_in _ _) 0 mode,?_,trivial⟩
       rw [convQ_5 hN v hM e];rfl
    ·have m1:=of_decide_eq_true (show decide (mode < 1)=true from m1)
     refine ⟨fun _=>?_,fun h=>absurd h (by decide)⟩
     refine ⟨?_,trivial⟩
     rw [convQ_3 hN v (.inl m1)];rfl
 ·have c:=of_decide_eq_true (show decide (a > 1000000000000000)=true from c)
  refine ⟨fun _=>?_,fun h=>absurd h (by decide)⟩
  refine ⟨?_,trivial⟩
  rw [convQ_1 (.inr c)];rfl
end Go.Proofs.YtjkgmglmgndaoaaGreatDoor
