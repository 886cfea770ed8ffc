/- candidates of the document. clone and delete. delete by a question. sort and middle. a currency, as a text of runes. the yardstick of the document; no condition. -/
import Derived.Test.YtjkgmglmgndaoaaGreatDoorP28
set_option maxRecDepth 100000
set_option maxHeartbeats 4000000
namespace Go.Proofs.YtjkgmglmgndaoaaGreatDoor
open Go Go.RowKit Go.SX
theorem cand1_r {E:Env} (hE:E.P=Tryz.prog) {v vp:Value} {L:List QC} (hv:Lst E v 72 L.length (cat QC.A L)) (hlv:L.length≤4096) {p:PL} (hst:0≤p.stale∧p.stale≤30) (src ins:List UInt8) {day:Int} (c3:¬ day < 0) (c4:¬ day > 73048):OwnC E 160 [SV.c v,SV.c (.agg (p.A vp)),SV.c (.string (S src)),SV.c (.string (S ins)),SV.c (.int .i64 day)] [] (fun x U=>x=.tuple #[.agg (rowQ (candOf ins day p.stale L src)).A,.bool (candOf ins day p.stale L src).isSome]∧U=[]):=by
 refine sx_ownC [] tt_ok mixed at160 E hE [SV.c v,SV.c (.agg (p.A vp)),SV.c (.string (S src)),SV.c (.string (S ins)),SV.c (.int .i64 day)] [] _ rfl rfl fun w X β hT=>?_
 have hv':=hv.of_old hT
 have F1:=p.size vp
 have G2:=p.g2 vp
 generalize p.A vp=PA at *
 obtain ⟨a,cap,rfl,hc,h4⟩:=id hv'.shape
 refine ⟨F1,noQ.A,(by kernel_rfl),noQ.fits,?_⟩
 refine ⟨fun q f m=>∃ (j:Nat) (B:Option QC),q=L.length - j∧j≤L.length∧B=(L.take j).foldl (candStep src ins day p.stale) none∧f=[(0,SV.c (.slice a L.length cap)),(2,SV.c (.string (S src))),(3,SV.c (.string (S ins))),(4,SV.c (.int .i64 day)),(6,SV.ptr 6 0),(10,SV.ptr 10 0),(12,SV.ptr 12 0),(13,SV.c (.bool B.isSome)),(14,SV.c (.int .i64 (j:Nat)))]∧m=[(12,Blk.row 51 72 (rowQ B).A),(6,Blk.row 31 68 PA),(10,Blk.row 51 72 noQ.A)],L.length,⟨_,_,⟨0,none,by omega,by omega,rfl,rfl,rfl⟩,⟨rfl,rfl,rfl,rfl,rfl,rfl,rfl,rfl,rfl,trivial⟩,⟨rfl,rfl,congrArg (fun A=>some (Blk.row 51 72 A)) noQ_A.symm,trivial⟩,rfl⟩,?_⟩
 rintro q f m ⟨j,B,rfl,hj,hB,rfl,rfl⟩
 refine ⟨_,fun w' _=>run_len_sl Tryz.underlying22 w',fun h=>?_,fun h=>?_⟩
 ·have h:j < L.length:=by have:=of_decide_eq_true h;omega
  obtain ⟨z,hz⟩:∃ z,L[j]? = some z:=⟨_,List.getElem?_eq_getElem (by omega)⟩
  obtain ⟨b,o,rfl,h5⟩:=h4 (by omega)
  have hE':VOk (envC Tryz.prog tt Tryz.f160.ntmps w X (tiedK [] β)):=tt_ok
  have L2:=lst_elem hE' h5 QC.size hz (ty:=51) (ti:=ti51) rfl rfl rfl (p:=o+((j:Nat):Int).toNat*72) rfl
  have eB:(L.take (j+1)).foldl (candStep src ins day p.stale) none=candStep src ins day p.stale B z:=by
   rw [List.take_add_one,hz,List.foldl_append,← hB];rfl
  have Z0:=z.g0
  have Z1:=z.g1
  have Z3:=z.g3
  have ZF:=z.fits
  have N3:=(rowQ B).g3
  generalize hY:z.A=ZA at *
  refine ⟨by omega,by omega,.inl ⟨_,L2,ZF,_,Z0,?_⟩⟩
  refine ⟨fun k1=>?_,fun k1=>?_⟩
  case refine_2 =>
   have k1:=str_ne k1
   have e0:candStep src ins day p.stale B z=B:=by unfold candStep;rw [if_neg (by simp [k1])]
   refine ⟨nofun,fun _=>⟨nofun,fun _=>⟨nofun,fun _=>?_⟩⟩⟩
   exact ⟨nofun,fun _=>⟨L.length - (j+1),_,_,by omega,⟨j+1,B,rfl,by omega,(eB.trans e0).symm,rfl,rfl⟩,⟨rfl,rfl,rfl,rfl,rfl,rfl,rfl,rfl,c_int (i64_succ (by omega)),trivial⟩,⟨rfl,rfl,rfl,trivial⟩,rfl⟩⟩
  have k1:=str_eq k1
  refine ⟨_,Z1,fun k2=>?_,fun k2=>?_⟩
  case refine_2 =>
   have k2:=str_ne k2
   have e0:candStep src ins day p.stale B z=B:=by unfold candStep;rw [if_neg (by simp [k2])]
   refine ⟨nofun,fun _=>⟨nofun,fun _=>?_⟩⟩
   exact ⟨nofun,fun _=>⟨L.length - (j+1),_,_,by omega,⟨j+1,B,rfl,by omega,(eB.trans e0).symm,rfl,rfl⟩,⟨rfl,rfl,rfl,rfl,rfl,rfl,rfl,rfl,c_int (i64_succ (by omega)),trivial⟩,⟨rfl,rfl,rfl,trivial⟩,rfl⟩⟩
  have k2:=str_eq k2
  refine ⟨_,Z3,fun k3=>?_,fun k3=>?_⟩
  case refine_2 =>
   have k3:decide (z.day≤day)=false:=k3
   have e0:candStep src ins day p.stale B z=B:=by unfold candStep;rw [if_neg (by simp [k3])]
   refine ⟨nofun,fun _=>?_⟩
   exact ⟨nofun,fun _=>⟨L.length - (j+1),_,_,by omega,⟨j+1,B,rfl,by omega,(eB.trans e0).symm,rfl,rfl⟩,⟨rfl,rfl,rfl,rfl,rfl,rfl,rfl,rfl,c_int (i64_succ (by omega)),trivial⟩,⟨rfl,rfl,rfl,trivial⟩,rfl⟩⟩
  have k3:decide (z.day≤day)=true:=k3
  refine ⟨_,Z3,_,G2,fun k4=>?_,fun k4=>?_⟩
  case refine_2 =>
   have k4:decide (z.day ≥ IntKind.i64.wrap (day - p.stale))=false:=k4
   rw [i64_in (by omega)] at k4
   have k4:decide (day - p.stale≤z.day)=false:=k4
   have e0:candStep src ins day p.stale B z=B:=by unfold candStep;rw [if_neg (by simp [k4])]
   exact ⟨nofun,fun _=>⟨L.length - (j+1),_,_,by omega,⟨j+1,B,rfl,by omega,(eB.trans e0).symm,rfl,rfl⟩,⟨rfl,rfl,rfl,rfl,rfl,rfl,rfl,rfl,c_int (i64_succ (by omega)),trivial⟩,⟨rfl,rfl,rfl,trivial⟩,rfl⟩⟩
  have k4:decide (z.day ≥ IntKind.i64.wrap (day - p.stale))=true:=k4
  rw [i64_in (by omega)] at k4
  have k4:decide (day - p.stale≤z.day)=true:=k4
  refine ⟨fun k5=>?_,fun k5=>?_⟩
  ·have k5:=bnot_f k5
   refine ⟨_,Z3,_,N3,fun k6=>?_,fun k6=>?_⟩
   ·have e0:candStep src ins day p.stale B z=some z:=by
      unfold candStep
      rw [if_pos]
      have:newer B z=true:=by
       obtain ⟨x,rfl⟩:=Option.isSome_iff_exists.1 k5
       exact k6
      simp only [k1,k2,decide_true,Bool.true_and,this,k3,k4]
    exact ⟨ZF,⟨L.length - (j+1),_,_,by omega,⟨j+1,some z,rfl,by omega,(eB.trans e0).symm,rfl,rfl⟩,⟨rfl,rfl,rfl,rfl,rfl,rfl,rfl,rfl,c_int (i64_succ (by omega)),trivial⟩,⟨congrArg (fun A=>some (Blk.row 51 72 A)) hY.symm,rfl,rfl,trivial⟩,rfl⟩⟩
   ·have e0:candStep src ins day p.stale B z=B:=by
      unfold candStep
      rw [if_neg]
      have:newer B z=false:=by
       obtain ⟨x,rfl⟩:=Option.isSome_iff_exists.1 k5
       exact k6
      simp [this]
    exact ⟨L.length - (j+1),_,_,by omega,⟨j+1,B,rfl,by omega,(eB.trans e0).symm,rfl,rfl⟩,⟨rfl,rfl,rfl,rfl,rfl,rfl,rfl,rfl,c_int (i64_succ (by omega)),trivial⟩,⟨rfl,rfl,rfl,trivial⟩,rfl⟩
  ·have k5:=bnot_t k5
   have e0:candStep src ins day p.stale B z=some z:=by
    unfold candStep
    rw [if_pos]
    have:newer B z=true:=by
     cases B with
     | none=>rfl
     | some x=>cases k5
    simp only [k1,k2,decide_true,Bool.true_and,this,k3,k4]
   exact ⟨fun _=>⟨ZF,⟨L.length - (j+1),_,_,by omega,⟨j+1,some z,rfl,by omega,(eB.trans e0).symm,rfl,rfl⟩,⟨rfl,rfl,rfl,rfl,rfl,rfl,rfl,rfl,c_int (i64_succ (by omega)),trivial⟩,⟨congrArg (fun A=>some (Blk.row 51 72 A)) hY.symm,rfl,rfl,trivial⟩,rfl⟩⟩,nofun⟩
 ·have h:j=L.length:=by have:=of_decide_eq_false h;omega
  have hB:B=candOf ins day p.stale L src:=by rw [hB,List.take_of_length_le (by omega)];rfl
  rw [← hB]
  have NF:=(rowQ B).fits
  generalize (rowQ B).A=NA at *
  exact ⟨NF,[],[],⟨rfl,rfl⟩,trivial,rfl⟩
theorem cand1_own {E:Env} (hE:E.P=Tryz.prog) {x vp:Value} {L:List QC} {n:Nat} (hn:n=L.length) (hlv:L.length≤4096) {p:PL} (hst:0≤p.stale∧p.stale≤30) (src ins:List UInt8) {day:Int} (c3:¬ day < 0) (c4:¬ day > 73048):OwnC E 160 [SV.c x,SV.c (.agg (p.A vp)),SV.c (.string (S src)),SV.c (.string (S ins)),SV.c (.int .i64 day)] [(3000,Blk.own x 51 72 n (cat QC.A L))] (fun r U=>r=.tuple #[.agg (rowQ (candOf ins day p.stale L src)).A,.bool (candOf ins day p.stale L src).isSome]∧U=[(3000,Blk.own x 51 72 n (cat QC.A L))]):=by
 subst hn
 have h1:(cat QC.A L).all (·.oneCell')=true:=Go.SX.cat_all (fun a=>a.one) L
 refine (OwnC.with_own (k:=3000) (v:=x) (e:=51) (sz:=72) (n:=L.length) (A:=cat QC.A L) (pre:=[]) rfl rfl h1 (by rw [hE];exact at160.enters) (fun E0 h hl=>cand1_r (h.trans hE) hl hlv hst src ins c3 c4) (fun x U h=>by rw [h.2];rfl)).mono ?_
 rintro y U ⟨U0,⟨h1,h2⟩,h3⟩
 exact ⟨h1,by rw [h3,h2]⟩
theorem cand_qr {E:Env} (hE:E.P=Tryz.prog) {v:Value} {k:Int} {xs:List QC} (hv:Lst E v 72 xs.length (cat QC.A xs)) (hn:xs.length≤1000000000000) (hin:∀ y∈xs,y.In) {vp:Value} {p:PL} (hp:Lst E vp 1 p.srcs.length (cat strA p.srcs)) (hpn:p.srcs.length≤1000000000000000) (hpin:p.In) (ins:List UInt8) (day:Int):OwnC E 119 [SV.c v,SV.c (.agg (p.A vp)),SV.c (.int .i64 k),SV.c (.string (S ins)),SV.c (.int .i64 day)] [] (CandQ xs k p ins day):=by
 refine sx_ownC [] tt_ok mixed at119 E hE [SV.c v,SV.c (.agg (p.A vp)),SV.c (.int .i64 k),SV.c (.string (S ins)),SV.c (.int .i64 day)] [] _ rfl rfl fun w X β hT=>?_
 have hv':=hv.of_old hT
 have hp':=hp.of_old hT
 have V1:=vis_qr (k:=k) rfl hv' hn hin
 have O1:=out_r day
 obtain ⟨a,cap,rfl,hc,h4⟩:=id hp'.shape
 have P1:=check_p15 rfl hp' hpn hpin rfl
 have C1:=fun (E0:Env) (hE0:E0.P=Tryz.prog) (x:Value) (L:List QC) (n:Nat) (hn:n=L.length) (hlv:L.length≤4096) (hst:0≤p.stale∧p.stale≤30) src c3 c4=>cand1_own (E:=E0) hE0 (x:=x) (vp:=.slice a p.srcs.length cap) (L:=L) (n:=n) hn hlv (p:=p) hst src ins (day:=day) c3 c4
 have F1:=p.size (.slice a p.srcs.length cap)
 have G0:=p.g0 (.slice a p.srcs.length cap)
 have G2:=p.g2 (.slice a p.srcs.length cap)
 generalize p.A (.slice a p.srcs.length cap)=PA at *
 refine ⟨F1,?_⟩
 refine .inr (.inr (.inr ⟨[],[3000],[_,_],[],_,V1,rfl,trivial,rfl,trivial,?_⟩))
 rintro r U ⟨s,n,hsn,rfl,hs,rfl⟩
 refine ⟨rfl,?_⟩
 have eC:candC xs k p day=if chkQ xs≠0 then chkQ xs else if polOk p then (if day < 0∨day > 73048 then 50 else 0) else 150:=rfl
 have fin:∀ (e:Int) (V:List QC),candC xs k p day=e→V=cands xs k p ins day→e≠0→CandQ xs k p ins day (mkRes [.slice none 0 0,.int .i64 e]) [(4000,Blk.own (.slice none 0 0) 51 72 0 #[])]:=fun e V he hV h=>by
  have e1:cands xs k p ins day=[]:=by unfold cands;rw [he,if_neg h]
  exact ⟨_,0,by rw [e1];rfl,by rw [he];rfl,.nil,by rw [e1];rfl⟩
 refine ⟨fun c1=>?_,fun c1=>?_⟩
 ·have c1:(chkQ xs != 0)=true:=c1
  have c1:chkQ xs≠0:=by simpa using c1
  exact ⟨[(4000,Blk.own (.slice none 0 0) 51 72 0 #[])],[],fin _ _ (by rw [eC,if_pos c1]) rfl c1,⟨.inr ⟨rfl,rfl,rfl⟩,trivial⟩,rfl⟩
 have c1:(chkQ xs != 0)=false:=c1
 have c1:chkQ xs=0:=by simpa using c1
 rw [if_neg (by rw [c1];decide)] at eC
 refine .inr (.inr (.inl ⟨[],[_],[],_,[],P1,rfl,trivial,rfl,rfl,fun c2=>?_,fun c2=>?_⟩))
 ·have c2:polOk p=false:=by
    cases h:polOk p with
    | false=>rfl
    | true=>rw [h] at c2;exact absurd c2 (by decide)
  exact ⟨[(4000,Blk.own (.slice none 0 0) 51 72 0 #[])],[],fin _ _ (by rw [eC,c2];rfl) rfl (by decide),⟨.inr ⟨rfl,rfl,rfl⟩,trivial⟩,rfl⟩
 have c2:polOk p=true:=by
  cases h:polOk p with
  | true=>rfl
  | false=>rw [h] at c2;exact absurd c2 (by decide)
 rw [c2,if_pos rfl] at eC
 refine .inl ⟨_,O1,fun c3=>?_,fun c3=>?_⟩
 ·have c3:(decide (day < 0) || decide (day > 73048))=true:=c3
  simp only [Bool.or_eq_true,decide_eq_true_eq] at c3
  exact ⟨[(4000,Blk.own (.slice none 0 0) 51 72 0 #[])],[],fin _ _ (by rw [eC,if_pos c3]) rfl (by decide),⟨.inr ⟨rfl,rfl,rfl⟩,trivial⟩,rfl⟩
 have c3:(decide (day < 0) || decide (day > 73048))=false:=c3
 simp only [Bool.or_eq_false_iff,decide_eq_false_iff_not] at c3
 rw [if_neg (by omega)] at eC
 clear fin
 have hst:0≤p.stale∧p.stale≤30∧p.srcs.length≤8:=by
  unfold polOk at c2
  simp only [Bool.and_eq_true,decide_eq_true_eq] at c2
  exact ⟨c2.2.2.2.1,c2.2.2.2.2,c2.1.2⟩
 have eV:cands xs k p ins day=candL (visQs xs k) p.srcs ins day p.stale:=by unfold cands;rw [if_pos eC]
 have hlv:(visQs xs k).length≤4096:=visQs_len xs k
 unfold CandQ
 rw [eV,eC]
 clear eV eC V1 P1
 generalize visQs xs k=L at *
 obtain ⟨sa,sc,rfl⟩:=hs.len
 refine ⟨fun q f m=>∃ (i:Nat) (y:Value) (N:Nat),q=p.srcs.length - i∧i≤p.srcs.length∧N=(candL L (p.srcs.take i) ins day p.stale).length∧IsL y N∧f=[(3,SV.c (.string (S ins))),(4,SV.c (.int .i64 day)),(6,SV.ptr 6 0),(12,SV.c (.slice sa n sc)),(14,SV.c y),(15,SV.c (.int .i64 (i:Nat)))]∧m=[(4000,Blk.own y 51 72 N (cat QC.A (candL L (p.srcs.take i) ins day p.stale))),(6,Blk.row 31 68 PA),(3000,Blk.own (.slice sa n sc) 51 72 n (cat QC.A L))],p.srcs.length,⟨_,_,⟨0,.slice none 0 0,0,by omega,by omega,rfl,.nil,rfl,rfl⟩,⟨rfl,rfl,rfl,rfl,rfl,rfl,trivial⟩,⟨.inr ⟨rfl,rfl,rfl⟩,rfl,.inl rfl,trivial⟩,rfl⟩,?_⟩
 rintro q f m ⟨i,y,N,rfl,hi,hN,hy,rfl,rfl⟩
 refine ⟨_,G0,_,fun w' _=>run_len_sl Tryz.underlying23 w',fun h=>?_,fun h=>?_⟩
 ·have h:i < p.srcs.length:=by have:=of_decide_eq_true h;omega
  obtain ⟨b,o,rfl,h5⟩:=h4 (by omega)
  obtain ⟨src,hsrc⟩:∃ y,p.srcs[i]? = some y:=⟨_,List.getElem?_eq_getElem h⟩
  have hE':VOk (envC Tryz.prog tt Tryz.f119.ntmps w X (tiedK [] β)):=tt_ok
  have L1:=lst_at hE' h5 strA_size hsrc (j:=0) (v:=.string (S src)) rfl (ty:=9) (ti:=ti9) rfl rfl (p:=offAt o ((i:Nat):Int) ti9.size) (off_one o i)
  have C2:=C1 (envC Tryz.prog tt Tryz.f119.ntmps w X (tiedK [] β)).toEnv rfl (.slice sa n sc) L n hsn hlv ⟨hst.1,hst.2.1⟩ src c3.1 c3.2
  have NF:=(rowQ (candOf ins day p.stale L src)).fits
  refine ⟨_,G0,by omega,by omega,.inl ⟨_,L1,.inr (.inr (.inl ⟨[],[_,_,_,_,_],[_],_,[_],C2,rfl,⟨.inl rfl,trivial⟩,rfl,rfl,NF,by kernel_rfl,fun k1=>?_,fun k1=>?_⟩))⟩⟩
  ·have k1:(candOf ins day p.stale L src).isSome=true:=k1
   obtain ⟨z,hB⟩:=Option.isSome_iff_exists.1 k1
   rw [hB]
   have F1:=fill_quo1 z
   have F2:=z.fits.one
   have F3:=z.ext72
   have F4:z.A.size=1*72:=z.size
   have F5:cat QC.A (candL L (p.srcs.take i) ins day p.stale)++z.A=cat QC.A (candL L (p.srcs.take (i+1)) ins day p.stale):=by
    rw [candL_some hsrc hB,cat_append,cat_one]
   have F6:=congrArg List.length (candL_some hsrc hB)
   have hl:=candL_len L (p.srcs.take i) ins day p.stale
   change _=_ at F6
   rw [List.length_append,← hN] at F6
   rw [← hN,List.length_take] at hl
   refine .inl ⟨by decide,by decide,_,F1,F4,by decide,4000,N,_,.inl rfl,by decide,F2,F4,_,F3,?_⟩
   obtain ⟨q,hq,hb⟩:=info_quo
   refine ⟨by omega,by unfold maxLen;omega,⟨q,hq,by rw [hb];omega⟩,trivial,fun g2 cap2=>?_⟩
   exact ⟨p.srcs.length - (i+1),_,_,by omega,⟨i+1,_,N+1,rfl,by omega,F6.symm,.some,rfl,rfl⟩,⟨rfl,rfl,rfl,rfl,rfl,c_int (i64_succ (by omega)),trivial⟩,⟨.inl (own_eq F5),rfl,.inl rfl,trivial⟩,rfl⟩
  ·have k1:(candOf ins day p.stale L src).isSome=false:=k1
   have hB:candOf ins day p.stale L src=none:=Option.isNone_iff_eq_none.1 (by simpa using k1)
   have e1:=candL_none hsrc hB
   exact ⟨p.srcs.length - (i+1),_,_,by omega,⟨i+1,y,N,rfl,by omega,by rw [e1];exact hN,hy,rfl,rfl⟩,⟨rfl,rfl,rfl,rfl,rfl,c_int (i64_succ (by omega)),trivial⟩,⟨.inl (own_eq (by rw [e1])),rfl,.inl rfl,trivial⟩,rfl⟩
 ·have h:i=p.srcs.length:=by have:=of_decide_eq_false h;omega
  subst h
  rw [List.take_length] at hN ⊢
  exact ⟨[(4000,Blk.own y 51 72 N (cat QC.A (candL L p.srcs ins day p.stale)))],[],⟨y,N,hN,rfl,hy,rfl⟩,⟨.inl rfl,trivial⟩,rfl⟩
theorem runs_slnil {E:Env} {t:TypeId} {x y:Operand} {e:TypeId} (hu:E.P.underlying t=some (.slice e)) {ad:Addr} {n c:Nat}:Runs E (do eqGuard .eql t x y (.slice (some ad) n c) (.slice none 0 0);binOp .eql t (.slice (some ad) n c) (.slice none 0 0)) (.bool false):=fun w _=>by
 have h1:(eqGuard .eql t x y (.slice (some ad) n c) (.slice none 0 0)).run E.P w=.ok () w:=by simp [eqGuard]
 have h2:(Op.equal t (.slice (some ad) n c) (.slice none 0 0)).run E.P w=.ok false w:=by
  show (Op.equalIn (9999+1) t _ _).run E.P w=_
  rw [Op.equalIn]
  simp only [Sem.run_bind,run_underlying hu,Result.andThen_ok,Sem.run_pure]
 have h3:binOp .eql t (.slice (some ad) n c) (.slice none 0 0)=(do pure (.bool (← Op.equal t (.slice (some ad) n c) (.slice none 0 0)))):=rfl
 rw [Sem.run_bind,h1,h3]
 simp [h2]
theorem QC.all1 (a:QC):a.A.all (·.oneCell')=true:=a.one
def OwnLQ (key:Key) (n:Nat) (A:Array Value) (x:Value) (U:MemL):Prop:=IsL x n∧U=[(key,Blk.own x 51 72 n A)]
theorem clone_q {E:Env} (hE:E.P=Tryz.prog) {v:Value} {n:Nat} {A:Array Value} (hv:Lst E v 72 n A) (hn:0 < n) (hm:n≤1000000000):OwnC E 55 [SV.c v] [] (OwnLQ 6000 n A):=by
 refine sx_ownC [] tt_ok mixed at55 E hE [SV.c v] [] _ rfl rfl fun w X β hT=>?_
 have hv':=hv.of_old hT
 obtain ⟨a,cap,rfl,hc,h4⟩:=id hv'.shape
 obtain ⟨b,o,rfl,h5⟩:=h4 hn
 refine ⟨_,runs_slnil Tryz.underlying22,nofun,fun _=>?_⟩
 refine build_none tt_ok rfl rfl (i:=ti22) rfl rfl (j:=ti51) rfl 6000 rfl trivial fun g=>?_
 obtain ⟨q,hq,hb⟩:=info_quo
 refine ⟨by decide,6000,0,#[],.inl rfl,.inr ⟨[],n,A,src_lst hv' hn,by omega,by unfold maxLen;omega,⟨q,hq,by rw [hb];omega⟩,trivial,fun g2 cap2=>?_⟩⟩
 exact ⟨[(6000,Blk.own (.slice (some ⟨g2,0,none⟩) (0+n) cap2) 51 72 (0+n) (#[]++A))],[],⟨by rw [Nat.zero_add];exact .some,by rw [show (#[]++A:Array Value)=A by simp,Nat.zero_add];rfl⟩,⟨.inl rfl,trivial⟩,rfl⟩
theorem off_z (o:Nat):offAt o 0 ti51.size+2=o+0*72+2:=by
 show offAt o 0 72+2=_
 cases o<;>simp [offAt]
theorem other_q {E:Env} (hE:E.P=Tryz.prog) {z:QC} {v:Value} {L:List QC} (hv:Lst E v 72 L.length (cat QC.A L)) (hn:0 < L.length):OwnC E 56 [SV.c (.agg z.A),SV.ptr 7000 0] [(7000,Blk.row 22 1 #[v])] (fun x U=>x=.bool (!decide (z.cur=curH L))∧U=[(7000,Blk.row 22 1 #[v])]):=by
 refine sx_ownC [] tt_ok mixed at56 E hE [SV.c (.agg z.A),SV.ptr 7000 0] [(7000,Blk.row 22 1 #[v])] _ rfl rfl fun w X β hT=>?_
 have hv':=hv.of_old hT
 have Z2:=z.g2
 have ZF:=z.fits
 generalize z.A=ZA at *
 obtain ⟨a,cap,rfl,hc,h4⟩:=id hv'.shape
 obtain ⟨b,o,rfl,h5⟩:=h4 hn
 obtain ⟨y,hy⟩:∃ y,L[0]? = some y:=⟨_,List.getElem?_eq_getElem hn⟩
 have hE':VOk (envC Tryz.prog tt Tryz.f56.ntmps w X (tiedK [(7000,Blk.row 22 1 #[Value.slice (some ⟨b,o,none⟩) L.length cap])] β)):=tt_ok
 have L1:=lst_at hE' h5 QC.size hy y.g2 (ty:=9) (ti:=ti9) rfl rfl (p:=offAt o 0 ti51.size+2) (off_z o)
 have ec:curH L=y.cur:=by
  unfold curH
  cases L with
  | nil=>cases hy
  | cons z0 r=>simp at hy;subst hy;rfl
 refine ⟨ZF.size,_,Z2,_,rfl,by decide,by omega,.inl ⟨_,L1,?_⟩⟩
 refine ⟨by kernel_rfl,[(7000,Blk.row 22 1 #[Value.slice (some ⟨b,o,none⟩) L.length cap])],[],⟨?_,rfl⟩,⟨rfl,trivial⟩,rfl⟩
 rw [ec,← S_beq]
 rfl
theorem indexF_q {E:Env} (hE:E.P=Tryz.prog) {x v:Value} {L M:List QC} {n:Nat} (hnM:n=M.length) (hM:M.length≤1000) (hv:Lst E v 72 L.length (cat QC.A L)) (hn:0 < L.length) (hx:IsL x n):OwnC E 88 [SV.c x,SV.clo 56 [7000]] [(7000,Blk.row 22 1 #[v]),(6000,Blk.own x 51 72 n (cat QC.A M))] (fun r U=>(∃ i:Int,r=.int .i64 i∧((i=-1∧∀ z∈M,z.cur=curH L)∨(∃ j:Nat,i=j∧j < M.length∧(∀ z∈M.take j,z.cur=curH L)∧∃ z,M[j]? = some z∧z.cur≠curH L)))∧U=[(7000,Blk.row 22 1 #[v]),(6000,Blk.own x 51 72 n (cat QC.A M))]):=by
 obtain ⟨xa,xc,rfl⟩:=hx.len
 refine sx_ownC [] tt_ok mixed at88 E hE [SV.c (.slice xa n xc),SV.clo 56 [7000]] [(7000,Blk.row 22 1 #[v]),(6000,Blk.own (.slice xa n xc) 51 72 n (cat QC.A M))] _ rfl rfl fun w X β hT=>?_
 have hv':=hv.of_old hT
 refine ⟨_,fun w' _=>run_len_sl Tryz.underlying22 w',?_⟩
 refine ⟨fun q f m=>∃ (j:Nat),q=M.length - j∧j≤M.length∧(∀ z∈M.take j,z.cur=curH L)∧f=[(0,SV.c (.slice xa n xc)),(1,SV.clo 56 [7000]),(7,SV.c (.int .i64 (n:Nat))),(8,SV.c (.int .i64 (j:Nat)))]∧m=[(7000,Blk.row 22 1 #[v]),(6000,Blk.own (.slice xa n xc) 51 72 n (cat QC.A M))],M.length,⟨_,_,⟨0,by omega,by omega,by simp,rfl,rfl⟩,⟨rfl,rfl,rfl,rfl,trivial⟩,⟨rfl,.inl rfl,trivial⟩,rfl⟩,?_⟩
 rintro q f m ⟨j,rfl,hj,hno,rfl,rfl⟩
 refine ⟨fun h=>?_,fun h=>?_⟩
 ·have h:j < n:=by have:=of_decide_eq_true h;omega
  obtain ⟨z,hz⟩:∃ z,M[j]? = some z:=⟨_,List.getElem?_eq_getElem (by omega)⟩
  rcases hx with ⟨hs1,hs2⟩ | ⟨g0,c0,hs1⟩
  ·omega
  cases hs1
  have L2:=cat_extract QC.size hz
  have hjn:j*72+72≤(cat QC.A M).size:=by rw [Go.SX.cat_size QC.size];omega
  have Q1:=other_q (E:=(envC Tryz.prog tt Tryz.f88.ntmps w X (tiedK [(7000,Blk.row 22 1 #[v]),(6000,Blk.own (.slice (some ⟨g0,0,none⟩) n xc) 51 72 n (cat QC.A M))] β)).toEnv) rfl (z:=z) hv' hn
  generalize hX:cat QC.A M=XA at *
  generalize hY:z.A=ZA at *
  refine ⟨by omega,by omega,.inr ⟨6000,g0,_,n,_,_,_,_,rfl,rfl,(by rw [off72];exact hjn),ZA,(by rw [off72];exact L2),.inr (.inr (.inl ⟨[],[_,_],[_],_,[_],Q1,rfl,⟨rfl,trivial⟩,rfl,rfl,fun c=>?_,fun c=>?_⟩))⟩⟩
  ·have c:=bnot_t c
   have c:=of_decide_eq_false c
   exact ⟨[(7000,Blk.row 22 1 #[v]),(6000,Blk.own (.slice (some ⟨g0,0,none⟩) n xc) 51 72 n XA)],[],⟨⟨_,rfl,.inr ⟨j,rfl,by omega,hno,z,hz,c⟩⟩,rfl⟩,⟨rfl,.inl rfl,trivial⟩,rfl⟩
  ·have c:=bnot_f c
   have c:=of_decide_eq_true c
   refine ⟨M.length - (j+1),_,_,by omega,⟨j+1,rfl,by omega,?_,rfl,rfl⟩,⟨rfl,rfl,rfl,c_int (i64_succ (by omega)),trivial⟩,⟨rfl,.inl rfl,trivial⟩,rfl⟩
   intro z' hz'
   rw [List.take_add_one,hz] at hz'
   rcases List.mem_append.1 hz' with h9 | h9
   ·exact hno z' h9
   ·simp at h9;subst h9;exact c
 ·have h:j=n:=by have:=of_decide_eq_false h;omega
  refine ⟨[(7000,Blk.row 22 1 #[v]),(6000,Blk.own (.slice xa n xc) 51 72 n (cat QC.A M))],[],⟨⟨_,rfl,.inl ⟨rfl,?_⟩⟩,rfl⟩,⟨rfl,.inl rfl,trivial⟩,rfl⟩
  rw [List.take_of_length_le (by omega)] at hno
  exact hno
def capOk:Value→Prop
 | .slice _ n c=>n≤c
 | _=>True
theorem OwnC.caps {E:Env} {f:FuncId} {vs:List SV} {pre:MemL} {Q:Value→MemL→Prop} (h:OwnC E f vs pre Q):OwnC E f vs pre (fun x U=>Q x U∧∀ k v e sz n A,getM U k=some (Blk.own v e sz n A)→capOk v):=by
 refine ⟨h.1,fun ρ w xs hw hx=>(h.2 ρ w xs hw hx).mono fun e w' ⟨x,U,h1,h2,h3,h4⟩=>⟨x,U,h1,⟨h2,fun k v e sz n A hk=>?_⟩,h3,h4⟩⟩
 have hr:=(h3.loose k _ hk rfl).2
 have hr:w'.ownsRow 0 e sz v n A.toList:=hr
 rcases hr.2 with ⟨rfl,_⟩ | ⟨g,cap,cur,rfl,hb,hg,hnc,hcm,hcs,htake⟩
 ·exact Nat.le_refl 0
 ·exact hnc
def sameCur (L:List QC) (z:QC):Bool:=decide (z.cur=curH L)
theorem cmpbl_eq (L:List QC):cmpbl L=L.filter (sameCur L):=rfl
def DelQ (v:Value) (L M:List QC) (r:Value) (U:MemL):Prop:=∃ m,m=(M.filter (sameCur L)).length∧IsL r m∧U=[(7000,Blk.row 22 1 #[v]),(6000,Blk.own r 51 72 m (cat QC.A (M.filter (sameCur L))))]
theorem delete_q {E:Env} (hE:E.P=Tryz.prog) {x v:Value} {L M:List QC} {n:Nat} (hnM:n=M.length) (hM:M.length≤1000) (hv:Lst E v 72 L.length (cat QC.A L)) (hn:0 < L.length) (hx:IsL x n) (hcap:capOk x):OwnC E 54 [SV.c x,SV.clo 56 [7000]] [(7000,Blk.row 22 1 #[v]),(6000,Blk.own x 51 72 n (cat QC.A M))] (DelQ v L M):=by
 obtain ⟨xa,xc,rfl⟩:=hx.len
 refine sx_ownC [] tt_ok mixed at54 E hE [SV.c (.slice xa n xc),SV.clo 56 [7000]] [(7000,Blk.row 22 1 #[v]),(6000,Blk.own (.slice xa n xc) 51 72 n (cat QC.A M))] _ rfl rfl fun w X β hT=>?_
 have hv':=hv.of_old hT
 have I1:=indexF_q (E:=(envC Tryz.prog tt Tryz.f54.ntmps w X (tiedK [(7000,Blk.row 22 1 #[v]),(6000,Blk.own (.slice xa n xc) 51 72 n (cat QC.A M))] β)).toEnv) rfl (x:=.slice xa n xc) (M:=M) hnM hM hv' hn hx
 refine .inr (.inr (.inr ⟨[],[],[_,_],[_,_],_,I1,rfl,⟨rfl,.inl rfl,trivial⟩,rfl,trivial,?_⟩))
 rintro r U ⟨⟨i,rfl,hi⟩,rfl⟩
 refine ⟨rfl,?_⟩
 rcases hi with ⟨rfl,hall⟩ | ⟨j,rfl,hj,hpre,z0,hz0,hne⟩
 ·have e1:M.filter (sameCur L)=M:=List.filter_eq_self.2 fun z hz=>decide_eq_true (hall z hz)
  refine ⟨fun _=>?_,nofun⟩
  exact ⟨[(7000,Blk.row 22 1 #[v]),(6000,Blk.own (.slice xa n xc) 51 72 n (cat QC.A M))],[],⟨n,by rw [e1];exact hnM,hx,by rw [e1];rfl⟩,⟨rfl,.inl rfl,trivial⟩,rfl⟩
 rcases hx with ⟨hs1,hs2⟩ | ⟨g0,c0,hs1⟩
 ·omega
 cases hs1
 have hcap:n≤xc:=hcap
 have h0:((j:Int) == -1)=false:=by simp
 refine ⟨fun c=>absurd (h0.symm.trans c) (by decide),fun _=>?_⟩
 have hfj:(M.take j).filter (sameCur L)=M.take j:=List.filter_eq_self.2 fun z hz=>decide_eq_true (hpre z hz)
 have hf1:(M.take (j+1)).filter (sameCur L)=M.take j:=by
  rw [List.take_add_one,hz0,List.filter_append,hfj]
  simp [sameCur,hne]
 refine ⟨fun q f m=>∃ (a b:Nat) (M':List QC),q=M.length - b∧b≤M.length∧a < b∧M'.length=M.length∧M'.take a=(M.take b).filter (sameCur L)∧M'.drop b=M.drop b∧f=[(0,SV.c (.slice (some ⟨g0,0,none⟩) n xc)),(1,SV.clo 56 [7000]),(5,SV.c (.int .i64 (a:Nat))),(6,SV.c (.int .i64 (b:Nat)))]∧m=[(7000,Blk.row 22 1 #[v]),(6000,Blk.own (.slice (some ⟨g0,0,none⟩) n xc) 51 72 n (cat QC.A M'))],M.length - (j+1),⟨_,_,⟨j,j+1,M,rfl,by omega,by omega,rfl,hf1.symm,rfl,rfl,rfl⟩,⟨rfl,rfl,rfl,c_int (i64_succ (by omega)),trivial⟩,⟨rfl,.inl rfl,trivial⟩,rfl⟩,?_⟩
 rintro q f m ⟨a,b,M',rfl,hb,hab,hlen,htk,hdr,rfl,rfl⟩
 refine ⟨_,fun w' _=>run_len_sl Tryz.underlying22 w',fun h=>?_,fun h=>?_⟩
 ·have h:b < n:=by have:=of_decide_eq_true h;omega
  obtain ⟨z,hz⟩:∃ z,M[b]? = some z:=⟨_,List.getElem?_eq_getElem (by omega)⟩
  have hz':M'[b]? = some z:=by
   have h1:(M'.drop b)[0]? = (M.drop b)[0]?:=by rw [hdr]
   simpa [hz] using h1
  have L2:=cat_extract QC.size hz'
  have hjn:b*72+72≤(cat QC.A M').size:=by rw [Go.SX.cat_size QC.size];omega
  have han:a*72+72≤(cat QC.A M').size:=by rw [Go.SX.cat_size QC.size];omega
  have hst:splice (cat QC.A M') (a*72) z.A.toList=cat QC.A (M'.set a z):=cat_set QC.size (by omega) z
  have Q1:=other_q (E:=(envC Tryz.prog tt Tryz.f54.ntmps w X (tiedK [(7000,Blk.row 22 1 #[v]),(6000,Blk.own (.slice (some ⟨g0,0,none⟩) n xc) 51 72 n (cat QC.A M))] β)).toEnv) rfl (z:=z) hv' hn
  have ZF:=z.fits
  generalize hX:cat QC.A M'=XA at *
  generalize hY:z.A=ZA at *
  refine ⟨by omega,by omega,.inr ⟨6000,g0,_,n,_,_,_,_,rfl,rfl,(by rw [off72];exact hjn),ZA,(by rw [off72];exact L2),ZF,.inr (.inr (.inl ⟨[],[_,_],[_],_,[_],Q1,rfl,⟨rfl,trivial⟩,rfl,rfl,fun c=>?_,fun c=>?_⟩))⟩⟩
  ·have c:(!(!decide (z.cur=curH L)))=true:=c
   have c:sameCur L z=true:=by simpa [sameCur] using c
   refine ⟨by omega,by omega,⟨6000,g0,_,n,_,_,_,_,rfl,rfl,(by rw [off72];exact han),ZF,cat QC.A (M'.set a z),(by rw [off72];exact hst),?_⟩⟩
   refine ⟨M.length - (b+1),_,_,by omega,⟨a+1,b+1,M'.set a z,rfl,by omega,by omega,by rw [List.length_set];exact hlen,?_,?_,rfl,rfl⟩,⟨rfl,rfl,c_int (i64_succ (by omega)),c_int (i64_succ (by omega)),trivial⟩,⟨rfl,.inl rfl,trivial⟩,rfl⟩
   ·rw [List.take_add_one,List.take_add_one,hz,List.filter_append,← htk]
    rw [List.getElem?_set_self (by omega),List.take_set_of_le (Nat.le_refl _)]
    simp [c]
   ·rw [List.drop_set_of_lt (by omega)]
    have h1:(M'.drop b).drop 1=(M.drop b).drop 1:=by rw [hdr]
    simpa using h1
  ·have c:(!(!decide (z.cur=curH L)))=false:=c
   have c:sameCur L z=false:=by simpa [sameCur] using c
   refine ⟨M.length - (b+1),_,_,by omega,⟨a,b+1,M',rfl,by omega,by omega,hlen,?_,?_,rfl,rfl⟩,⟨rfl,rfl,rfl,c_int (i64_succ (by omega)),trivial⟩,⟨rfl,.inl (own_eq hX.symm),trivial⟩,rfl⟩
   ·rw [List.take_add_one,hz,List.filter_append,← htk]
    simp [c]
   ·have h1:(M'.drop b).drop 1=(M.drop b).drop 1:=by rw [hdr]
    simpa using h1
 ·have h:b=n:=by have:=of_decide_eq_false h;omega
  have hE':VOk (envC Tryz.prog tt Tryz.f54.ntmps w X (tiedK [(7000,Blk.row 22 1 #[v]),(6000,Blk.own (.slice (some ⟨g0,0,none⟩) n xc) 51 72 n (cat QC.A M))] β)):=tt_ok
  have S1:=runs_slo hE' Tryz.underlying22 (j:=ti51) rfl (a:=some ⟨g0,0,none⟩) (n:=n) (cap:=xc) (k:=.i64) a rfl (by omega)
  have S2:=runs_shi hE' Tryz.underlying22 (j:=ti51) rfl (a:=some ⟨g0,0,none⟩) (n:=n) (cap:=xc) (k:=.i64) a rfl (by omega)
  refine ⟨_,S1,?_⟩
  refine clear_shrink tt_ok rfl rfl rfl rfl (i:=ti22) rfl rfl (j:=ti51) rfl (by kernel_rfl) 6000 (a:=a) (k:=n - a) (n:=n) (c2:=xc - a) (cap:=xc) (off:=a*72) (by omega) (by omega) rfl ?_ rfl ?_
  ·show SV.c _=SV.c _
   rw [if_neg (by omega)]
   have e72:ti51.size=72:=rfl
   rw [e72]
   by_cases h0:a*72=0
   ·rw [h0];rfl
   ·simp [Addr.add,h0]
  ·refine ⟨_,S2,?_⟩
   have e1:(cat QC.A M').extract 0 (a*72)=cat QC.A (M.filter (sameCur L)):=by
    rw [← cat_take QC.size M' a (by omega),htk,List.take_of_length_le (by omega)]
   have e2:a=(M.filter (sameCur L)).length:=by
    have:=congrArg List.length htk
    rw [List.length_take,List.take_of_length_le (show M.length≤b by omega)] at this
    omega
   refine ⟨[(7000,Blk.row 22 1 #[v]),(6000,Blk.own (.slice (some ⟨g0,0,none⟩) a xc) 51 72 a (cat QC.A (M.filter (sameCur L))))],[],⟨a,e2,.some,rfl⟩,⟨rfl,.inl (own_eq e1),trivial⟩,rfl⟩
theorem insR_nil {α:Type} {lt:α→α→Bool} {x:α}:insR lt x []=[x]:=rfl
theorem insR_go {α:Type} {lt:α→α→Bool} {x y:α} {r:List α} (h:lt x y=true):insR lt x (y :: r)=y :: insR lt x r:=by
 rw [insR,if_pos h]
theorem insR_stop {α:Type} {lt:α→α→Bool} {x y:α} {r:List α} (h:lt x y=false):insR lt x (y :: r)=x :: y :: r:=by
 rw [insR,if_neg (by rw [h];decide)]
def ltQ (a b:QC):Bool:=ltP a.price b.price
def sortedQ (M:List QC):List QC:=(sortR ltQ M).reverse
def fnV (g:FuncId):Value:=.func (.func g) #[] #[]
theorem insert_q {E:Env} (hE:E.P=Tryz.prog) {x:Value} {M:List QC} {n:Nat} (hnM:n=M.length) (hM:M.length≤1000) (hx:IsL x n) (hok:∀ z∈M,z.In∧z.price.ok=true):OwnC E 169 [SV.c x,SV.c (.int .i64 0),SV.c (.int .i64 (n:Nat)),SV.c (fnV 58)] [(6000,Blk.own x 51 72 n (cat QC.A M))] (fun r U=>r=.tuple #[]∧U=[(6000,Blk.own x 51 72 n (cat QC.A (sortedQ M)))]):=by
 obtain ⟨xa,xc,rfl⟩:=hx.len
 refine sx_ownC [] tt_ok mixed at169 E hE [SV.c (.slice xa n xc),SV.c (.int .i64 0),SV.c (.int .i64 (n:Nat)),SV.c (fnV 58)] [(6000,Blk.own (.slice xa n xc) 51 72 n (cat QC.A M))] _ rfl rfl fun w X β hT=>?_
 refine ⟨fun q f m=>∃ (i:Nat) (M':List QC),q=M.length+1 - i∧1≤i∧(i≤M.length∨i=1)∧M'=(sortR ltQ (M.take i)).reverse++M.drop i∧f=[(0,SV.c (.slice xa n xc)),(1,SV.c (.int .i64 0)),(2,SV.c (.int .i64 (n:Nat))),(3,SV.c (fnV 58)),(8,SV.c (.int .i64 (i:Nat)))]∧m=[(6000,Blk.own (.slice xa n xc) 51 72 n (cat QC.A M'))],M.length,⟨_,_,⟨1,M,by omega,by omega,by omega,?_,rfl,rfl⟩,⟨rfl,rfl,rfl,rfl,rfl,trivial⟩,⟨.inl rfl,trivial⟩,rfl⟩,?_⟩
 ·cases M with
  | nil=>rfl
  | cons z r=>rfl
 rintro q f m ⟨i,M',rfl,hi1,hi,hM',rfl,rfl⟩
 refine ⟨fun h=>?_,fun h=>?_⟩
 ·have h:i < n:=by have:=of_decide_eq_true h;omega
  obtain ⟨z,hz⟩:∃ z,M[i]? = some z:=⟨_,List.getElem?_eq_getElem (by omega)⟩
  rcases hx with ⟨hs1,hs2⟩ | ⟨g0,c0,hs1⟩
  ·omega
  cases hs1
  have hdr:M.drop i=z :: M.drop (i+1):=by
   rw [List.drop_eq_getElem_cons (by omega)]
   congr 1
   exact (List.getElem?_eq_some_iff.1 hz).2
  generalize hR:sortR ltQ (M.take i)=R at *
  have hRl:R.length=i:=by rw [← hR,sortR_len];simp;omega
  have hRok:∀ y∈R,y.In∧y.price.ok=true:=fun y hy=>by
   rw [← hR,sortR_mem] at hy
   exact hok y (List.mem_of_mem_take hy)
  refine ⟨fun q f m=>∃ (r1 r2:List QC) (M':List QC),q=r2.length∧r1++r2=R∧insR ltQ z R=r1++insR ltQ z r2∧M'=r2.reverse++z :: (r1.reverse++M.drop (i+1))∧f=[(0,SV.c (.slice (some ⟨g0,0,none⟩) n xc)),(1,SV.c (.int .i64 0)),(2,SV.c (.int .i64 (n:Nat))),(3,SV.c (fnV 58)),(8,SV.c (.int .i64 (i:Nat))),(9,SV.c (.int .i64 (r2.length:Nat)))]∧m=[(6000,Blk.own (.slice (some ⟨g0,0,none⟩) n xc) 51 72 n (cat QC.A M'))],i,⟨_,_,⟨[],R,M',hRl.symm,rfl,rfl,by rw [hM',hdr];rfl,rfl,rfl⟩,⟨rfl,rfl,rfl,rfl,rfl,by rw [hRl];rfl,trivial⟩,⟨.inl rfl,trivial⟩,rfl⟩,?_⟩
  rintro q f m ⟨r1,r2,M2,rfl,hr12,hins,hM2,rfl,rfl⟩
  have hlen:M2.length=n:=by
   have h1:=congrArg List.length hr12
   have h2:=congrArg List.length hdr
   rw [hM2]
   simp only [List.length_append,List.length_cons,List.length_reverse,List.length_drop] at *
   omega
  cases r2 with
  | nil =>
   refine ⟨fun c=>absurd c (by decide),fun _=>⟨by kernel_rfl,nofun,fun _=>?_⟩⟩
   have e1:M2=(sortR ltQ (M.take (i+1))).reverse++M.drop (i+1):=by
    rw [sortR_take hz,hR,hins,insR_nil,hM2]
    simp
   exact ⟨M.length+1 - (i+1),_,_,by omega,⟨i+1,M2,rfl,by omega,by omega,e1,rfl,rfl⟩,⟨rfl,rfl,rfl,rfl,c_int (i64_succ (by omega)),trivial⟩,⟨.inl rfl,trivial⟩,rfl⟩
  | cons y r2 =>
   refine ⟨fun _=>?_,fun c=>absurd c (by simp)⟩
   have hl12:r1.length+r2.length+1=i:=by have:=congrArg List.length hr12;simp at this;omega
   have hlt:r2.length+1 < n:=by omega
   have ew:IntKind.i64.wrap (((y :: r2).length:Int) - 1)=((r2.length:Nat):Int):=by
    rw [List.length_cons,i64_in (by omega)];omega
   have hM3:M2=r2.reverse++y :: z :: (r1.reverse++M.drop (i+1)):=by rw [hM2];simp
   have hA:r2.reverse.length=r2.length:=List.length_reverse
   have g1:M2[r2.length]? = some y:=by rw [hM3,← hA];exact at_mid _ _ _
   have g2:M2[r2.length+1]? = some z:=by rw [hM3,← hA];exact at_mid1 _ _ _ _
   have hyR:y∈R:=by rw [← hr12];simp
   have K1:=cheaper_z (hok z (List.mem_of_getElem? hz)).1 (hRok y hyR).1 (hok z (List.mem_of_getElem? hz)).2 (hRok y hyR).2
   have L1:=cat_extract QC.size g1
   have L2:=cat_extract QC.size g2
   have hsw:((M2.set (r2.length+1) y).set r2.length z)=r2.reverse++z :: y :: (r1.reverse++M.drop (i+1)):=by
    rw [hM3,← hA];exact swap_list _ _ _ _
   have st1:splice (cat QC.A M2) ((r2.length+1)*72) y.A.toList=cat QC.A (M2.set (r2.length+1) y):=cat_set QC.size (by omega) y
   have st2:splice (cat QC.A (M2.set (r2.length+1) y)) (r2.length*72) z.A.toList=cat QC.A ((M2.set (r2.length+1) y).set r2.length z):=cat_set QC.size (by rw [List.length_set];omega) z
   have s1:(cat QC.A M2).size=n*72:=by rw [Go.SX.cat_size QC.size,hlen]
   have s2:(cat QC.A (M2.set (r2.length+1) y)).size=n*72:=by rw [Go.SX.cat_size QC.size,List.length_set,hlen]
   rw [hsw] at st2
   have j1:r2.length*72+72≤(cat QC.A M2).size:=by rw [s1];omega
   have j2:(r2.length+1)*72+72≤(cat QC.A M2).size:=by rw [s1];omega
   have j3:r2.length*72+72≤(cat QC.A (M2.set (r2.length+1) y)).size:=by rw [s2];omega
   have YF:=y.fits
   have ZF:=z.fits
   generalize hX:cat QC.A M2=XA at *
   generalize hX2:cat QC.A (M2.set (r2.length+1) y)=XB at *
   generalize hY:z.A=ZA at *
   generalize hY2:y.A=YA at *
   refine ⟨by omega,by simp only [List.length_cons];omega,.inr ⟨6000,g0,_,n,_,_,_,_,rfl,rfl,(by rw [List.length_cons,off72];exact j2),ZA,(by rw [List.length_cons,off72];exact L2),?_⟩⟩
   refine ⟨by rw [ew];omega,by rw [ew];omega,.inr ⟨6000,g0,_,n,_,_,_,_,rfl,rfl,(by rw [ew,off72];exact j1),YA,(by rw [ew,off72];exact L1),.inl ⟨_,K1,by kernel_rfl,fun c=>?_,fun c=>?_⟩⟩⟩
   ·have c:decide (cmpI (z.price.p*y.price.q) (y.price.p*z.price.q) < 0)=true:=c
    have hl:ltQ z y=true:=c
    refine ⟨by rw [ew];omega,by rw [ew];omega,.inr ⟨6000,g0,_,n,_,_,_,_,rfl,rfl,(by rw [ew,off72];exact j1),YA,(by rw [ew,off72];exact L1),?_⟩⟩
    refine ⟨by omega,by rw [List.length_cons];omega,.inr ⟨6000,g0,_,n,_,_,_,_,rfl,rfl,(by rw [List.length_cons,off72];exact j2),ZA,(by rw [List.length_cons,off72];exact L2),?_⟩⟩
    refine ⟨by omega,by rw [List.length_cons];omega,⟨6000,g0,_,n,_,_,_,_,rfl,rfl,(by rw [List.length_cons,off72];exact j2),YF,XB,(by rw [List.length_cons,off72];exact st1),?_⟩⟩
    refine ⟨by rw [ew];omega,by rw [ew];omega,⟨6000,g0,_,n,_,_,_,_,rfl,rfl,(by rw [ew,off72];exact j3),ZF,cat QC.A (r2.reverse++z :: y :: (r1.reverse++M.drop (i+1))),(by rw [ew,off72];exact st2),?_⟩⟩
    refine ⟨by kernel_rfl,r2.length,_,_,by simp,⟨r1++[y],r2,_,rfl,by rw [← hr12];simp,by rw [hins,insR_go hl];simp,?_,rfl,rfl⟩,⟨rfl,rfl,rfl,rfl,rfl,c_int ew,trivial⟩,⟨.inl rfl,trivial⟩,rfl⟩
    simp
   ·have c:decide (cmpI (z.price.p*y.price.q) (y.price.p*z.price.q) < 0)=false:=c
    have hl:ltQ z y=false:=c
    have e1:M2=(sortR ltQ (M.take (i+1))).reverse++M.drop (i+1):=by
     rw [sortR_take hz,hR,hins,insR_stop hl,hM2]
     simp
    exact ⟨M.length+1 - (i+1),_,_,by omega,⟨i+1,M2,rfl,by omega,by omega,e1,rfl,rfl⟩,⟨rfl,rfl,rfl,rfl,c_int (i64_succ (by omega)),trivial⟩,⟨.inl (own_eq hX.symm),trivial⟩,rfl⟩
 ·have h:n≤i:=by have:=of_decide_eq_false h;omega
  have e1:M'=sortedQ M:=by
   rw [hM',List.take_of_length_le (by omega),List.drop_of_length_le (by omega),List.append_nil]
   try rfl
  exact ⟨[(6000,Blk.own (.slice xa n xc) 51 72 n (cat QC.A M'))],[],⟨rfl,by rw [e1]⟩,⟨.inl rfl,trivial⟩,rfl⟩
theorem stable_q {E:Env} (hE:E.P=Tryz.prog) {x:Value} {M:List QC} {n:Nat} (hnM:n=M.length) (hM:M.length < 20) (hx:IsL x n) (hok:∀ z∈M,z.In∧z.price.ok=true):OwnC E 128 [SV.c x,SV.c (.int .i64 (n:Nat)),SV.c (fnV 58)] [(6000,Blk.own x 51 72 n (cat QC.A M))] (fun r U=>r=.tuple #[]∧U=[(6000,Blk.own x 51 72 n (cat QC.A (sortedQ M)))]):=by
 obtain ⟨xa,xc,rfl⟩:=hx.len
 refine sx_ownC [] tt_ok mixed at128 E hE [SV.c (.slice xa n xc),SV.c (.int .i64 (n:Nat)),SV.c (fnV 58)] [(6000,Blk.own (.slice xa n xc) 51 72 n (cat QC.A M))] _ rfl rfl fun w X β hT=>?_
 have I1:=insert_q (E:=(envC Tryz.prog tt Tryz.f128.ntmps w X (tiedK [(6000,Blk.own (.slice xa n xc) 51 72 n (cat QC.A M))] β)).toEnv) rfl (x:=.slice xa n xc) (M:=M) hnM (by omega) hx hok
 refine ⟨fun q f m=>q=0∧f=[(0,SV.c (.slice xa n xc)),(1,SV.c (.int .i64 (n:Nat))),(2,SV.c (fnV 58)),(6,SV.c (.int .i64 20)),(7,SV.c (.int .i64 0)),(8,SV.c (.int .i64 20))]∧m=[(6000,Blk.own (.slice xa n xc) 51 72 n (cat QC.A M))],0,⟨_,_,⟨rfl,rfl,rfl⟩,⟨rfl,rfl,rfl,rfl,rfl,rfl,trivial⟩,⟨.inl rfl,trivial⟩,rfl⟩,?_⟩
 rintro q f m ⟨rfl,rfl,rfl⟩
 refine ⟨fun h=>?_,fun h=>?_⟩
 ·have h:=of_decide_eq_true h;omega
 ·refine .inr (.inr (.inl ⟨[],[_,_,_,_],[_],_,[_],I1,rfl,⟨.inl rfl,trivial⟩,rfl,rfl,?_⟩))
  refine ⟨fun q f m=>q=0∧f=[(0,SV.c (.slice xa n xc)),(1,SV.c (.int .i64 (n:Nat))),(2,SV.c (fnV 58)),(6,SV.c (.int .i64 20))]∧m=[(6000,Blk.own (.slice xa n xc) 51 72 n (cat QC.A (sortedQ M)))],0,⟨_,_,⟨rfl,rfl,rfl⟩,⟨rfl,rfl,rfl,rfl,trivial⟩,⟨.inl rfl,trivial⟩,rfl⟩,?_⟩
  rintro q f m ⟨rfl,rfl,rfl⟩
  refine ⟨fun h=>?_,fun h=>?_⟩
  ·have h:=of_decide_eq_true h;omega
  ·exact ⟨[(6000,Blk.own (.slice xa n xc) 51 72 n (cat QC.A (sortedQ M)))],[],⟨rfl,rfl⟩,⟨.inl rfl,trivial⟩,rfl⟩
theorem sortS_q {E:Env} (hE:E.P=Tryz.prog) {x:Value} {M:List QC} {n:Nat} (hnM:n=M.length) (hM:M.length < 20) (hx:IsL x n) (hok:∀ z∈M,z.In∧z.price.ok=true):OwnC E 89 [SV.c x,SV.c (fnV 58)] [(6000,Blk.own x 51 72 n (cat QC.A M))] (fun r U=>r=.tuple #[]∧U=[(6000,Blk.own x 51 72 n (cat QC.A (sortedQ M)))]):=by
 obtain ⟨xa,xc,rfl⟩:=hx.len
 refine sx_ownC [] tt_ok mixed at89 E hE [SV.c (.slice xa n xc),SV.c (fnV 58)] [(6000,Blk.own (.slice xa n xc) 51 72 n (cat QC.A M))] _ rfl rfl fun w X β hT=>?_
 have I1:=stable_q (E:=(envC Tryz.prog tt Tryz.f89.ntmps w X (tiedK [(6000,Blk.own (.slice xa n xc) 51 72 n (cat QC.A M))] β)).toEnv) rfl (x:=.slice xa n xc) (M:=M) hnM (by omega) hx hok
 refine ⟨_,fun w' _=>run_len_sl Tryz.underlying22 w',?_⟩
 refine .inr (.inr (.inl ⟨[],[_,_,_],[_],_,[_],I1,rfl,⟨.inl rfl,trivial⟩,rfl,rfl,?_⟩))
 exact ⟨[(6000,Blk.own (.slice xa n xc) 51 72 n (cat QC.A (sortedQ M)))],[],⟨rfl,rfl⟩,⟨.inl rfl,trivial⟩,rfl⟩
theorem sortedQ_len (M:List QC):(sortedQ M).length=M.length:=by unfold sortedQ;rw [List.length_reverse,sortR_len]
theorem median_q {E:Env} (hE:E.P=Tryz.prog) {v:Value} {M:List QC} (hv:Lst E v 72 M.length (cat QC.A M)) (hn:0 < M.length) (hM:M.length < 20) (hok:∀ z∈M,z.In∧z.price.ok=true):OwnC E 57 [SV.c v,SV.c (fnV 58)] [] (fun r U=>(∃ z,(sortedQ M)[(M.length - 1) / 2]? = some z∧r=.agg z.A)∧U=[]):=by
 refine sx_ownC [] tt_ok mixed at57 E hE [SV.c v,SV.c (fnV 58)] [] _ rfl rfl fun w X β hT=>?_
 have hv':=hv.of_old hT
 have C1:=clone_q rfl hv' hn (by omega)
 refine .inr (.inr (.inr ⟨[],[6000],[_],[],_,C1,rfl,trivial,rfl,trivial,?_⟩))
 rintro x U ⟨hx,rfl⟩
 refine ⟨rfl,?_⟩
 have S1:=sortS_q (E:=(envC Tryz.prog tt Tryz.f57.ntmps w X (tiedK [] β)).toEnv) rfl (x:=x) (M:=M) rfl hM hx hok
 refine .inr (.inr (.inl ⟨[],[_,_],[_],_,[_],S1,rfl,⟨.inl rfl,trivial⟩,rfl,rfl,?_⟩))
 obtain ⟨z,hz⟩:∃ z,(sortedQ M)[(M.length - 1) / 2]? = some z:=⟨_,List.getElem?_eq_getElem (by rw [sortedQ_len];omega)⟩
 rcases hx with ⟨hs1,hs2⟩ | ⟨g0,c0,rfl⟩
 ·omega
 refine ⟨_,fun w' _=>run_len_sl Tryz.underlying22 w',?_⟩
 have ew:IntKind.i64.wrap ((IntKind.i64.wrap ((M.length:Int) - 1)).tdiv 2)=(((M.length - 1) / 2:Nat):Int):=by
  have e1:IntKind.i64.wrap ((M.length:Int) - 1)=((M.length - 1:Nat):Int):=by rw [i64_in (by omega)];omega
  rw [e1,show ((M.length - 1:Nat):Int).tdiv 2=(((M.length - 1) / 2:Nat):Int) from (Int.ofNat_tdiv _ 2).symm]
  exact i64_in (by omega)
 have hlt:(M.length - 1) / 2 < M.length:=by omega
 have L1:=cat_extract QC.size hz
 have j1:(M.length - 1) / 2*72+72≤(cat QC.A (sortedQ M)).size:=by rw [Go.SX.cat_size QC.size,sortedQ_len];omega
 have ZF:=z.fits
 generalize hX:cat QC.A (sortedQ M)=XA at *
 generalize hY:z.A=ZA at *
 refine ⟨by decide,by rw [ew];omega,by rw [ew];omega,.inr ⟨6000,g0,_,M.length,_,_,_,_,rfl,rfl,(by rw [ew,off72];exact j1),ZA,(by rw [ew,off72];exact L1),ZF,?_⟩⟩
 exact ⟨[],[],⟨⟨z,hz,by rw [hY];rfl⟩,rfl⟩,trivial,rfl⟩
def upB (b:UInt8):Bool:=decide (65≤b.toNat) && decide (b.toNat≤90)
theorem rune_up {l:List UInt8} {pos:Nat} (h:pos < l.length):upB (l.getD pos 0)=(decide (65≤(Utf8.decode (S l) pos).1) && decide ((Utf8.decode (S l) pos).1≤90))∧(upB (l.getD pos 0)=true→(Utf8.decode (S l) pos).2=1):=by
 have hs:pos < (S l).size:=by rw [S_size];exact h
 have hg:=S_get hs h
 rcases Nat.lt_or_ge (l.getD pos 0).toNat 128 with hb | hb
 ·have:=Go.decode_ascii (S l) pos hs (by rw [hg];exact hb)
  rw [this,hg]
  exact ⟨rfl,fun _=>rfl⟩
 ·have:=(Go.decode_high (S l) pos hs (by rw [hg];exact hb)).1
  have e1:upB (l.getD pos 0)=false:=by
   unfold upB
   rw [decide_eq_false (show ¬ (l.getD pos 0).toNat≤90 by omega)];simp
  refine ⟨?_,fun h=>by rw [e1] at h;cases h⟩
  rw [e1,decide_eq_false (show ¬ (Utf8.decode (S l) pos).1≤90 by omega)];simp
theorem capAt_up (l:List UInt8) (j:Nat):capAt false l j=upB (l.getD j 0):=by
 unfold capAt upB;simp
theorem cur_bad {l:List UInt8} {j:Nat} (hj:j < l.length) (h:upB (l.getD j 0)=false):curOk l=false:=by
 unfold curOk
 rw [capAll_false hj (by rw [capAt_up];exact h)];rfl
theorem cur_all {l:List UInt8} (h:∀ j,j < l.length→upB (l.getD j 0)=true):curOk l=(((l.length:Nat):Int) == 3):=by
 unfold curOk
 rw [capAll_true fun j hj=>by rw [capAt_up];exact h j hj,Bool.true_and,Bool.eq_iff_iff]
 simp only [Bool.and_eq_true,decide_eq_true_eq,beq_iff_eq]
 omega
theorem code_e (l:List UInt8):Pure Tryz.prog 70 [SV.c (.string (S l))] (.bool (curOk l)):=by
 refine pure_of (vs:=[.string (S l)]) at70.enters fun w0=>?_
 refine sx_ownC [] tt_ok mixed at70 _ rfl [SV.c (.string (S l))] [] _ rfl rfl fun w X β hT=>?_
 refine str_range rfl rfl Tryz.underlying9 300 rfl rfl trivial fun r=>?_
 refine ⟨fun q f m=>∃ pos:Nat,q=l.length - pos∧pos≤l.length∧(∀ j,j < pos→upB (l.getD j 0)=true)∧f=[(0,SV.c (.string (S l))),(6,SV.c (.pointer (some ⟨r,0,none⟩)))]∧m=[(300,Blk.res r (fun o=>o=.stringIter (S l) pos))],l.length,⟨_,_,⟨0,rfl,by omega,fun j h=>by omega,rfl,rfl⟩,⟨rfl,rfl,trivial⟩,⟨rfl,trivial⟩,rfl⟩,?_⟩
 rintro q f m ⟨pos,rfl,hp,hall,rfl,rfl⟩
 refine str_next rfl 300 rfl rfl trivial (fun h4=>?_) (fun h4=>?_)
 ·rw [S_size] at h4
  refine ⟨fun h=>absurd h (by decide),fun _=>?_⟩
  refine ⟨_,fun w _=>run_len_S Tryz.underlying9 w,[],[],⟨by rw [cur_all fun j hj=>hall j (by omega)];rfl,rfl⟩,trivial,rfl⟩
 ·rw [S_size] at h4
  obtain ⟨hR,hW⟩:=rune_up (l:=l) h4
  generalize (Utf8.decode (S l) pos).1=R at *
  generalize (Utf8.decode (S l) pos).2=W at *
  have bad:¬ (65≤R∧R≤90)→∃ U σ,(Value.bool false=.bool (curOk l)∧U=([]:MemL))∧weakM [(300,Blk.res r (fun o=>o=.stringIter (S l) (pos+W)))] (renM σ U)∧retOk [] σ U=true:=fun h=>⟨[],[],⟨by rw [cur_bad h4 (by rw [hR];simpa using h)],rfl⟩,trivial,rfl⟩
  refine ⟨fun _=>⟨fun c1=>⟨fun c2=>bad ?_,fun c2=>?_⟩,fun c1=>⟨fun _=>bad ?_,fun h=>absurd h (by decide)⟩⟩,fun h=>absurd h (by decide)⟩
  ·have c2:=of_decide_eq_true (show decide (((R:Nat):Int) > 90)=true from c2)
   omega
  ·have c1:=of_decide_eq_false c1
   have c2:=of_decide_eq_false (show decide (((R:Nat):Int) > 90)=false from c2)
   have hu:upB (l.getD pos 0)=true:=by rw [hR];simp;omega
   have:=hW hu
   subst this
   exact ⟨l.length - (pos+1),_,_,by omega,⟨pos+1,rfl,by omega,fun j hj=>by
    rcases Nat.lt_or_ge j pos with h6 | h6
    ·exact hall j h6
    ·have:j=pos:=by omega
     subst this;exact hu,rfl,rfl⟩,⟨rfl,rfl,trivial⟩,⟨rfl,trivial⟩,rfl⟩
  ·have c1:=of_decide_eq_true (show decide (((R:Nat):Int) < 65)=true from c1)
   omega
theorem off66 (p:Nat):offAt 0 ((p:Nat):Int) ti29.size=p*66:=by
 show offAt 0 ((p:Nat):Int) 66=p*66
 simp [offAt]
theorem fill_rat1 (r:RQ):Instr.fill (fun k=>some (k*ti29.size,ti29.size)) (madeCells ti29.zero (1*ti29.size)) [(0,.agg r.A)]=some r.A:=by kernel_rfl
theorem RQ.ext66 (r:RQ):r.A.extract 0 (0+1*66)=r.A:=by
 have:r.A.size=66:=r.A_size
 simp [this]
theorem info_rat:∃ q,Tryz.prog.info? 29=some q∧q.bytes=264:=info_of (by kernel_rfl)
theorem pay_small {r s:RQ} (hr:payOk r=true) (hs:payOk s=true):(r.p*s.q).natAbs < BB ^ 32:=by
 obtain ⟨h1,h2⟩:=pay_bd hr
 obtain ⟨h3,h4⟩:=pay_bd hs
 rw [Int.natAbs_mul]
 have:r.p.natAbs*s.q.natAbs≤1000000000000000*1000000:=Nat.mul_le_mul h2 h3
 exact Nat.lt_of_le_of_lt this (by decide)
theorem cmpI_anti (a b:Int):decide (cmpI a b > 0)=decide (cmpI b a < 0):=by
 rw [decide_eq_decide]
 unfold cmpI
 by_cases h1:a < b
 ·rw [if_pos h1,if_neg (show ¬ b < a by omega),if_pos h1];simp
 ·by_cases h2:b < a
  ·rw [if_neg h1,if_pos h2,if_pos h2];simp
  ·rw [if_neg h1,if_neg h2,if_neg h2,if_neg h1]
theorem lst_part {α:Type} {g:α→Array Value} {s:Nat} {E:VE} (hE:VOk E) {b o i j:Nat} {xs:List α} {x:α} {ty:TypeId} {ti:TI} {B:Array Value} (h:∀ w,OldW E.toEnv w→∀ j u,(cat g xs)[j]? = some u→w.cell? ⟨b,o+j,none⟩=some u) (hg:∀ x,(g x).size=s) (hx:xs[i]? = some x) (hi:E.tt ty=some ti) (hr:ti.row=true) (hj:j+ti.size≤s) (hB:(g x).extract j (j+ti.size)=B) {p:Nat} (hp:p=o+i*s+j):Runs E.toEnv (Instr.loadAt ty (.pointer (some ⟨b,p,none⟩))) (.agg B):=by
 have hlt:=(List.getElem?_eq_some_iff.1 hx).1
 have hm:(i+1)*s≤xs.length*s:=Nat.mul_le_mul_right s hlt
 rw [Nat.add_mul,Nat.one_mul] at hm
 have e1:(cat g xs).extract (i*s+j) (i*s+j+ti.size)=B:=by
  rw [← hB,← cat_extract hg hx,Array.extract_extract]
  congr 1
  rw [Nat.min_eq_left (by omega),Nat.add_assoc]
 have:=lst_row hE (off:=i*s+j) h hi hr (by rw [Go.SX.cat_size hg];omega) (p:=p) (by omega)
 rw [e1] at this
 exact this
def prices (L:List QC) (i:Nat):List RQ:=((L.take i).filter (sameCur L)).map QC.price
theorem yard_r {E:Env} (hE:E.P=Tryz.prog) {v:Value} {L:List QC} (hv:Lst E v 72 L.length (cat QC.A L)) (hn:0 < L.length) (hM:L.length < 20) (hok:∀ z∈L,z.In∧payOk z.price=true):OwnC E 120 [SV.c v] [] (fun r U=>r=.agg (yardQ L).A∧U=[]):=by
 refine sx_ownC [] tt_ok mixed at120 E hE [SV.c v] [] _ rfl rfl fun w X β hT=>?_
 have hv':=hv.of_old hT
 obtain ⟨a,cap,rfl,hc,h4⟩:=id hv'.shape
 obtain ⟨b,o,rfl,h5⟩:=h4 hn
 obtain ⟨y0,hy0⟩:∃ y,L[0]? = some y:=⟨_,List.getElem?_eq_getElem hn⟩
 have hE':VOk (envC Tryz.prog tt Tryz.f120.ntmps w X (tiedK [] β)):=tt_ok
 have L0:=lst_at hE' h5 QC.size hy0 y0.g2 (ty:=9) (ti:=ti9) rfl rfl (p:=offAt o 0 ti51.size+2) (off_z o)
 have ec:curH L=y0.cur:=by
  unfold curH
  cases L with
  | nil=>cases hy0
  | cons z0 r=>simp at hy0;subst hy0;rfl
 refine ⟨fun q f m=>∃ (i:Nat) (y:Value) (N:Nat),q=L.length - i∧i≤L.length∧N=(prices L i).length∧IsL y N∧f=[(0,SV.c (.slice (some ⟨b,o,none⟩) L.length cap)),(2,SV.ptr 2 0),(3,SV.c y),(4,SV.c (.int .i64 (i:Nat)))]∧m=[(8000,Blk.own y 29 66 N (cat RQ.A (sortR ltP (prices L i)).reverse)),(2,Blk.row 29 66 zeroQ.A)],L.length,⟨_,_,⟨0,.slice none 0 0,0,by omega,by omega,rfl,.nil,rfl,rfl⟩,⟨rfl,rfl,rfl,rfl,trivial⟩,⟨.inr ⟨rfl,rfl,rfl⟩,congrArg (fun A=>some (Blk.row 29 66 A)) zeroQ_A.symm,trivial⟩,rfl⟩,?_⟩
 rintro q f m ⟨i,y,N,rfl,hi,hN,hy,rfl,rfl⟩
 refine ⟨_,fun w' _=>run_len_sl Tryz.underlying22 w',fun h=>?_,fun h=>?_⟩
 ·have h:i < L.length:=by have:=of_decide_eq_true h;omega
  obtain ⟨z,hz⟩:∃ z,L[i]? = some z:=⟨_,List.getElem?_eq_getElem h⟩
  have L2:=lst_at hE' h5 QC.size hz z.g2 (ty:=9) (ti:=ti9) rfl rfl (p:=o+((i:Nat):Int).toNat*72+2) rfl
  refine ⟨by omega,by omega,.inl ⟨_,L2,by decide,by omega,.inl ⟨_,L0,by kernel_rfl,fun c=>?_,fun c=>?_⟩⟩⟩
  ·have c:(!((S z.cur).toList == (S y0.cur).toList))=true:=c
   rw [S_beq] at c
   have c:sameCur L z=false:=by rw [sameCur,ec];simpa using c
   have e1:prices L (i+1)=prices L i:=by
    unfold prices
    rw [List.take_add_one,hz,List.filter_append]
    simp [c]
   exact ⟨L.length - (i+1),_,_,by omega,⟨i+1,y,N,rfl,by omega,by rw [e1];exact hN,hy,rfl,rfl⟩,⟨rfl,rfl,rfl,c_int (i64_succ (by omega)),trivial⟩,⟨.inl (own_eq (by rw [e1])),rfl,trivial⟩,rfl⟩
  ·have c:(!((S z.cur).toList == (S y0.cur).toList))=false:=c
   rw [S_beq] at c
   have c:sameCur L z=true:=by rw [sameCur,ec];simpa using c
   have e1:prices L (i+1)=prices L i++[z.price]:=by
    unfold prices
    rw [List.take_add_one,hz,List.filter_append]
    simp [c]
   have hzo:=hok z (List.mem_of_getElem? hz)
   have hRok:∀ r∈sortR ltP (prices L i),r.In∧payOk r=true:=fun r hr=>by
    rw [sortR_mem] at hr
    unfold prices at hr
    obtain ⟨q,hq,rfl⟩:=List.mem_map.1 hr
    have:=hok q (List.mem_of_mem_take (List.mem_filter.1 hq).1)
    exact ⟨this.1.price,this.2⟩
   have hNl:N≤i:=by
    rw [hN];unfold prices
    rw [List.length_map]
    exact Nat.le_trans (List.length_filter_le _ _) (by simp;omega)
   have hRl:(sortR ltP (prices L i)).length=N:=by rw [sortR_len];exact hN.symm
   have e2:sortR ltP (prices L (i+1))=insR ltP z.price (sortR ltP (prices L i)):=by rw [e1,sortR_snoc]
   have e3:(prices L (i+1)).length=N+1:=by rw [e1,List.length_append,← hN];rfl
   generalize sortR ltP (prices L i)=R at *
   have L3:=lst_part hE' h5 QC.size hz (j:=4) (ty:=29) (ti:=ti29) rfl rfl (by decide) z.gpri (p:=o+((i:Nat):Int).toNat*72+4) rfl
   have zin:=hzo.1.price
   have zpo:=hzo.2
   generalize z.price=P at *
   have F1:=fill_rat1 P
   have F2:=P.A_fits.one
   have F3:=P.ext66
   have F4:P.A.size=1*66:=P.A_size
   have F5:cat RQ.A R.reverse++P.A=cat RQ.A (R.reverse++[P]):=by rw [cat_append,cat_one]
   have K:=fun (r:RQ) (hr:r∈R)=>compareR_r (hRok r hr).1 zin (pay_small (hRok r hr).2 zpo) (pay_small zpo (hRok r hr).2)
   refine ⟨by omega,by omega,.inl ⟨_,L3,.inl ⟨by decide,by decide,_,F1,F4,by decide,8000,N,_,.inl rfl,by decide,F2,F4,_,F3,?_⟩⟩⟩
   obtain ⟨q,hq,hb⟩:=info_rat
   refine ⟨by omega,by unfold maxLen;omega,⟨q,hq,by rw [hb];omega⟩,trivial,fun g2 cap2=>?_⟩
   refine ⟨_,fun w' _=>run_len_sl Tryz.underlying91 w',?_⟩
   have ew:IntKind.i64.wrap (((N+1:Nat):Int) - 1)=((N:Nat):Int):=by rw [i64_in (by omega)];omega
   refine ⟨fun q f m=>∃ (r1 r2:List RQ) (M2:List RQ),q=r2.length∧r1++r2=R∧insR ltP P R=r1++insR ltP P r2∧M2=r2.reverse++P :: r1.reverse∧f=[(0,SV.c (.slice (some ⟨b,o,none⟩) L.length cap)),(2,SV.ptr 2 0),(3,SV.c (.slice (some ⟨g2,0,none⟩) (N+1) cap2)),(4,SV.c (.int .i64 (i:Nat))),(5,SV.c (.int .i64 (r2.length:Nat)))]∧m=[(8000,Blk.own (.slice (some ⟨g2,0,none⟩) (N+1) cap2) 29 66 (N+1) (cat RQ.A M2)),(2,Blk.row 29 66 zeroQ.A)],N,⟨_,_,⟨[],R,_,hRl.symm,rfl,rfl,rfl,rfl,rfl⟩,⟨rfl,rfl,rfl,rfl,c_int (by rw [hRl];exact ew),trivial⟩,⟨.inl (own_eq F5),rfl,trivial⟩,rfl⟩,?_⟩
   rintro q f m ⟨r1,r2,M2,rfl,hr12,hins,hM2,rfl,rfl⟩
   have hl12:r1.length+r2.length=N:=by have:=congrArg List.length hr12;simp at this;omega
   have hlen:M2.length=N+1:=by rw [hM2];simp;omega
   cases r2 with
   | nil =>
    have e4:M2=(insR ltP P R).reverse:=by rw [hins,insR_nil,hM2];simp
    refine ⟨fun c=>absurd c (by decide),fun _=>⟨by kernel_rfl,nofun,fun _=>?_⟩⟩
    exact ⟨L.length - (i+1),_,_,by omega,⟨i+1,_,N+1,rfl,by omega,e3.symm,.some,rfl,rfl⟩,⟨rfl,rfl,rfl,c_int (i64_succ (by omega)),trivial⟩,⟨.inl (own_eq (by rw [e2,e4])),rfl,trivial⟩,rfl⟩
   | cons y r2 =>
    refine ⟨fun _=>?_,fun c=>absurd c (by simp)⟩
    have hl12:r1.length+r2.length+1=N:=by simp at hl12;omega
    have hlt:r2.length+1 < N+1:=by omega
    have ew2:IntKind.i64.wrap (((y :: r2).length:Int) - 1)=((r2.length:Nat):Int):=by
     rw [List.length_cons,i64_in (by omega)];omega
    have hM3:M2=r2.reverse++y :: P :: r1.reverse:=by rw [hM2];simp
    have hA:r2.reverse.length=r2.length:=List.length_reverse
    have g1:M2[r2.length]? = some y:=by rw [hM3,← hA];exact at_mid _ _ _
    have g2':M2[r2.length+1]? = some P:=by rw [hM3,← hA];exact at_mid1 _ _ _ _
    have hyR:y∈R:=by rw [← hr12];simp
    have K1:=K y hyR
    have hca:=cmpI_anti (y.p*P.q) (P.p*y.q)
    have L1:=cat_extract RQ.A_size g1
    have L2:=cat_extract RQ.A_size g2'
    have hsw:((M2.set (r2.length+1) y).set r2.length P)=r2.reverse++P :: y :: r1.reverse:=by
     rw [hM3,← hA];exact swap_list _ _ _ _
    have st1:splice (cat RQ.A M2) (r2.length*66) P.A.toList=cat RQ.A (M2.set r2.length P):=cat_set RQ.A_size (by omega) P
    have st2:splice (cat RQ.A (M2.set r2.length P)) ((r2.length+1)*66) y.A.toList=cat RQ.A ((M2.set r2.length P).set (r2.length+1) y):=cat_set RQ.A_size (by rw [List.length_set];omega) y
    have s1:(cat RQ.A M2).size=(N+1)*66:=by rw [Go.SX.cat_size RQ.A_size,hlen]
    have s2:(cat RQ.A (M2.set r2.length P)).size=(N+1)*66:=by rw [Go.SX.cat_size RQ.A_size,List.length_set,hlen]
    rw [List.set_comm _ _ (by omega),hsw] at st2
    have j1:r2.length*66+66≤(cat RQ.A M2).size:=by rw [s1];omega
    have j2:(r2.length+1)*66+66≤(cat RQ.A M2).size:=by rw [s1];omega
    have j3:(r2.length+1)*66+66≤(cat RQ.A (M2.set r2.length P)).size:=by rw [s2];omega
    have YF:=y.A_fits
    have PF:=P.A_fits
    generalize hX:cat RQ.A M2=XA at *
    generalize hX2:cat RQ.A (M2.set r2.length P)=XB at *
    generalize hY:P.A=PA at *
    generalize hY2:y.A=YA at *
    refine ⟨by rw [ew2];omega,by rw [ew2];omega,.inr ⟨8000,g2,_,N+1,_,_,_,_,rfl,rfl,(by rw [ew2,off66];exact j1),YA,(by rw [ew2,off66];exact L1),?_⟩⟩
    refine ⟨by omega,by rw [List.length_cons];omega,.inr ⟨8000,g2,_,N+1,_,_,_,_,rfl,rfl,(by rw [List.length_cons,off66];exact j2),PA,(by rw [List.length_cons,off66];exact L2),.inl ⟨_,K1,by kernel_rfl,fun c=>?_,fun c=>?_⟩⟩⟩
    ·have c:decide (cmpI (y.p*P.q) (P.p*y.q) > 0)=true:=c
     have hl:ltP P y=true:=hca.symm.trans c
     refine ⟨by omega,by rw [List.length_cons];omega,.inr ⟨8000,g2,_,N+1,_,_,_,_,rfl,rfl,(by rw [List.length_cons,off66];exact j2),PA,(by rw [List.length_cons,off66];exact L2),?_⟩⟩
     refine ⟨by rw [ew2];omega,by rw [ew2];omega,.inr ⟨8000,g2,_,N+1,_,_,_,_,rfl,rfl,(by rw [ew2,off66];exact j1),YA,(by rw [ew2,off66];exact L1),?_⟩⟩
     refine ⟨by rw [ew2];omega,by rw [ew2];omega,⟨8000,g2,_,N+1,_,_,_,_,rfl,rfl,(by rw [ew2,off66];exact j1),PF,XB,(by rw [ew2,off66];exact st1),?_⟩⟩
     refine ⟨by omega,by rw [List.length_cons];omega,⟨8000,g2,_,N+1,_,_,_,_,rfl,rfl,(by rw [List.length_cons,off66];exact j3),YF,cat RQ.A (r2.reverse++P :: y :: r1.reverse),(by rw [List.length_cons,off66];exact st2),?_⟩⟩
     refine ⟨by kernel_rfl,r2.length,_,_,by simp,⟨r1++[y],r2,_,rfl,by rw [← hr12];simp,by rw [hins,insR_go hl];simp,?_,rfl,rfl⟩,⟨rfl,rfl,rfl,rfl,c_int ew2,trivial⟩,⟨.inl rfl,rfl,trivial⟩,rfl⟩
     simp
    ·have c:decide (cmpI (y.p*P.q) (P.p*y.q) > 0)=false:=c
     have hl:ltP P y=false:=hca.symm.trans c
     have e4:M2=(insR ltP P R).reverse:=by rw [hins,insR_stop hl,hM2];simp
     exact ⟨L.length - (i+1),_,_,by omega,⟨i+1,_,N+1,rfl,by omega,e3.symm,.some,rfl,rfl⟩,⟨rfl,rfl,rfl,c_int (i64_succ (by omega)),trivial⟩,⟨.inl (own_eq (by rw [← hX,e2,e4])),rfl,trivial⟩,rfl⟩
 ·have h:i=L.length:=by have:=of_decide_eq_false h;omega
  have e1:prices L i=(cmpbl L).map QC.price:=by unfold prices;rw [List.take_of_length_le (by omega)];rfl
  have hpos:0 < N:=by
   rw [hN,e1,List.length_map]
   have:y0∈cmpbl L:=by
    rw [cmpbl_eq,List.mem_filter]
    exact ⟨List.mem_of_getElem? hy0,decide_eq_true ec.symm⟩
   exact List.length_pos_of_mem this
  have hNl:N≤i:=by
   rw [hN];unfold prices
   rw [List.length_map]
   exact Nat.le_trans (List.length_filter_le _ _) (by simp;omega)
  rw [e1] at hN ⊢
  have hRl:(sortR ltP ((cmpbl L).map QC.price)).length=N:=by rw [sortR_len];exact hN.symm
  obtain ⟨r,hr⟩:∃ r,(sortR ltP ((cmpbl L).map QC.price)).reverse[(N - 1) / 2]? = some r:=⟨_,List.getElem?_eq_getElem (by rw [List.length_reverse,hRl];omega)⟩
  have hyd:yardQ L=r:=by unfold yardQ midR;rw [hRl,hr];rfl
  have hrl:(sortR ltP ((cmpbl L).map QC.price)).reverse.length=N:=by rw [List.length_reverse,hRl]
  rw [hyd]
  generalize (sortR ltP ((cmpbl L).map QC.price)).reverse=R at *
  have ew:IntKind.i64.wrap ((IntKind.i64.wrap ((N:Int) - 1)).tdiv 2)=(((N - 1) / 2:Nat):Int):=by
   have e1:IntKind.i64.wrap ((N:Int) - 1)=((N - 1:Nat):Int):=by rw [i64_in (by omega)];omega
   rw [e1,show ((N - 1:Nat):Int).tdiv 2=(((N - 1) / 2:Nat):Int) from (Int.ofNat_tdiv _ 2).symm]
   exact i64_in (by omega)
  have hlt:(N - 1) / 2 < N:=by omega
  have L1:=cat_extract RQ.A_size hr
  have j1:(N - 1) / 2*66+66≤(cat RQ.A R).size:=by rw [Go.SX.cat_size RQ.A_size];omega
  have RF:=r.A_fits
  rcases hy with ⟨hs1,hs2⟩ | ⟨g0,c0,rfl⟩
  ·omega
  generalize hX:cat RQ.A R=XA at *
  generalize hY:r.A=RA at *
  refine ⟨_,fun w' _=>run_len_sl Tryz.underlying91 w',by decide,by rw [ew];omega,by rw [ew];omega,.inr ⟨8000,g0,_,N,_,_,_,_,rfl,rfl,(by rw [ew,off66];exact j1),RA,(by rw [ew,off66];exact L1),RF,?_⟩⟩
  exact ⟨[],[],⟨rfl,rfl⟩,trivial,rfl⟩
end Go.Proofs.YtjkgmglmgndaoaaGreatDoor
