/- SelectorExact, walk; no condition. -/
import Derived.Test.YtinojijgeabfnaaGreatDoorP29
set_option maxRecDepth 100000
set_option maxHeartbeats 4000000
namespace Go.Proofs.YtinojijgeabfnaaGreatDoor
open Go Go.RowKit Go.SX
theorem same_own {E:Env} (hE:E.P=Tryz.prog) {x y:Value} {h:CH} (hh:h.price.In) {xs:List (List UInt8)} {n m:Nat} (hn:n=xs.length) (hm:m=xs.length) (hb:n≤1000000000000):OwnC E 17 [SV.c (.agg (h.A x)),SV.c (.agg (h.A y))] [(9000,Blk.own x 9 1 n (cat strA xs)),(9001,Blk.own y 9 1 m (cat strA xs))] (fun r U=>r=.bool true∧U=[(9000,Blk.own x 9 1 n (cat strA xs)),(9001,Blk.own y 9 1 m (cat strA xs))]):=by
 subst hn hm
 have hc:=Go.SX.cat_all strA_one xs
 have h2:∀ E0:Env,E0.P=E.P→(∀ w,OldW E0 w→OldW E w)→Lst E0 x 1 xs.length (cat strA xs)→OwnC E0 17 [SV.c (.agg (h.A x)),SV.c (.agg (h.A y))] [(9001,Blk.own y 9 1 xs.length (cat strA xs))] (fun r U=>r=.bool true∧U=[(9001,Blk.own y 9 1 xs.length (cat strA xs))]):=fun E0 h0 ho hl=>by
  refine (OwnC.with_own2 (k:=9001) (v:=y) (e:=9) (sz:=1) (n:=xs.length) (A:=cat strA xs) (pre:=[]) (Q:=fun r U=>r=.bool true∧U=[]) rfl rfl hc (by rw [h0,hE];exact at17.enters) (fun E1 h1 ho1 hl1=>same_c ((h1.trans h0).trans hE) hh (hl.of_old ho1) hl1 hb) (fun x U h=>by rw [h.2];rfl)).mono ?_
  rintro y U ⟨U0,⟨h1,h2⟩,h3⟩
  exact ⟨h1,by rw [h3,h2]⟩
 refine (OwnC.with_own2 (k:=9000) (v:=x) (e:=9) (sz:=1) (n:=xs.length) (A:=cat strA xs) rfl rfl hc (by rw [hE];exact at17.enters) h2 (fun x U h=>by rw [h.2];rfl)).mono ?_
 rintro y U ⟨U0,⟨h1,h2⟩,h3⟩
 exact ⟨h1,by rw [h3,h2]⟩
theorem selCh_in {L:List QC} {tol:RQ} (h:∀ z∈L,z.In):(selCh L tol).price.In:=by
 unfold selCh
 cases e:L.find? (isGood (curH L) (yardQ L) tol) with
 | none=>exact zeroQ_in
 | some q=>exact (h q (List.mem_of_find?_eq_some e)).price
theorem selBad_len (L:List QC) (tol:RQ):(selBad L tol).length≤L.length:=by
 unfold selBad
 rw [List.length_map]
 exact List.length_filter_le _ _
theorem exact_q {E:Env} (hE:E.P=Tryz.prog) {v:Value} {k:Int} {xs:List QC} (hv:Lst E v 72 xs.length (cat QC.A xs)) (hn:xs.length≤1000000000000) (hin:∀ y∈xs,y.In) {vp:Value} {p:PL} (hp:Lst E vp 1 p.srcs.length (cat strA p.srcs)) (hpn:p.srcs.length≤1000000000000000) (hpin:p.In) (ins:List UInt8) (day:Int):OwnC E 3 [SV.c v,SV.c (.agg (p.A vp)),SV.c (.int .i64 k),SV.c (.string (S ins)),SV.c (.int .i64 day)] [] (fun x U=>x=.bool true∧U=[]):=by
 refine sx_ownC [] tt_ok mixed at3 E hE [SV.c v,SV.c (.agg (p.A vp)),SV.c (.int .i64 k),SV.c (.string (S ins)),SV.c (.int .i64 day)] [] _ rfl rfl fun w X β hT=>?_
 have hv':=hv.of_old hT
 have hp':=hp.of_old hT
 have S1:=select_q (k:=k) rfl hv' hn hin hp' hpn hpin ins day
 have S2:=select_qr (k:=k) rfl hv' hn hin hp' hpn hpin ins day
 have C1:=cand_q (k:=k) rfl hv' hn hin hp' hpn hpin ins day
 have C2:=cand_qr (k:=k) rfl hv' hn hin hp' hpn hpin ins day
 obtain ⟨a,cap,rfl,hc,h4⟩:=id hp'.shape
 have P1:=check_p rfl hp' hpn hpin
 have P2:=check_p15 rfl hp' hpn hpin rfl
 have F1:=p.size (.slice a p.srcs.length cap)
 generalize p.A (.slice a p.srcs.length cap)=PA at *
 refine ⟨F1,.inr (.inr (.inr ⟨[],[9000],[_,_,_,_,_],[],_,S1,rfl,trivial,rfl,trivial,?_⟩))⟩
 rintro r1 U1 ⟨s1,n1,hn1,rfl,hs1,rfl⟩
 obtain ⟨sa1,sc1,rfl⟩:=hs1.len
 refine ⟨rfl,CH.fits _,?_⟩
 refine .inr (.inr (.inr ⟨[(9000,9001)],[9001],[_,_,_,_,_],[],_,S2,rfl,trivial,rfl,trivial,?_⟩))
 rintro r2 U2 ⟨s2,n2,hn2,rfl,hs2,rfl⟩
 obtain ⟨sa2,sc2,rfl⟩:=hs2.len
 refine ⟨rfl,CH.fits _,?_⟩
 refine .inr (.inr (.inr ⟨[],[4000],[_,_,_,_,_],[],_,C1,rfl,trivial,rfl,trivial,?_⟩))
 rintro r3 U3 ⟨s3,n3,hn3,rfl,hs3,rfl⟩
 obtain ⟨sa3,sc3,rfl⟩:=hs3.len
 refine ⟨rfl,?_⟩
 refine .inr (.inr (.inr ⟨[(4000,4001)],[4001],[_,_,_,_,_],[],_,C2,rfl,trivial,rfl,trivial,?_⟩))
 rintro r4 U4 ⟨s4,n4,hn4,rfl,hs4,rfl⟩
 obtain ⟨sa4,sc4,rfl⟩:=hs4.len
 refine ⟨rfl,?_⟩
 have hlen:=cands_len (xs:=xs) (k:=k) (p:=p) (ins:=ins) (day:=day)
 have hmem:=fun z hz=>cands_mem (k:=k) (p:=p) (ins:=ins) (day:=day) (z:=z) hin hz
 have hnn:n4=n3:=hn4.trans hn3.symm
 subst hnn
 have hnb:n2=n1:=hn2.trans hn1.symm
 subst hnb
 have hbl:=selBad_len (cands xs k p ins day) p.tol
 have W1:=same_own (E:=(envC Tryz.prog tt Tryz.f3.ntmps w X (tiedK [] β)).toEnv) rfl (x:=.slice sa1 n2 sc1) (y:=.slice sa2 n2 sc2) (h:=selCh (cands xs k p ins day) p.tol) (selCh_in fun z hz=>(hmem z hz).1) (xs:=selBad (cands xs k p ins day) p.tol) hn1 hn1 (by omega)
 generalize (selCh (cands xs k p ins day) p.tol).A (.slice sa1 n2 sc1)=CA at *
 generalize (selCh (cands xs k p ins day) p.tol).A (.slice sa2 n2 sc2)=CB at *
 generalize selBad (cands xs k p ins day) p.tol=bad at *
 generalize cands xs k p ins day=L at *
 refine ⟨_,fun w' _=>run_len_sl Tryz.underlying22 w',_,fun w' _=>run_len_sl Tryz.underlying22 w',fun h=>?_,fun _=>?_⟩
 ·have h:(((n4:Nat):Int) != ((n4:Nat):Int))=true:=h
  simp at h
 refine ⟨fun q f m=>∃ (i:Nat),q=L.length - i∧i≤L.length∧f=[(6,SV.ptr 6 0),(11,SV.ptr 11 0),(12,SV.c (.int .i64 (selE xs k p ins day))),(13,SV.ptr 13 0),(14,SV.c (.int .i64 (selE xs k p ins day))),(15,SV.c (.slice sa3 n4 sc3)),(16,SV.c (.int .i64 (candC xs k p day))),(17,SV.c (.slice sa4 n4 sc4)),(18,SV.c (.int .i64 (candC xs k p day))),(19,SV.c (.int .i64 (i:Nat)))]∧m=[(6,Blk.row 31 68 PA),(11,Blk.row 33 70 CA),(13,Blk.row 33 70 CB),(9000,Blk.own (.slice sa1 n2 sc1) 9 1 n2 (cat strA bad)),(9001,Blk.own (.slice sa2 n2 sc2) 9 1 n2 (cat strA bad)),(4000,Blk.own (.slice sa3 n4 sc3) 40 72 n4 (cat QC.A L)),(4001,Blk.own (.slice sa4 n4 sc4) 40 72 n4 (cat QC.A L))],L.length,⟨_,_,⟨0,by omega,by omega,rfl,rfl⟩,⟨rfl,rfl,rfl,rfl,rfl,rfl,rfl,rfl,rfl,rfl,trivial⟩,⟨rfl,rfl,rfl,.inl rfl,.inl rfl,.inl rfl,.inl rfl,trivial⟩,rfl⟩,?_⟩
 rintro q f m ⟨i,rfl,hi,rfl,rfl⟩
 refine ⟨_,fun w' _=>run_len_sl Tryz.underlying22 w',fun h=>?_,fun h=>?_⟩
 ·have h:i < n4:=by have:=of_decide_eq_true h;omega
  obtain ⟨z,hz⟩:∃ z,L[i]? = some z:=⟨_,List.getElem?_eq_getElem (by omega)⟩
  have L2:=cat_extract QC.size hz
  have j2:i*72+72≤(cat QC.A L).size:=by rw [Go.SX.cat_size QC.size];omega
  have N1:=fun u v=>neqs_quote (E:=(envC Tryz.prog tt Tryz.f3.ntmps w X (tiedK [] β)).toEnv) rfl (hmem z (List.mem_of_getElem? hz)).1.price (u:=u) (v:=v)
  rcases hs3 with ⟨hq,hq2⟩ | ⟨g3,c3,hq⟩
  ·omega
  cases hq
  rcases hs4 with ⟨hq,hq2⟩ | ⟨g4,c4,hq⟩
  ·omega
  cases hq
  generalize hX:cat QC.A L=XA at *
  generalize hY:z.A=ZA at *
  refine ⟨by omega,by omega,.inr ⟨4000,g3,_,n4,_,_,_,_,rfl,rfl,(by rw [off72];exact j2),ZA,(by rw [off72];exact L2),?_⟩⟩
  refine ⟨by omega,by omega,.inr ⟨4001,g4,_,n4,_,_,_,_,rfl,rfl,(by rw [off72];exact j2),ZA,(by rw [off72];exact L2),_,N1 _ _,by kernel_rfl,fun h=>absurd h (by decide),fun _=>?_⟩⟩
  exact ⟨L.length - (i+1),_,_,by omega,⟨i+1,rfl,by omega,rfl,rfl⟩,⟨rfl,rfl,rfl,rfl,rfl,rfl,rfl,rfl,rfl,c_int (i64_succ (by omega)),trivial⟩,⟨rfl,rfl,rfl,.inl rfl,.inl rfl,.inl rfl,.inl rfl,trivial⟩,rfl⟩
 ·have e1:∀ n:Int,(n == n)=true:=fun n=>by simp
  generalize (if polOk p then (0:Int) else 150)=pc at *
  generalize selE xs k p ins day=se at *
  generalize candC xs k p day=ce at *
  refine .inl ⟨_,known_f,fun _=>?_,fun h=>absurd h (by decide)⟩
  refine .inr (.inr (.inl ⟨[],[_],[],_,[],P1,rfl,trivial,rfl,rfl,?_⟩))
  refine .inr (.inr (.inl ⟨[],[_],[],_,[],P2,rfl,trivial,rfl,rfl,?_⟩))
  refine ⟨fun _=>?_,fun h=>absurd ((e1 _).symm.trans h) (by decide)⟩
  refine .inr (.inr (.inl ⟨[],[_,_],[_,_],_,[_,_],W1,rfl,⟨.inl rfl,.inl rfl,trivial⟩,rfl,rfl,?_⟩))
  refine ⟨fun _=>?_,fun h=>absurd h (by decide)⟩
  refine ⟨fun _=>?_,fun h=>absurd ((e1 _).symm.trans h) (by decide)⟩
  refine ⟨by kernel_rfl,[],[],⟨?_,rfl⟩,trivial,rfl⟩
  show mkRes [.bool (ce == ce)]=_
  rw [e1];rfl
end Go.Proofs.YtinojijgeabfnaaGreatDoor
