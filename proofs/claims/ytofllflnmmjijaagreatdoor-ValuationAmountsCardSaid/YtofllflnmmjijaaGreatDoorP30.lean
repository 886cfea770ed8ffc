/- delete by a question. sort and middle. a currency, as a text of runes. the yardstick of the document. the choice. the choice of the document. sameness of choices; no condition. -/
import Derived.Test.YtofllflnmmjijaaGreatDoorP29
set_option maxRecDepth 100000
set_option maxHeartbeats 4000000
namespace Go.Proofs.YtofllflnmmjijaaGreatDoor
open Go Go.RowKit Go.SX
def capOk:Value→Prop
 | .slice _ n c=>n≤c
 | _=>True
theorem OwnC.caps {E:Env} {f:FuncId} {vs:List SV} {pre:MemL} {Q:Value→MemL→Prop} (h:OwnC E f vs pre Q):OwnC E f vs pre (fun x U=>Q x U∧∀ k v e sz n A,getM U k=some (Blk.own v e sz n A)→capOk v):=by
 refine ⟨h.1,fun ρ w xs hw hx=>(h.2 ρ w xs hw hx).mono fun e w' ⟨x,U,h1,h2,h3,h4⟩=>⟨x,U,h1,⟨h2,fun k v e sz n A hk=>?_⟩,h3,h4⟩⟩
 have hr:=(h3.loose k _ hk rfl).2
 have hr:w'.ownsRow 0 e sz v n A.toList:=hr
 rcases hr.2 with ⟨rfl,_⟩ | ⟨g,cap,cur,rfl,hb,hg,hnc,hcm,hcs,htake⟩
 ·exact Nat.le_refl 0
 ·exact hnc
def sameCur (L:List QC) (z:QC):Bool:=decide (z.cur=curH L)
theorem cmpbl_eq (L:List QC):cmpbl L=L.filter (sameCur L):=rfl
def DelQ (v:Value) (L M:List QC) (r:Value) (U:MemL):Prop:=∃ m,m=(M.filter (sameCur L)).length∧IsL r m∧U=[(7000,Blk.row 26 1 #[v]),(6000,Blk.own r 80 72 m (cat QC.A (M.filter (sameCur L))))]
theorem delete_q {E:Env} (hE:E.P=Tryz.prog) {x v:Value} {L M:List QC} {n:Nat} (hnM:n=M.length) (hM:M.length≤1000) (hv:Lst E v 72 L.length (cat QC.A L)) (hn:0 < L.length) (hx:IsL x n) (hcap:capOk x):OwnC E 231 [SV.c x,SV.clo 233 [7000]] [(7000,Blk.row 26 1 #[v]),(6000,Blk.own x 80 72 n (cat QC.A M))] (DelQ v L M):=by
 obtain ⟨xa,xc,rfl⟩:=hx.len
 refine sx_ownC [] tt_ok mixed at231 E hE [SV.c (.slice xa n xc),SV.clo 233 [7000]] [(7000,Blk.row 26 1 #[v]),(6000,Blk.own (.slice xa n xc) 80 72 n (cat QC.A M))] _ rfl rfl fun w X β hT=>?_
 have hv':=hv.of_old hT
 have I1:=indexF_q (E:=(envC Tryz.prog tt Tryz.f231.ntmps w X (tiedK [(7000,Blk.row 26 1 #[v]),(6000,Blk.own (.slice xa n xc) 80 72 n (cat QC.A M))] β)).toEnv) rfl (x:=.slice xa n xc) (M:=M) hnM hM hv' hn hx
 refine .inr (.inr (.inr ⟨[],[],[_,_],[_,_],_,I1,rfl,⟨rfl,.inl rfl,trivial⟩,rfl,trivial,?_⟩))
 rintro r U ⟨⟨i,rfl,hi⟩,rfl⟩
 refine ⟨rfl,?_⟩
 rcases hi with ⟨rfl,hall⟩ | ⟨j,rfl,hj,hpre,z0,hz0,hne⟩
 ·have e1:M.filter (sameCur L)=M:=List.filter_eq_self.2 fun z hz=>decide_eq_true (hall z hz)
  refine ⟨fun _=>?_,nofun⟩
  exact ⟨[(7000,Blk.row 26 1 #[v]),(6000,Blk.own (.slice xa n xc) 80 72 n (cat QC.A M))],[],⟨n,by rw [e1];exact hnM,hx,by rw [e1];rfl⟩,⟨rfl,.inl rfl,trivial⟩,rfl⟩
 rcases hx with ⟨hs1,hs2⟩ | ⟨g0,c0,hs1⟩
 ·omega
 cases hs1
 have hcap:n≤xc:=hcap
 have h0:((j:Int) == -1)=false:=by simp
 refine ⟨fun c=>absurd (h0.symm.trans c) (by decide),fun _=>?_⟩
 have hfj:(M.take j).filter (sameCur L)=M.take j:=List.filter_eq_self.2 fun z hz=>decide_eq_true (hpre z hz)
 have hf1:(M.take (j+1)).filter (sameCur L)=M.take j:=by
  rw [List.take_add_one,hz0,List.filter_append,hfj]
  simp [sameCur,hne]
 refine ⟨fun q f m=>∃ (a b:Nat) (M':List QC),q=M.length - b∧b≤M.length∧a < b∧M'.length=M.length∧M'.take a=(M.take b).filter (sameCur L)∧M'.drop b=M.drop b∧f=[(0,SV.c (.slice (some ⟨g0,0,none⟩) n xc)),(1,SV.clo 233 [7000]),(5,SV.c (.int .i64 (a:Nat))),(6,SV.c (.int .i64 (b:Nat)))]∧m=[(7000,Blk.row 26 1 #[v]),(6000,Blk.own (.slice (some ⟨g0,0,none⟩) n xc) 80 72 n (cat QC.A M'))],M.length - (j+1),⟨_,_,⟨j,j+1,M,rfl,by omega,by omega,rfl,hf1.symm,rfl,rfl,rfl⟩,⟨rfl,rfl,rfl,c_int (i64_succ (by omega)),trivial⟩,⟨rfl,.inl rfl,trivial⟩,rfl⟩,?_⟩
 rintro q f m ⟨a,b,M',rfl,hb,hab,hlen,htk,hdr,rfl,rfl⟩
 refine ⟨_,fun w' _=>run_len_sl Tryz.underlying26 w',fun h=>?_,fun h=>?_⟩
 ·have h:b < n:=by have:=of_decide_eq_true h;omega
  obtain ⟨z,hz⟩:∃ z,M[b]? = some z:=⟨_,List.getElem?_eq_getElem (by omega)⟩
  have hz':M'[b]? = some z:=by
   have h1:(M'.drop b)[0]? = (M.drop b)[0]?:=by rw [hdr]
   simpa [hz] using h1
  have L2:=cat_extract QC.size hz'
  have hjn:b*72+72≤(cat QC.A M').size:=by rw [Go.SX.cat_size QC.size];omega
  have han:a*72+72≤(cat QC.A M').size:=by rw [Go.SX.cat_size QC.size];omega
  have hst:splice (cat QC.A M') (a*72) z.A.toList=cat QC.A (M'.set a z):=cat_set QC.size (by omega) z
  have Q1:=other_q (E:=(envC Tryz.prog tt Tryz.f231.ntmps w X (tiedK [(7000,Blk.row 26 1 #[v]),(6000,Blk.own (.slice (some ⟨g0,0,none⟩) n xc) 80 72 n (cat QC.A M))] β)).toEnv) rfl (z:=z) hv' hn
  have ZF:=z.fits
  generalize hX:cat QC.A M'=XA at *
  generalize hY:z.A=ZA at *
  refine ⟨by omega,by omega,.inr ⟨6000,g0,_,n,_,_,_,_,rfl,rfl,(by rw [off72];exact hjn),ZA,(by rw [off72];exact L2),ZF,.inr (.inr (.inl ⟨[],[_,_],[_],_,[_],Q1,rfl,⟨rfl,trivial⟩,rfl,rfl,fun c=>?_,fun c=>?_⟩))⟩⟩
  ·have c:(!(!decide (z.cur=curH L)))=true:=c
   have c:sameCur L z=true:=by simpa [sameCur] using c
   refine ⟨by omega,by omega,⟨6000,g0,_,n,_,_,_,_,rfl,rfl,(by rw [off72];exact han),ZF,cat QC.A (M'.set a z),(by rw [off72];exact hst),?_⟩⟩
   refine ⟨M.length - (b+1),_,_,by omega,⟨a+1,b+1,M'.set a z,rfl,by omega,by omega,by rw [List.length_set];exact hlen,?_,?_,rfl,rfl⟩,⟨rfl,rfl,c_int (i64_succ (by omega)),c_int (i64_succ (by omega)),trivial⟩,⟨rfl,.inl rfl,trivial⟩,rfl⟩
   ·rw [List.take_add_one,List.take_add_one,hz,List.filter_append,← htk]
    rw [List.getElem?_set_self (by omega),List.take_set_of_le (Nat.le_refl _)]
    simp [c]
   ·rw [List.drop_set_of_lt (by omega)]
    have h1:(M'.drop b).drop 1=(M.drop b).drop 1:=by rw [hdr]
    simpa using h1
  ·have c:(!(!decide (z.cur=curH L)))=false:=c
   have c:sameCur L z=false:=by simpa [sameCur] using c
   refine ⟨M.length - (b+1),_,_,by omega,⟨a,b+1,M',rfl,by omega,by omega,hlen,?_,?_,rfl,rfl⟩,⟨rfl,rfl,rfl,c_int (i64_succ (by omega)),trivial⟩,⟨rfl,.inl (own_eq hX.symm),trivial⟩,rfl⟩
   ·rw [List.take_add_one,hz,List.filter_append,← htk]
    simp [c]
   ·have h1:(M'.drop b).drop 1=(M.drop b).drop 1:=by rw [hdr]
    simpa using h1
 ·have h:b=n:=by have:=of_decide_eq_false h;omega
  have hE':VOk (envC Tryz.prog tt Tryz.f231.ntmps w X (tiedK [(7000,Blk.row 26 1 #[v]),(6000,Blk.own (.slice (some ⟨g0,0,none⟩) n xc) 80 72 n (cat QC.A M))] β)):=tt_ok
  have S1:=runs_slo hE' Tryz.underlying26 (j:=ti80) rfl (a:=some ⟨g0,0,none⟩) (n:=n) (cap:=xc) (k:=.i64) a rfl (by omega)
  have S2:=runs_shi hE' Tryz.underlying26 (j:=ti80) rfl (a:=some ⟨g0,0,none⟩) (n:=n) (cap:=xc) (k:=.i64) a rfl (by omega)
  refine ⟨_,S1,?_⟩
  refine clear_shrink tt_ok rfl rfl rfl rfl (i:=ti26) rfl rfl (j:=ti80) rfl (by kernel_rfl) 6000 (a:=a) (k:=n - a) (n:=n) (c2:=xc - a) (cap:=xc) (off:=a*72) (by omega) (by omega) rfl ?_ rfl ?_
  ·show SV.c _=SV.c _
   rw [if_neg (by omega)]
   have e72:ti80.size=72:=rfl
   rw [e72]
   by_cases h0:a*72=0
   ·rw [h0];rfl
   ·simp [Addr.add,h0]
  ·refine ⟨_,S2,?_⟩
   have e1:(cat QC.A M').extract 0 (a*72)=cat QC.A (M.filter (sameCur L)):=by
    rw [← cat_take QC.size M' a (by omega),htk,List.take_of_length_le (by omega)]
   have e2:a=(M.filter (sameCur L)).length:=by
    have:=congrArg List.length htk
    rw [List.length_take,List.take_of_length_le (show M.length≤b by omega)] at this
    omega
   refine ⟨[(7000,Blk.row 26 1 #[v]),(6000,Blk.own (.slice (some ⟨g0,0,none⟩) a xc) 80 72 a (cat QC.A (M.filter (sameCur L))))],[],⟨a,e2,.some,rfl⟩,⟨rfl,.inl (own_eq e1),trivial⟩,rfl⟩
theorem insR_nil {α:Type} {lt:α→α→Bool} {x:α}:insR lt x []=[x]:=rfl
theorem insR_go {α:Type} {lt:α→α→Bool} {x y:α} {r:List α} (h:lt x y=true):insR lt x (y :: r)=y :: insR lt x r:=by
 rw [insR,if_pos h]
theorem insR_stop {α:Type} {lt:α→α→Bool} {x y:α} {r:List α} (h:lt x y=false):insR lt x (y :: r)=x :: y :: r:=by
 rw [insR,if_neg (by rw [h];decide)]
def ltQ (a b:QC):Bool:=ltP a.price b.price
def sortedQ (M:List QC):List QC:=(sortR ltQ M).reverse
def fnV (g:FuncId):Value:=.func (.func g) #[] #[]
theorem insert_q {E:Env} (hE:E.P=Tryz.prog) {x:Value} {M:List QC} {n:Nat} (hnM:n=M.length) (hM:M.length≤1000) (hx:IsL x n) (hok:∀ z∈M,z.In∧z.price.ok=true):OwnC E 282 [SV.c x,SV.c (.int .i64 0),SV.c (.int .i64 (n:Nat)),SV.c (fnV 235)] [(6000,Blk.own x 80 72 n (cat QC.A M))] (fun r U=>r=.tuple #[]∧U=[(6000,Blk.own x 80 72 n (cat QC.A (sortedQ M)))]):=by
 obtain ⟨xa,xc,rfl⟩:=hx.len
 refine sx_ownC [] tt_ok mixed at282 E hE [SV.c (.slice xa n xc),SV.c (.int .i64 0),SV.c (.int .i64 (n:Nat)),SV.c (fnV 235)] [(6000,Blk.own (.slice xa n xc) 80 72 n (cat QC.A M))] _ rfl rfl fun w X β hT=>?_
 refine ⟨fun q f m=>∃ (i:Nat) (M':List QC),q=M.length+1 - i∧1≤i∧(i≤M.length∨i=1)∧M'=(sortR ltQ (M.take i)).reverse++M.drop i∧f=[(0,SV.c (.slice xa n xc)),(1,SV.c (.int .i64 0)),(2,SV.c (.int .i64 (n:Nat))),(3,SV.c (fnV 235)),(8,SV.c (.int .i64 (i:Nat)))]∧m=[(6000,Blk.own (.slice xa n xc) 80 72 n (cat QC.A M'))],M.length,⟨_,_,⟨1,M,by omega,by omega,by omega,?_,rfl,rfl⟩,⟨rfl,rfl,rfl,rfl,rfl,trivial⟩,⟨.inl rfl,trivial⟩,rfl⟩,?_⟩
 ·cases M with
  | nil=>rfl
  | cons z r=>rfl
 rintro q f m ⟨i,M',rfl,hi1,hi,hM',rfl,rfl⟩
 refine ⟨fun h=>?_,fun h=>?_⟩
 ·have h:i < n:=by have:=of_decide_eq_true h;omega
  obtain ⟨z,hz⟩:∃ z,M[i]? = some z:=⟨_,List.getElem?_eq_getElem (by omega)⟩
  rcases hx with ⟨hs1,hs2⟩ | ⟨g0,c0,hs1⟩
  ·omega
  cases hs1
  have hdr:M.drop i=z :: M.drop (i+1):=by
   rw [List.drop_eq_getElem_cons (by omega)]
   congr 1
   exact (List.getElem?_eq_some_iff.1 hz).2
  generalize hR:sortR ltQ (M.take i)=R at *
  have hRl:R.length=i:=by rw [← hR,sortR_len];simp;omega
  have hRok:∀ y∈R,y.In∧y.price.ok=true:=fun y hy=>by
   rw [← hR,sortR_mem] at hy
   exact hok y (List.mem_of_mem_take hy)
  refine ⟨fun q f m=>∃ (r1 r2:List QC) (M':List QC),q=r2.length∧r1++r2=R∧insR ltQ z R=r1++insR ltQ z r2∧M'=r2.reverse++z :: (r1.reverse++M.drop (i+1))∧f=[(0,SV.c (.slice (some ⟨g0,0,none⟩) n xc)),(1,SV.c (.int .i64 0)),(2,SV.c (.int .i64 (n:Nat))),(3,SV.c (fnV 235)),(8,SV.c (.int .i64 (i:Nat))),(9,SV.c (.int .i64 (r2.length:Nat)))]∧m=[(6000,Blk.own (.slice (some ⟨g0,0,none⟩) n xc) 80 72 n (cat QC.A M'))],i,⟨_,_,⟨[],R,M',hRl.symm,rfl,rfl,by rw [hM',hdr];rfl,rfl,rfl⟩,⟨rfl,rfl,rfl,rfl,rfl,by rw [hRl];rfl,trivial⟩,⟨.inl rfl,trivial⟩,rfl⟩,?_⟩
  rintro q f m ⟨r1,r2,M2,rfl,hr12,hins,hM2,rfl,rfl⟩
  have hlen:M2.length=n:=by
   have h1:=congrArg List.length hr12
   have h2:=congrArg List.length hdr
   rw [hM2]
   simp only [List.length_append,List.length_cons,List.length_reverse,List.length_drop] at *
   omega
  cases r2 with
  | nil =>
   refine ⟨fun c=>absurd c (by decide),fun _=>⟨by kernel_rfl,nofun,fun _=>?_⟩⟩
   have e1:M2=(sortR ltQ (M.take (i+1))).reverse++M.drop (i+1):=by
    rw [sortR_take hz,hR,hins,insR_nil,hM2]
    simp
   exact ⟨M.length+1 - (i+1),_,_,by omega,⟨i+1,M2,rfl,by omega,by omega,e1,rfl,rfl⟩,⟨rfl,rfl,rfl,rfl,c_int (i64_succ (by omega)),trivial⟩,⟨.inl rfl,trivial⟩,rfl⟩
  | cons y r2 =>
   refine ⟨fun _=>?_,fun c=>absurd c (by simp)⟩
   have hl12:r1.length+r2.length+1=i:=by have:=congrArg List.length hr12;simp at this;omega
   have hlt:r2.length+1 < n:=by omega
   have ew:IntKind.i64.wrap (((y :: r2).length:Int) - 1)=((r2.length:Nat):Int):=by
    rw [List.length_cons,i64_in (by omega)];omega
   have hM3:M2=r2.reverse++y :: z :: (r1.reverse++M.drop (i+1)):=by rw [hM2];simp
   have hA:r2.reverse.length=r2.length:=List.length_reverse
   have g1:M2[r2.length]? = some y:=by rw [hM3,← hA];exact at_mid _ _ _
   have g2:M2[r2.length+1]? = some z:=by rw [hM3,← hA];exact at_mid1 _ _ _ _
   have hyR:y∈R:=by rw [← hr12];simp
   have K1:=cheaper_z (hok z (List.mem_of_getElem? hz)).1 (hRok y hyR).1 (hok z (List.mem_of_getElem? hz)).2 (hRok y hyR).2
   have L1:=cat_extract QC.size g1
   have L2:=cat_extract QC.size g2
   have hsw:((M2.set (r2.length+1) y).set r2.length z)=r2.reverse++z :: y :: (r1.reverse++M.drop (i+1)):=by
    rw [hM3,← hA];exact swap_list _ _ _ _
   have st1:splice (cat QC.A M2) ((r2.length+1)*72) y.A.toList=cat QC.A (M2.set (r2.length+1) y):=cat_set QC.size (by omega) y
   have st2:splice (cat QC.A (M2.set (r2.length+1) y)) (r2.length*72) z.A.toList=cat QC.A ((M2.set (r2.length+1) y).set r2.length z):=cat_set QC.size (by rw [List.length_set];omega) z
   have s1:(cat QC.A M2).size=n*72:=by rw [Go.SX.cat_size QC.size,hlen]
   have s2:(cat QC.A (M2.set (r2.length+1) y)).size=n*72:=by rw [Go.SX.cat_size QC.size,List.length_set,hlen]
   rw [hsw] at st2
   have j1:r2.length*72+72≤(cat QC.A M2).size:=by rw [s1];omega
   have j2:(r2.length+1)*72+72≤(cat QC.A M2).size:=by rw [s1];omega
   have j3:r2.length*72+72≤(cat QC.A (M2.set (r2.length+1) y)).size:=by rw [s2];omega
   have YF:=y.fits
   have ZF:=z.fits
   generalize hX:cat QC.A M2=XA at *
   generalize hX2:cat QC.A (M2.set (r2.length+1) y)=XB at *
   generalize hY:z.A=ZA at *
   generalize hY2:y.A=YA at *
   refine ⟨by omega,by simp only [List.length_cons];omega,.inr ⟨6000,g0,_,n,_,_,_,_,rfl,rfl,(by rw [List.length_cons,off72];exact j2),ZA,(by rw [List.length_cons,off72];exact L2),?_⟩⟩
   refine ⟨by rw [ew];omega,by rw [ew];omega,.inr ⟨6000,g0,_,n,_,_,_,_,rfl,rfl,(by rw [ew,off72];exact j1),YA,(by rw [ew,off72];exact L1),.inl ⟨_,K1,by kernel_rfl,fun c=>?_,fun c=>?_⟩⟩⟩
   ·have c:decide (cmpI (z.price.p*y.price.q) (y.price.p*z.price.q) < 0)=true:=c
    have hl:ltQ z y=true:=c
    refine ⟨by rw [ew];omega,by rw [ew];omega,.inr ⟨6000,g0,_,n,_,_,_,_,rfl,rfl,(by rw [ew,off72];exact j1),YA,(by rw [ew,off72];exact L1),?_⟩⟩
    refine ⟨by omega,by rw [List.length_cons];omega,.inr ⟨6000,g0,_,n,_,_,_,_,rfl,rfl,(by rw [List.length_cons,off72];exact j2),ZA,(by rw [List.length_cons,off72];exact L2),?_⟩⟩
    refine ⟨by omega,by rw [List.length_cons];omega,⟨6000,g0,_,n,_,_,_,_,rfl,rfl,(by rw [List.length_cons,off72];exact j2),YF,XB,(by rw [List.length_cons,off72];exact st1),?_⟩⟩
    refine ⟨by rw [ew];omega,by rw [ew];omega,⟨6000,g0,_,n,_,_,_,_,rfl,rfl,(by rw [ew,off72];exact j3),ZF,cat QC.A (r2.reverse++z :: y :: (r1.reverse++M.drop (i+1))),(by rw [ew,off72];exact st2),?_⟩⟩
    refine ⟨by kernel_rfl,r2.length,_,_,by simp,⟨r1++[y],r2,_,rfl,by rw [← hr12];simp,by rw [hins,insR_go hl];simp,?_,rfl,rfl⟩,⟨rfl,rfl,rfl,rfl,rfl,c_int ew,trivial⟩,⟨.inl rfl,trivial⟩,rfl⟩
    simp
   ·have c:decide (cmpI (z.price.p*y.price.q) (y.price.p*z.price.q) < 0)=false:=c
    have hl:ltQ z y=false:=c
    have e1:M2=(sortR ltQ (M.take (i+1))).reverse++M.drop (i+1):=by
     rw [sortR_take hz,hR,hins,insR_stop hl,hM2]
     simp
    exact ⟨M.length+1 - (i+1),_,_,by omega,⟨i+1,M2,rfl,by omega,by omega,e1,rfl,rfl⟩,⟨rfl,rfl,rfl,rfl,c_int (i64_succ (by omega)),trivial⟩,⟨.inl (own_eq hX.symm),trivial⟩,rfl⟩
 ·have h:n≤i:=by have:=of_decide_eq_false h;omega
  have e1:M'=sortedQ M:=by
   rw [hM',List.take_of_length_le (by omega),List.drop_of_length_le (by omega),List.append_nil]
   try rfl
  exact ⟨[(6000,Blk.own (.slice xa n xc) 80 72 n (cat QC.A M'))],[],⟨rfl,by rw [e1]⟩,⟨.inl rfl,trivial⟩,rfl⟩
theorem stable_q {E:Env} (hE:E.P=Tryz.prog) {x:Value} {M:List QC} {n:Nat} (hnM:n=M.length) (hM:M.length < 20) (hx:IsL x n) (hok:∀ z∈M,z.In∧z.price.ok=true):OwnC E 271 [SV.c x,SV.c (.int .i64 (n:Nat)),SV.c (fnV 235)] [(6000,Blk.own x 80 72 n (cat QC.A M))] (fun r U=>r=.tuple #[]∧U=[(6000,Blk.own x 80 72 n (cat QC.A (sortedQ M)))]):=by
 obtain ⟨xa,xc,rfl⟩:=hx.len
 refine sx_ownC [] tt_ok mixed at271 E hE [SV.c (.slice xa n xc),SV.c (.int .i64 (n:Nat)),SV.c (fnV 235)] [(6000,Blk.own (.slice xa n xc) 80 72 n (cat QC.A M))] _ rfl rfl fun w X β hT=>?_
 have I1:=insert_q (E:=(envC Tryz.prog tt Tryz.f271.ntmps w X (tiedK [(6000,Blk.own (.slice xa n xc) 80 72 n (cat QC.A M))] β)).toEnv) rfl (x:=.slice xa n xc) (M:=M) hnM (by omega) hx hok
 refine ⟨fun q f m=>q=0∧f=[(0,SV.c (.slice xa n xc)),(1,SV.c (.int .i64 (n:Nat))),(2,SV.c (fnV 235)),(6,SV.c (.int .i64 20)),(7,SV.c (.int .i64 0)),(8,SV.c (.int .i64 20))]∧m=[(6000,Blk.own (.slice xa n xc) 80 72 n (cat QC.A M))],0,⟨_,_,⟨rfl,rfl,rfl⟩,⟨rfl,rfl,rfl,rfl,rfl,rfl,trivial⟩,⟨.inl rfl,trivial⟩,rfl⟩,?_⟩
 rintro q f m ⟨rfl,rfl,rfl⟩
 refine ⟨fun h=>?_,fun h=>?_⟩
 ·have h:=of_decide_eq_true h;omega
 ·refine .inr (.inr (.inl ⟨[],[_,_,_,_],[_],_,[_],I1,rfl,⟨.inl rfl,trivial⟩,rfl,rfl,?_⟩))
  refine ⟨fun q f m=>q=0∧f=[(0,SV.c (.slice xa n xc)),(1,SV.c (.int .i64 (n:Nat))),(2,SV.c (fnV 235)),(6,SV.c (.int .i64 20))]∧m=[(6000,Blk.own (.slice xa n xc) 80 72 n (cat QC.A (sortedQ M)))],0,⟨_,_,⟨rfl,rfl,rfl⟩,⟨rfl,rfl,rfl,rfl,trivial⟩,⟨.inl rfl,trivial⟩,rfl⟩,?_⟩
  rintro q f m ⟨rfl,rfl,rfl⟩
  refine ⟨fun h=>?_,fun h=>?_⟩
  ·have h:=of_decide_eq_true h;omega
  ·exact ⟨[(6000,Blk.own (.slice xa n xc) 80 72 n (cat QC.A (sortedQ M)))],[],⟨rfl,rfl⟩,⟨.inl rfl,trivial⟩,rfl⟩
theorem sortS_q {E:Env} (hE:E.P=Tryz.prog) {x:Value} {M:List QC} {n:Nat} (hnM:n=M.length) (hM:M.length < 20) (hx:IsL x n) (hok:∀ z∈M,z.In∧z.price.ok=true):OwnC E 259 [SV.c x,SV.c (fnV 235)] [(6000,Blk.own x 80 72 n (cat QC.A M))] (fun r U=>r=.tuple #[]∧U=[(6000,Blk.own x 80 72 n (cat QC.A (sortedQ M)))]):=by
 obtain ⟨xa,xc,rfl⟩:=hx.len
 refine sx_ownC [] tt_ok mixed at259 E hE [SV.c (.slice xa n xc),SV.c (fnV 235)] [(6000,Blk.own (.slice xa n xc) 80 72 n (cat QC.A M))] _ rfl rfl fun w X β hT=>?_
 have I1:=stable_q (E:=(envC Tryz.prog tt Tryz.f259.ntmps w X (tiedK [(6000,Blk.own (.slice xa n xc) 80 72 n (cat QC.A M))] β)).toEnv) rfl (x:=.slice xa n xc) (M:=M) hnM (by omega) hx hok
 refine ⟨_,fun w' _=>run_len_sl Tryz.underlying26 w',?_⟩
 refine .inr (.inr (.inl ⟨[],[_,_,_],[_],_,[_],I1,rfl,⟨.inl rfl,trivial⟩,rfl,rfl,?_⟩))
 exact ⟨[(6000,Blk.own (.slice xa n xc) 80 72 n (cat QC.A (sortedQ M)))],[],⟨rfl,rfl⟩,⟨.inl rfl,trivial⟩,rfl⟩
theorem sortedQ_len (M:List QC):(sortedQ M).length=M.length:=by unfold sortedQ;rw [List.length_reverse,sortR_len]
theorem median_q {E:Env} (hE:E.P=Tryz.prog) {v:Value} {M:List QC} (hv:Lst E v 72 M.length (cat QC.A M)) (hn:0 < M.length) (hM:M.length < 20) (hok:∀ z∈M,z.In∧z.price.ok=true):OwnC E 234 [SV.c v,SV.c (fnV 235)] [] (fun r U=>(∃ z,(sortedQ M)[(M.length - 1) / 2]? = some z∧r=.agg z.A)∧U=[]):=by
 refine sx_ownC [] tt_ok mixed at234 E hE [SV.c v,SV.c (fnV 235)] [] _ rfl rfl fun w X β hT=>?_
 have hv':=hv.of_old hT
 have C1:=clone_q rfl hv' hn (by omega)
 refine .inr (.inr (.inr ⟨[],[6000],[_],[],_,C1,rfl,trivial,rfl,trivial,?_⟩))
 rintro x U ⟨hx,rfl⟩
 refine ⟨rfl,?_⟩
 have S1:=sortS_q (E:=(envC Tryz.prog tt Tryz.f234.ntmps w X (tiedK [] β)).toEnv) rfl (x:=x) (M:=M) rfl hM hx hok
 refine .inr (.inr (.inl ⟨[],[_,_],[_],_,[_],S1,rfl,⟨.inl rfl,trivial⟩,rfl,rfl,?_⟩))
 obtain ⟨z,hz⟩:∃ z,(sortedQ M)[(M.length - 1) / 2]? = some z:=⟨_,List.getElem?_eq_getElem (by rw [sortedQ_len];omega)⟩
 rcases hx with ⟨hs1,hs2⟩ | ⟨g0,c0,rfl⟩
 ·omega
 refine ⟨_,fun w' _=>run_len_sl Tryz.underlying26 w',?_⟩
 have ew:IntKind.i64.wrap ((IntKind.i64.wrap ((M.length:Int) - 1)).tdiv 2)=(((M.length - 1) / 2:Nat):Int):=by
  have e1:IntKind.i64.wrap ((M.length:Int) - 1)=((M.length - 1:Nat):Int):=by rw [i64_in (by omega)];omega
  rw [e1,show ((M.length - 1:Nat):Int).tdiv 2=(((M.length - 1) / 2:Nat):Int) from (Int.ofNat_tdiv _ 2).symm]
  exact i64_in (by omega)
 have hlt:(M.length - 1) / 2 < M.length:=by omega
 have L1:=cat_extract QC.size hz
 have j1:(M.length - 1) / 2*72+72≤(cat QC.A (sortedQ M)).size:=by rw [Go.SX.cat_size QC.size,sortedQ_len];omega
 have ZF:=z.fits
 generalize hX:cat QC.A (sortedQ M)=XA at *
 generalize hY:z.A=ZA at *
 refine ⟨by decide,by rw [ew];omega,by rw [ew];omega,.inr ⟨6000,g0,_,M.length,_,_,_,_,rfl,rfl,(by rw [ew,off72];exact j1),ZA,(by rw [ew,off72];exact L1),ZF,?_⟩⟩
 exact ⟨[],[],⟨⟨z,hz,by rw [hY];rfl⟩,rfl⟩,trivial,rfl⟩
def upB (b:UInt8):Bool:=decide (65≤b.toNat) && decide (b.toNat≤90)
theorem rune_up {l:List UInt8} {pos:Nat} (h:pos < l.length):upB (l.getD pos 0)=(decide (65≤(Utf8.decode (S l) pos).1) && decide ((Utf8.decode (S l) pos).1≤90))∧(upB (l.getD pos 0)=true→(Utf8.decode (S l) pos).2=1):=by
 have hs:pos < (S l).size:=by rw [S_size];exact h
 have hg:=S_get hs h
 rcases Nat.lt_or_ge (l.getD pos 0).toNat 128 with hb | hb
 ·have:=Go.decode_ascii (S l) pos hs (by rw [hg];exact hb)
  rw [this,hg]
  exact ⟨rfl,fun _=>rfl⟩
 ·have:=(Go.decode_high (S l) pos hs (by rw [hg];exact hb)).1
  have e1:upB (l.getD pos 0)=false:=by
   unfold upB
   rw [decide_eq_false (show ¬ (l.getD pos 0).toNat≤90 by omega)];simp
  refine ⟨?_,fun h=>by rw [e1] at h;cases h⟩
  rw [e1,decide_eq_false (show ¬ (Utf8.decode (S l) pos).1≤90 by omega)];simp
theorem capAt_up (l:List UInt8) (j:Nat):capAt false l j=upB (l.getD j 0):=by
 unfold capAt upB;simp
theorem cur_bad {l:List UInt8} {j:Nat} (hj:j < l.length) (h:upB (l.getD j 0)=false):curOk l=false:=by
 unfold curOk
 rw [capAll_false hj (by rw [capAt_up];exact h)];rfl
theorem cur_all {l:List UInt8} (h:∀ j,j < l.length→upB (l.getD j 0)=true):curOk l=(((l.length:Nat):Int) == 3):=by
 unfold curOk
 rw [capAll_true fun j hj=>by rw [capAt_up];exact h j hj,Bool.true_and,Bool.eq_iff_iff]
 simp only [Bool.and_eq_true,decide_eq_true_eq,beq_iff_eq]
 omega
theorem code_e (l:List UInt8):Pure Tryz.prog 109 [SV.c (.string (S l))] (.bool (curOk l)):=by
 refine pure_of (vs:=[.string (S l)]) at109.enters fun w0=>?_
 refine sx_ownC [] tt_ok mixed at109 _ rfl [SV.c (.string (S l))] [] _ rfl rfl fun w X β hT=>?_
 refine str_range rfl rfl Tryz.underlying9 300 rfl rfl trivial fun r=>?_
 refine ⟨fun q f m=>∃ pos:Nat,q=l.length - pos∧pos≤l.length∧(∀ j,j < pos→upB (l.getD j 0)=true)∧f=[(0,SV.c (.string (S l))),(6,SV.c (.pointer (some ⟨r,0,none⟩)))]∧m=[(300,Blk.res r (fun o=>o=.stringIter (S l) pos))],l.length,⟨_,_,⟨0,rfl,by omega,fun j h=>by omega,rfl,rfl⟩,⟨rfl,rfl,trivial⟩,⟨rfl,trivial⟩,rfl⟩,?_⟩
 rintro q f m ⟨pos,rfl,hp,hall,rfl,rfl⟩
 refine str_next rfl 300 rfl rfl trivial (fun h4=>?_) (fun h4=>?_)
 ·rw [S_size] at h4
  refine ⟨fun h=>absurd h (by decide),fun _=>?_⟩
  refine ⟨_,fun w _=>run_len_S Tryz.underlying9 w,[],[],⟨by rw [cur_all fun j hj=>hall j (by omega)];rfl,rfl⟩,trivial,rfl⟩
 ·rw [S_size] at h4
  obtain ⟨hR,hW⟩:=rune_up (l:=l) h4
  generalize (Utf8.decode (S l) pos).1=R at *
  generalize (Utf8.decode (S l) pos).2=W at *
  have bad:¬ (65≤R∧R≤90)→∃ U σ,(Value.bool false=.bool (curOk l)∧U=([]:MemL))∧weakM [(300,Blk.res r (fun o=>o=.stringIter (S l) (pos+W)))] (renM σ U)∧retOk [] σ U=true:=fun h=>⟨[],[],⟨by rw [cur_bad h4 (by rw [hR];simpa using h)],rfl⟩,trivial,rfl⟩
  refine ⟨fun _=>⟨fun c1=>⟨fun c2=>bad ?_,fun c2=>?_⟩,fun c1=>⟨fun _=>bad ?_,fun h=>absurd h (by decide)⟩⟩,fun h=>absurd h (by decide)⟩
  ·have c2:=of_decide_eq_true (show decide (((R:Nat):Int) > 90)=true from c2)
   omega
  ·have c1:=of_decide_eq_false c1
   have c2:=of_decide_eq_false (show decide (((R:Nat):Int) > 90)=false from c2)
   have hu:upB (l.getD pos 0)=true:=by rw [hR];simp;omega
   have:=hW hu
   subst this
   exact ⟨l.length - (pos+1),_,_,by omega,⟨pos+1,rfl,by omega,fun j hj=>by
    rcases Nat.lt_or_ge j pos with h6 | h6
    ·exact hall j h6
    ·have:j=pos:=by omega
     subst this;exact hu,rfl,rfl⟩,⟨rfl,rfl,trivial⟩,⟨rfl,trivial⟩,rfl⟩
  ·have c1:=of_decide_eq_true (show decide (((R:Nat):Int) < 65)=true from c1)
   omega
theorem cands_mem {xs:List QC} {k:Int} {p:PL} {ins:List UInt8} {day:Int} {z:QC} (hin:∀ y∈xs,y.In) (hz:z∈cands xs k p ins day):z.In∧payOk z.price=true∧z.src≠[]∧polOk p=true:=by
 unfold cands at hz
 split at hz
 ·rename_i h0
  obtain ⟨h1,-⟩:=candL_mem hz
  obtain ⟨h2,h3,h4⟩:=visQs_mem h1
  obtain ⟨h5,-⟩:=right_price h3 h4
  refine ⟨hin z h2,h5,?_,?_⟩
  ·have:=(usable_len (right_facts h3).1).1
   intro h6;rw [h6] at this;cases this
  ·unfold candC at h0
   split at h0
   ·rename_i h7;exact absurd h0 h7
   ·split at h0
    ·rename_i h7;exact h7
    ·cases h0
 ·cases hz
theorem cands_len {xs:List QC} {k:Int} {p:PL} {ins:List UInt8} {day:Int}:(cands xs k p ins day).length≤8:=by
 unfold cands
 split
 ·rename_i h0
  unfold candC at h0
  split at h0
  ·rename_i h7;exact absurd h0 h7
  ·split at h0
   ·rename_i h7
    unfold polOk at h7
    simp only [Bool.and_eq_true,decide_eq_true_eq] at h7
    exact Nat.le_trans (candL_len _ _ _ _ _) h7.1.2
   ·cases h0
 ·simp
theorem polOk_tol {p:PL} (h:polOk p=true):pctB p.tol=true∧betQ p.tol 0 1=true:=by
 unfold polOk at h
 simp only [Bool.and_eq_true] at h
 exact h.2.2.1
theorem yard_mid {L:List QC} {z:QC} (h:(sortedQ (cmpbl L))[((cmpbl L).length - 1) / 2]? = some z):yardQ L=z.price∧z∈L:=by
 have e1:sortR ltP ((cmpbl L).map QC.price)=(sortR ltQ (cmpbl L)).map QC.price:=(sortR_map QC.price (fun _ _=>rfl) _).symm
 have e2:(sortR ltQ (cmpbl L)).length=(cmpbl L).length:=sortR_len _ _
 refine ⟨?_,?_⟩
 ·unfold yardQ midR
  rw [e1,List.length_map,e2,← List.map_reverse,List.getElem?_map]
  unfold sortedQ at h
  rw [h];rfl
 ·have:=List.mem_of_getElem? h
  unfold sortedQ at this
  rw [List.mem_reverse,sortR_mem] at this
  exact (List.mem_filter.1 this).1
theorem yard_ex {L:List QC} (h:0 < L.length):∃ z,(sortedQ (cmpbl L))[((cmpbl L).length - 1) / 2]? = some z∧0 < (cmpbl L).length:=by
 have hp:0 < (cmpbl L).length:=by
  cases L with
  | nil=>cases h
  | cons y r =>
   have:y∈cmpbl (y :: r):=by
    rw [cmpbl_eq,List.mem_filter]
    exact ⟨by simp,decide_eq_true rfl⟩
   exact List.length_pos_of_mem this
 exact ⟨_,List.getElem?_eq_getElem (by rw [sortedQ_len];omega),hp⟩
theorem big_a:2000000000000000000000*100000000000000 < BB ^ 32:=by decide
theorem big_b:100000000000000000000000*1000000000000 < BB ^ 32:=by decide
theorem near_both {L:List QC} {tol:RQ} (ht:tol.In) (h1:pctB tol=true) (h2:betQ tol 0 1=true) (hL:∀ z∈L,z.In∧payOk z.price=true) {z:QC} (hz:z∈L):Pure Tryz.prog 236 [SV.c (.agg z.price.A),SV.c (.agg (yardQ L).A),SV.c (.agg tol.A)] (.bool (nearQ z.price (yardQ L) tol))∧Pure Tryz.prog 168 [SV.c (.agg z.price.A),SV.c (.agg (yardQ L).A),SV.c (.agg tol.A)] (.bool (nearQ z.price (yardQ L) tol))∧payOk (yardQ L)=true:=by
 obtain ⟨y,hy,-⟩:=yard_ex (L:=L) (List.length_pos_of_mem hz)
 obtain ⟨e1,hyL⟩:=yard_mid hy
 obtain ⟨k1,k2⟩:=hL z hz
 obtain ⟨k3,k4⟩:=hL y hyL
 rw [e1]
 obtain ⟨o1,o2,o3,b1,b2,b3,b4⟩:=near_ok k2 k4 h1 h2
 refine ⟨near_z k1.price k3.price ht o2 o3,near_r k1.price k3.price ht ?_ ?_,k4⟩
 ·rw [Int.natAbs_mul]
  exact Nat.lt_of_le_of_lt (Nat.mul_le_mul b1 b4) big_a
 ·rw [Int.natAbs_mul]
  exact Nat.lt_of_le_of_lt (Nat.mul_le_mul b3 b2) big_b
theorem CH.size (h:CH) (v:Value):(h.A v).size=70:=by simp [CH.A,RQ.A_size]
theorem chZero_A:chZero.A (.slice none 0 0)=ti161.zero:=by kernel_rfl
theorem CH.g0 (h:CH) (v:Value):(h.A v)[0]? = some (.string (S h.src)):=by kernel_rfl
theorem CH.g4 (h:CH) (v:Value):(h.A v)[69]? = some v:=by
 have h1:h.A v=((#[.string (S h.src),.string (S h.cur),.int .i64 h.day]:Array Value)++h.price.A)++#[v]:=by simp [CH.A]
 have h2:((#[.string (S h.src),.string (S h.cur),.int .i64 h.day]:Array Value)++h.price.A).size=69:=by simp [RQ.A_size]
 rw [h1,Array.getElem?_append_right (by omega),h2]
 rfl
theorem CH.fits (h:CH) {a:Option Addr} {n c:Nat}:Fits (h.A (.slice a n c)) 70:=⟨h.size _,by
 rw [CH.A,Array.all_append,Array.all_append,h.price.A_fits.one]
 simp [Value.oneCell']⟩
theorem CH.set0 (h:CH) (v:Value) (l:List UInt8):(h.A v).setIfInBounds (0+0) (.string (S l))=({ h with src:=l }:CH).A v:=by kernel_rfl
theorem CH.set1 (h:CH) (v:Value) (l:List UInt8):(h.A v).setIfInBounds (0+1) (.string (S l))=({ h with cur:=l }:CH).A v:=by kernel_rfl
theorem CH.set2 (h:CH) (v:Value) (n:Int):(h.A v).setIfInBounds (0+2) (.int .i64 n)=({ h with day:=n }:CH).A v:=by kernel_rfl
theorem CH.set3 (h:CH) (v:Value) (r:RQ):splice (h.A v) (0+3) r.A.toList=({ h with price:=r }:CH).A v:=by kernel_rfl
theorem CH.set4 (h:CH) (v u:Value):(h.A v).setIfInBounds (0+69) u=h.A u:=by kernel_rfl
theorem runs_pri {E:Env} (hE:E.P=Tryz.prog) (a:QC):Runs E (Instr.field 80 (.agg a.A) 4) (.agg a.price.A):=fun w _=>by
 rw [hE]
 have h:=part_agg (P:=Tryz.prog) tok33 rfl a.A 4 w
 have e:a.A.extract 4 (4+ti33.size)=a.price.A:=a.gpri
 rw [e] at h
 simp [Instr.field,Sem.run_bind,run_underlying Tryz.underlying80,asAgg,h]
theorem clone_own {E:Env} (hE:E.P=Tryz.prog) {x:Value} {n:Nat} {L:List QC} (_hn:n=L.length) (h0:0 < n) (hm:n≤1000000000):OwnC E 232 [SV.c x] [(4000,Blk.own x 80 72 n (cat QC.A L))] (fun r U=>(IsL r n∧capOk r)∧U=[(4000,Blk.own x 80 72 n (cat QC.A L)),(6000,Blk.own r 80 72 n (cat QC.A L))]):=by
 have h1:(cat QC.A L).all (·.oneCell')=true:=Go.SX.cat_all (fun a=>a.one) L
 refine (OwnC.caps (OwnC.with_own (k:=4000) (v:=x) (e:=80) (sz:=72) (n:=n) (A:=cat QC.A L) (pre:=[]) rfl rfl h1 (by rw [hE];exact at232.enters) (fun E0 h hl=>clone_q (h.trans hE) hl h0 hm) (fun x U h=>by rw [h.2];rfl))).mono ?_
 rintro y U ⟨⟨U0,⟨h1,rfl⟩,rfl⟩,h3⟩
 exact ⟨⟨h1,h3 6000 _ _ _ _ _ rfl⟩,rfl⟩
theorem delete_own {E:Env} (hE:E.P=Tryz.prog) {x s:Value} {L M:List QC} {n l:Nat} (hnM:n=M.length) (hl:l=L.length) (hM:M.length≤1000) (hn:0 < L.length) (hx:IsL x n) (hcap:capOk x):OwnC E 231 [SV.c x,SV.clo 233 [7000]] [(4000,Blk.own s 80 72 l (cat QC.A L)),(7000,Blk.row 26 1 #[s]),(6000,Blk.own x 80 72 n (cat QC.A M))] (fun r U=>∃ m,m=(M.filter (sameCur L)).length∧IsL r m∧U=[(4000,Blk.own s 80 72 l (cat QC.A L)),(7000,Blk.row 26 1 #[s]),(6000,Blk.own r 80 72 m (cat QC.A (M.filter (sameCur L))))]):=by
 subst hl
 have h1:(cat QC.A L).all (·.oneCell')=true:=Go.SX.cat_all (fun a=>a.one) L
 refine (OwnC.with_own (k:=4000) (v:=s) (e:=80) (sz:=72) (n:=L.length) (A:=cat QC.A L) (pre:=[(7000,Blk.row 26 1 #[s]),(6000,Blk.own x 80 72 n (cat QC.A M))]) rfl rfl h1 (by rw [hE];exact at231.enters) (fun E0 h hl=>delete_q (h.trans hE) hnM hM hl hn hx hcap) (fun x U ⟨m,_,_,hU⟩=>by rw [hU];rfl)).mono ?_
 rintro y U ⟨U0,⟨m,h1,h2,rfl⟩,rfl⟩
 exact ⟨m,h1,h2,rfl⟩
theorem median_own {E:Env} (hE:E.P=Tryz.prog) {x:Value} {M:List QC} {n:Nat} (hnM:n=M.length) (hn:0 < n) (hM:n < 20) (hok:∀ z∈M,z.In∧z.price.ok=true):OwnC E 234 [SV.c x,SV.c (fnV 235)] [(6000,Blk.own x 80 72 n (cat QC.A M))] (fun r U=>(∃ z,(sortedQ M)[(M.length - 1) / 2]? = some z∧r=.agg z.A)∧U=[(6000,Blk.own x 80 72 n (cat QC.A M))]):=by
 subst hnM
 have h1:(cat QC.A M).all (·.oneCell')=true:=Go.SX.cat_all (fun a=>a.one) M
 refine (OwnC.with_own (k:=6000) (v:=x) (e:=80) (sz:=72) (n:=M.length) (A:=cat QC.A M) (pre:=[]) rfl rfl h1 (by rw [hE];exact at234.enters) (fun E0 h hl=>median_q (h.trans hE) hl hn hM hok) (fun x U h=>by rw [h.2];rfl)).mono ?_
 rintro y U ⟨U0,⟨h1,rfl⟩,rfl⟩
 exact ⟨h1,rfl⟩
def sfound (L:List QC) (tol:RQ) (i:Nat):Option QC:=(L.take i).find? (isGood (curH L) (yardQ L) tol)
def sbad (L:List QC) (tol:RQ) (i:Nat):List (List UInt8):=((L.take i).filter (fun q=>!isGood (curH L) (yardQ L) tol q)).map QC.src
theorem sbad_len (L:List QC) (tol:RQ) (i:Nat):(sbad L tol i).length≤i:=by
 unfold sbad
 rw [List.length_map]
 exact Nat.le_trans (List.length_filter_le _ _) (by simp;omega)
theorem sbad_bad {L:List QC} {tol:RQ} {i:Nat} {z:QC} (hz:L[i]? = some z) (h:isGood (curH L) (yardQ L) tol z=false):sbad L tol (i+1)=sbad L tol i++[z.src]:=by
 unfold sbad
 rw [List.take_add_one,hz,List.filter_append]
 simp [h]
theorem sbad_good {L:List QC} {tol:RQ} {i:Nat} {z:QC} (hz:L[i]? = some z) (h:isGood (curH L) (yardQ L) tol z=true):sbad L tol (i+1)=sbad L tol i:=by
 unfold sbad
 rw [List.take_add_one,hz,List.filter_append]
 simp [h]
theorem sfound_bad {L:List QC} {tol:RQ} {i:Nat} {z:QC} (hz:L[i]? = some z) (h:isGood (curH L) (yardQ L) tol z=false):sfound L tol (i+1)=sfound L tol i:=by
 unfold sfound
 rw [List.take_add_one,hz,List.find?_append]
 simp [h]
theorem sfound_good {L:List QC} {tol:RQ} {i:Nat} {z:QC} (hz:L[i]? = some z) (h:isGood (curH L) (yardQ L) tol z=true):sfound L tol (i+1)=some ((sfound L tol i).getD z):=by
 unfold sfound
 rw [List.take_add_one,hz,List.find?_append]
 simp only [Option.toList,List.find?_cons,h]
 cases List.find? (isGood (curH L) (yardQ L) tol) (List.take i L)<;>rfl
theorem CH.fill4 (h:CH) (v:Value) (z:QC):∃ A1 A2 A3,(h.A v).setIfInBounds (0+0) (.string (S z.src))=A1∧A1.setIfInBounds (0+1) (.string (S z.cur))=A2∧A2.setIfInBounds (0+2) (.int .i64 z.day)=A3∧splice A3 (0+3) z.price.A.toList=(chOf (some z)).A v :=
 ⟨_,_,_,CH.set0 h v z.src,CH.set1 _ v z.cur,CH.set2 _ v z.day,CH.set3 _ v z.price⟩
theorem fill_str1 (l:List UInt8):Instr.fill (fun k=>some (k*ti9.size,ti9.size)) (madeCells ti9.zero (1*ti9.size)) [(0,.string (S l))]=some (strA l):=by kernel_rfl
theorem strA_ext (l:List UInt8):(strA l).extract 0 (0+1*1)=strA l:=rfl
theorem strA_one (l:List UInt8):(strA l).all (·.oneCell')=true:=by simp [strA,Value.oneCell']
theorem info_str:∃ q,Tryz.prog.info? 9=some q∧q.bytes=16:=info_of (by kernel_rfl)
def SelQ (xs:List QC) (k:Int) (p:PL) (ins:List UInt8) (day:Int) (x:Value) (U:MemL):Prop:=∃ s n,n=(selBad (cands xs k p ins day) p.tol).length∧x=.tuple #[.agg ((selCh (cands xs k p ins day) p.tol).A s),.int .i64 (selE xs k p ins day)]∧IsL s n∧U=[(9000,Blk.own s 9 1 n (cat strA (selBad (cands xs k p ins day) p.tol)))]
theorem sel_none {xs:List QC} {k:Int} {p:PL} {ins:List UInt8} {day:Int} {e:Int} (h:cands xs k p ins day=[]) (he:selE xs k p ins day=e):SelQ xs k p ins day (mkRes [.agg (chZero.A (.slice none 0 0)),.int .i64 e]) [(9000,Blk.own (.slice none 0 0) 9 1 0 #[])]:=⟨.slice none 0 0,0,by rw [h];rfl,by rw [h,he];rfl,.nil,by rw [h];rfl⟩
theorem cands_err {xs:List QC} {k:Int} {p:PL} {ins:List UInt8} {day:Int} (h:candC xs k p day≠0):cands xs k p ins day=[]:=by unfold cands;rw [if_neg h]
theorem select_q {E:Env} (hE:E.P=Tryz.prog) {v:Value} {k:Int} {xs:List QC} (hv:Lst E v 72 xs.length (cat QC.A xs)) (hn:xs.length≤1000000000000) (hin:∀ y∈xs,y.In) {vp:Value} {p:PL} (hp:Lst E vp 1 p.srcs.length (cat strA p.srcs)) (hpn:p.srcs.length≤1000000000000000) (hpin:p.In) (ins:List UInt8) (day:Int):OwnC E 209 [SV.c v,SV.c (.agg (p.A vp)),SV.c (.int .i64 k),SV.c (.string (S ins)),SV.c (.int .i64 day)] [] (SelQ xs k p ins day):=by
 refine sx_ownC [] tt_ok mixed at209 E hE [SV.c v,SV.c (.agg (p.A vp)),SV.c (.int .i64 k),SV.c (.string (S ins)),SV.c (.int .i64 day)] [] _ rfl rfl fun w X β hT=>?_
 have hv':=hv.of_old hT
 have hp':=hp.of_old hT
 have C1:=cand_q (k:=k) rfl hv' hn hin hp' hpn hpin ins day
 obtain ⟨a,cap,rfl,hc,h4⟩:=id hp'.shape
 have F1:=p.size (.slice a p.srcs.length cap)
 have G1:=p.g1 (.slice a p.srcs.length cap)
 generalize p.A (.slice a p.srcs.length cap)=PA at *
 refine ⟨F1,?_⟩
 refine .inr (.inr (.inr ⟨[],[4000],[_,_,_,_,_],[],_,C1,rfl,trivial,rfl,trivial,?_⟩))
 rintro r U ⟨s,n,hsn,rfl,hs,rfl⟩
 obtain ⟨sa,sc,rfl⟩:=hs.len
 have hlen:=cands_len (xs:=xs) (k:=k) (p:=p) (ins:=ins) (day:=day)
 have hmem:=fun z hz=>cands_mem (k:=k) (p:=p) (ins:=ins) (day:=day) (z:=z) hin hz
 refine ⟨rfl,by decide,rfl,#[.slice sa n sc],rfl,fun c1=>?_,fun c1=>?_⟩
 ·have c1:(candC xs k p day != 0)=true:=c1
  have c1:candC xs k p day≠0:=by simpa using c1
  exact ⟨chZero.A (.slice none 0 0),(by kernel_rfl),CH.fits _,[(9000,Blk.own (.slice none 0 0) 9 1 0 #[])],[],sel_none (cands_err c1) (by unfold selE;rw [if_pos c1]),⟨.inr ⟨rfl,rfl,rfl⟩,trivial⟩,rfl⟩
 have c1:(candC xs k p day != 0)=false:=c1
 have c1:candC xs k p day=0:=by simpa using c1
 refine ⟨_,rfl,_,fun w' _=>run_len_sl Tryz.underlying26 w',fun c2=>?_,fun c2=>?_⟩
 ·have c2:((n:Int) == 0)=true:=c2
  have c2:n=0:=by have:=of_decide_eq_true c2;omega
  have e1:cands xs k p ins day=[]:=List.eq_nil_of_length_eq_zero (by omega)
  exact ⟨chZero.A (.slice none 0 0),(by kernel_rfl),CH.fits _,[(9000,Blk.own (.slice none 0 0) 9 1 0 #[])],[],sel_none e1 (by unfold selE;rw [if_neg (by rw [c1];decide),if_pos e1]),⟨.inr ⟨rfl,rfl,rfl⟩,trivial⟩,rfl⟩
 have c2:((n:Int) == 0)=false:=c2
 have c2:n≠0:=fun h=>by rw [h] at c2;cases c2
 have eE:selE xs k p ins day=0:=by
  unfold selE
  rw [if_neg (by rw [c1];decide),if_neg]
  intro h;rw [h] at hsn;exact c2 hsn
 unfold SelQ
 rw [eE,c1]
 clear eE
 generalize cands xs k p ins day=L at *
 have K1:=clone_own (E:=(envC Tryz.prog tt Tryz.f209.ntmps w X (tiedK [] β)).toEnv) rfl (x:=.slice sa n sc) (L:=L) hsn (by omega) (by omega)
 refine ⟨_,rfl,.inr (.inr (.inr ⟨[],[6000],[_],[_],_,K1,rfl,⟨.inl rfl,trivial⟩,rfl,trivial,?_⟩))⟩
 rintro y U ⟨⟨hy,hycap⟩,rfl⟩
 refine ⟨rfl,?_⟩
 have D1:=delete_own (E:=(envC Tryz.prog tt Tryz.f209.ntmps w X (tiedK [] β)).toEnv) rfl (x:=y) (s:=.slice sa n sc) (L:=L) (M:=L) hsn hsn (by omega) (by omega) hy hycap
 refine .inr (.inr (.inr ⟨[(7000,12)],[],[_,_],[_,_,_],_,D1,rfl,⟨.inl rfl,rfl,.inl rfl,trivial⟩,rfl,trivial,?_⟩))
 rintro z U ⟨m,hm,hz,rfl⟩
 refine ⟨rfl,?_⟩
 have hpos:0 < L.length:=by omega
 obtain ⟨mid,hmid,hcp⟩:=yard_ex hpos
 obtain ⟨ey,hmidL⟩:=yard_mid hmid
 have hcl:(cmpbl L).length≤L.length:=List.length_filter_le _ _
 have M1:=median_own (E:=(envC Tryz.prog tt Tryz.f209.ntmps w X (tiedK [] β)).toEnv) rfl (x:=z) (M:=cmpbl L) (n:=m) hm (by rw [hm];exact hcp) (by rw [hm,← cmpbl_eq];omega) (fun q hq=>⟨(hmem q (List.mem_filter.1 hq).1).1,(pay_ok (hmem q (List.mem_filter.1 hq).1).2.1).1⟩)
 refine .inr (.inr (.inr ⟨[],[],[_,_],[_],_,M1,rfl,⟨.inl rfl,trivial⟩,rfl,trivial,?_⟩))
 rintro r U ⟨⟨mid',hmid',rfl⟩,rfl⟩
 obtain rfl:mid'=mid:=by rw [hmid] at hmid';exact (Option.some.inj hmid').symm
 refine ⟨rfl,_,runs_pri rfl mid',?_⟩
 rw [← ey]
 have hrs:∀ q∈L,Pure Tryz.prog 236 [SV.c (.agg q.price.A),SV.c (.agg (yardQ L).A),SV.c (.agg p.tol.A)] (.bool (nearQ q.price (yardQ L) p.tol)):=fun q hq=>by
  obtain ⟨t1,t2⟩:=polOk_tol (hmem q hq).2.2.2
  exact (near_both hpin.tol t1 t2 (fun z hz=>⟨(hmem z hz).1,(hmem z hz).2.1⟩) hq).1
 clear K1 D1 M1 C1
 have YF:=(yardQ L).A_fits
 have hsb:∀ i,(sbad L p.tol i).length≤i:=sbad_len L p.tol
 have eb:selBad L p.tol=sbad L p.tol L.length:=by unfold sbad selBad;rw [List.take_length]
 have ef:selCh L p.tol=chOf (sfound L p.tol L.length):=by unfold sfound selCh;rw [List.take_length]
 rw [eb,ef]
 refine ⟨YF,_,rfl,_,fun w' _=>run_len_sl Tryz.underlying26 w',?_⟩
 generalize hYA:(yardQ L).A=YA at *
 refine ⟨fun q f m=>∃ (i:Nat) (y:Value) (N:Nat),q=L.length - i∧i≤L.length∧N=(sbad L p.tol i).length∧IsL y N∧f=[(6,SV.ptr 6 0),(10,SV.ptr 10 0),(12,SV.ptr 12 0),(15,SV.ptr 15 0),(16,SV.ptr 16 0),(45,SV.c (.slice sa n sc)),(46,SV.c (.int .i64 (n:Nat))),(47,SV.c (.int .i64 (i:Nat)))]∧m=[(9000,Blk.own y 9 1 N (cat strA (sbad L p.tol i))),(16,Blk.row 161 70 ((chOf (sfound L p.tol i)).A y)),(15,Blk.row 33 66 YA),(12,Blk.row 26 1 #[.slice sa n sc]),(10,Blk.row 161 70 (chZero.A (.slice none 0 0))),(6,Blk.row 35 68 PA),(4000,Blk.own (.slice sa n sc) 80 72 n (cat QC.A L))],L.length,⟨_,_,⟨0,.slice none 0 0,0,by omega,by omega,rfl,.nil,rfl,rfl⟩,⟨rfl,rfl,rfl,rfl,rfl,rfl,rfl,rfl,trivial⟩,⟨.inr ⟨rfl,rfl,rfl⟩,congrArg (fun A=>some (Blk.row 161 70 A)) chZero_A.symm,rfl,rfl,congrArg (fun A=>some (Blk.row 161 70 A)) chZero_A.symm,rfl,.inl rfl,trivial⟩,rfl⟩,?_⟩
 rintro q f m ⟨i,y,N,rfl,hi,hN,hy,rfl,rfl⟩
 refine ⟨fun h=>?_,fun h=>?_⟩
 ·have h:i < n:=by have:=of_decide_eq_true h;omega
  obtain ⟨z,hz⟩:∃ z,L[i]? = some z:=⟨_,List.getElem?_eq_getElem (by omega)⟩
  have hzL:=List.mem_of_getElem? hz
  have hNl:N≤i:=by rw [hN];exact hsb i
  obtain ⟨y0,hy0⟩:∃ z,L[0]? = some z:=⟨_,List.getElem?_eq_getElem (by omega)⟩
  have ec:curH L=y0.cur:=by
   unfold curH
   cases L with
   | nil=>cases hy0
   | cons z0 r=>simp at hy0;subst hy0;rfl
  rcases hs with ⟨hs1,hs2⟩ | ⟨g0,c0,hs1⟩
  ·omega
  cases hs1
  have L2:=cat_extract QC.size hz
  have j2:i*72+72≤(cat QC.A L).size:=by rw [Go.SX.cat_size QC.size];omega
  have L0:(cat QC.A L)[0+2]? = some (.string (S y0.cur)):=by
   have:=cat_get QC.size L 0 y0 2 hy0 (by omega)
   rw [y0.g2] at this
   simpa using this
  have K9:=hrs z hzL
  have Z0:=z.g0
  have Z2:=z.g2
  have Z3:=z.g3
  have ZP:=z.gpri
  have ZF:=z.fits
  have C0:=CH.g0 (chOf (sfound L p.tol i)) y
  have C4:=CH.g4 (chOf (sfound L p.tol i)) y
  have S4:=fun u=>CH.set4 (chOf (sfound L p.tol i)) y u
  obtain ⟨A1,A2,A3,T1,T2,T3,T4⟩:=CH.fill4 (chOf (sfound L p.tol i)) y z
  have PF:=z.price.A_fits
  generalize hC:(chOf (sfound L p.tol i)).A y=CA at *
  generalize hD:(chOf (some z)).A y=DA at *
  generalize hX:cat QC.A L=XA at *
  generalize hY:z.A=ZA at *
  refine ⟨by omega,by omega,.inr ⟨4000,g0,_,n,_,_,_,_,rfl,rfl,(by rw [off72];exact j2),ZA,(by rw [off72];exact L2),ZF,?_⟩⟩
  refine ⟨_,Z2,_,rfl,by decide,by omega,.inr ⟨4000,g0,_,n,_,_,_,_,rfl,rfl,_,L0,?_⟩⟩
  refine ⟨fun k1=>?_,fun k1=>?_⟩
  ·have k1:(!((S z.cur).toList == (S y0.cur).toList))=false:=k1
   rw [S_beq] at k1
   have k1:decide (z.cur=curH L)=true:=by rw [ec];simpa using k1
   refine ⟨by decide,_,ZP,by decide,_,G1,.inl ⟨_,K9,by kernel_rfl,fun k2=>?_,fun k2=>?_⟩⟩
   ·have k2:=bnot_t k2
    have hg:isGood (curH L) (yardQ L) p.tol z=false:=by unfold isGood;rw [k1,k2];rfl
    refine ⟨_,C4,_,Z0,.inl ⟨by decide,by decide,_,fill_str1 z.src,rfl,by decide,9000,N,_,.inl rfl,by decide,strA_one z.src,rfl,_,strA_ext z.src,?_⟩⟩
    obtain ⟨q,hq,hb⟩:=info_str
    refine ⟨by omega,by unfold maxLen;omega,⟨q,hq,by rw [hb];omega⟩,trivial,fun g2 cap2=>?_⟩
    refine ⟨by decide,rfl,_,S4 _,?_⟩
    exact ⟨L.length - (i+1),_,_,by omega,⟨i+1,_,N+1,rfl,by omega,by rw [sbad_bad hz hg,List.length_append,← hN];rfl,.some,rfl,rfl⟩,⟨rfl,rfl,rfl,rfl,rfl,rfl,rfl,c_int (i64_succ (by omega)),trivial⟩,⟨.inl (own_eq (by rw [sbad_bad hz hg,cat_append,cat_one])),congrArg (fun B=>some (Blk.row 161 70 ((chOf B).A _))) (sfound_bad hz hg).symm,rfl,rfl,rfl,rfl,.inl rfl,trivial⟩,rfl⟩
   ·have k2:=bnot_f k2
    have hg:isGood (curH L) (yardQ L) p.tol z=true:=by unfold isGood;rw [k1,k2];rfl
    have eb:=sbad_good hz hg
    have ef:=sfound_good hz hg
    refine ⟨_,C0,fun k3=>?_,fun k3=>?_⟩
    ·have k3:(chOf (sfound L p.tol i)).src=[]:=str_eq k3
     have e0:sfound L p.tol i=none:=by
      cases e:sfound L p.tol i with
      | none=>rfl
      | some q =>
       rw [e] at k3
       have hq:q∈L:=by
        unfold sfound at e
        exact List.mem_of_mem_take (List.mem_of_find?_eq_some e)
       exact absurd k3 (hmem q hq).2.2.1
     rw [e0] at ef
     refine ⟨_,Z0,_,Z2,_,Z3,by decide,_,ZP,by decide,rfl,A1,T1,by decide,rfl,A2,T2,by decide,rfl,A3,T3,by decide,PF,DA,T4,?_⟩
     exact ⟨by kernel_rfl,L.length - (i+1),_,_,by omega,⟨i+1,y,N,rfl,by omega,by rw [eb];exact hN,hy,rfl,rfl⟩,⟨rfl,rfl,rfl,rfl,rfl,rfl,rfl,c_int (i64_succ (by omega)),trivial⟩,⟨.inl (own_eq (by rw [eb])),(by rw [ef,← hD];rfl),rfl,rfl,rfl,rfl,.inl rfl,trivial⟩,rfl⟩
    ·have k3:(chOf (sfound L p.tol i)).src≠[]:=str_ne k3
     have e0:sfound L p.tol (i+1)=sfound L p.tol i:=by
      rw [ef]
      cases e:sfound L p.tol i with
      | none=>rw [e] at k3;exact absurd rfl k3
      | some q=>rfl
     exact ⟨L.length - (i+1),_,_,by omega,⟨i+1,y,N,rfl,by omega,by rw [eb];exact hN,hy,rfl,rfl⟩,⟨rfl,rfl,rfl,rfl,rfl,rfl,rfl,c_int (i64_succ (by omega)),trivial⟩,⟨.inl (own_eq (by rw [eb])),(by rw [e0,hC];rfl),rfl,rfl,rfl,rfl,.inl rfl,trivial⟩,rfl⟩
  ·have k1:(!((S z.cur).toList == (S y0.cur).toList))=true:=k1
   rw [S_beq] at k1
   have k1:decide (z.cur=curH L)=false:=by rw [ec];simpa using k1
   have hg:isGood (curH L) (yardQ L) p.tol z=false:=by unfold isGood;rw [k1];rfl
   refine ⟨by kernel_rfl,fun _=>?_,nofun⟩
   refine ⟨_,C4,_,Z0,.inl ⟨by decide,by decide,_,fill_str1 z.src,rfl,by decide,9000,N,_,.inl rfl,by decide,strA_one z.src,rfl,_,strA_ext z.src,?_⟩⟩
   obtain ⟨q,hq,hb⟩:=info_str
   refine ⟨by omega,by unfold maxLen;omega,⟨q,hq,by rw [hb];omega⟩,trivial,fun g2 cap2=>?_⟩
   refine ⟨by decide,rfl,_,S4 _,?_⟩
   exact ⟨L.length - (i+1),_,_,by omega,⟨i+1,_,N+1,rfl,by omega,by rw [sbad_bad hz hg,List.length_append,← hN];rfl,.some,rfl,rfl⟩,⟨rfl,rfl,rfl,rfl,rfl,rfl,rfl,c_int (i64_succ (by omega)),trivial⟩,⟨.inl (own_eq (by rw [sbad_bad hz hg,cat_append,cat_one])),congrArg (fun B=>some (Blk.row 161 70 ((chOf B).A _))) (sfound_bad hz hg).symm,rfl,rfl,rfl,rfl,.inl rfl,trivial⟩,rfl⟩
 ·have h:i=n:=by have:=of_decide_eq_false h;omega
  obtain rfl:i=L.length:=by omega
  have CF:Fits ((chOf (sfound L p.tol L.length)).A y) 70:=by obtain ⟨ya,yc,rfl⟩:=hy.len;exact CH.fits _
  generalize hC:(chOf (sfound L p.tol L.length)).A y=CA at *
  refine ⟨CF,[(9000,Blk.own y 9 1 N (cat strA (sbad L p.tol L.length)))],[],⟨y,N,hN,by rw [hC];rfl,hy,rfl⟩,⟨.inl rfl,trivial⟩,rfl⟩
def QC.beq (a b:QC):Bool:=decide (a.src=b.src) && (decide (a.ins=b.ins) && (decide (a.cur=b.cur) && ((a.day == b.day) && (a.price.beq b.price && ((a.known == b.known) && ((a.void == b.void) && true))))))
theorem QC.beq_self (a:QC):a.beq a=true:=by simp [QC.beq,RQ.beq_self]
theorem CH.g1 (h:CH) (v:Value):(h.A v)[1]? = some (.string (S h.cur)):=by kernel_rfl
theorem CH.g2 (h:CH) (v:Value):(h.A v)[2]? = some (.int .i64 h.day):=by kernel_rfl
theorem CH.g3 (h:CH) (v:Value):(h.A v).extract 3 (3+66)=h.price.A:=by
 have h2:h.price.A.size=66:=RQ.A_size _
 rw [CH.A,Array.extract_append]
 have e:(#[.string (S h.src),.string (S h.cur),.int .i64 h.day]:Array Value).size=3:=rfl
 rw [e,Array.extract_append,h2]
 have e2:h.price.A.extract (3 - 3) (3+66 - 3)=h.price.A:=by
  rw [show (3+66 - 3:Nat)=h.price.A.size by omega,Nat.sub_self,Array.extract_size]
 rw [e2]
 apply Array.ext'
 simp
end Go.Proofs.YtofllflnmmjijaaGreatDoor
