/- clone and delete. delete by a question. sort and middle. the; no condition. -/
import Derived.Test.YtklehfchdoikeaaGreatDoorValuationExactQ26
set_option maxRecDepth 100000
set_option maxHeartbeats 4000000
namespace Go.Proofs.YtklehfchdoikeaaGreatDoor
open Go Go.RowKit Go.SX
theorem xL {E:Env} {t:TypeId} {x y:Operand} {e:TypeId} (hu:E.P.underlying t=some (.slice e)) {ad:Addr} {n c:Nat}:bB E (do eqGuard .eql t x y (.slice (some ad) n c) (.slice none 0 0);binOp .eql t (.slice (some ad) n c) (.slice none 0 0)) (.bool false):=fun w _=>by
 have h1:(eqGuard .eql t x y (.slice (some ad) n c) (.slice none 0 0)).run E.P w=.ok () w:=by simp [eqGuard]
 have h2:(Op.equal t (.slice (some ad) n c) (.slice none 0 0)).run E.P w=.ok false w:=by
  show (Op.equalIn (9999+1) t _ _).run E.P w=_
  rw [Op.equalIn]
  simp only [Sem.run_bind,run_underlying hu,Result.andThen_ok,Sem.run_pure]
 have h3:binOp .eql t (.slice (some ad) n c) (.slice none 0 0)=(do pure (.bool (<- Op.equal t (.slice (some ad) n c) (.slice none 0 0)))):=rfl
 rw [Sem.run_bind,h1,h3]
 simp [h2]
theorem QC.all1 (a:QC):a.A.all (·.oneCell')=true:=a.one
def Ql (key:Key) (n:Nat) (A:Array Value) (x:Value) (U:aE):Prop:=IsL x n/\U=[(key,Blk.own x 63 72 n A)]
theorem Av {E:Env} (hE:E.P=Tryz.prog) {v:Value} {n:Nat} {A:Array Value} (hv:Lst E v 72 n A) (hn:0 < n) (hm:n<=1000000000):OwnC E 84 [SV.c v] [] (Ql 6000 n A):=by
 refine aA [] ai ak ML E hE [SV.c v] [] _ rfl rfl fun w X β hT=>?_
 have hv':=hv.of_old hT
 obtain ⟨a,cap,rfl,hc,h4⟩:=id hv'.shape
 obtain ⟨b,o,rfl,h5⟩:=h4 hn
 refine ⟨_,xL Tryz.underlying26,nofun,fun _=>?_⟩
 refine yQ ai rfl rfl (i:=JI) rfl rfl (j:=gg) rfl 6000 rfl trivial fun g=>?_
 obtain ⟨q,hq,hb⟩:=kh
 refine ⟨by decide,6000,0,#[],.inl rfl,.inr ⟨[],n,A,GW hv' hn,by omega,by unfold maxLen;omega,⟨q,hq,by rw [hb];omega⟩,trivial,fun g2 cap2=>?_⟩⟩
 exact ⟨[(6000,Blk.own (.slice (some ⟨g2,0,none⟩) (0+n) cap2) 63 72 (0+n) (#[]++A))],[],⟨by rw [Nat.zero_add];exact .some,by rw [show (#[]++A:Array Value)=A by simp,Nat.zero_add];rfl⟩,⟨.inl rfl,trivial⟩,rfl⟩
theorem IM (o:Nat):aL o 0 gg.size+2=o+0*72+2:=by
 show aL o 0 72+2=_
 cases o<;>simp [aL]
theorem zK {E:Env} (hE:E.P=Tryz.prog) {z:QC} {v:Value} {L:List QC} (hv:Lst E v 72 L.length (cat QC.A L)) (hn:0 < L.length):OwnC E 85 [SV.c (.agg z.A),SV.ptr 7000 0] [(7000,Blk.row 26 1 #[v])] (fun x U=>x=.bool (!decide (z.cur=dB L))/\U=[(7000,Blk.row 26 1 #[v])]):=by
 refine aA [] ai ak Rj E hE [SV.c (.agg z.A),SV.ptr 7000 0] [(7000,Blk.row 26 1 #[v])] _ rfl rfl fun w X β hT=>?_
 have hv':=hv.of_old hT
 have Z2:=z.g2
 have ZF:=z.fits
 generalize z.A=ZA at *
 obtain ⟨a,cap,rfl,hc,h4⟩:=id hv'.shape
 obtain ⟨b,o,rfl,h5⟩:=h4 hn
 obtain ⟨y,hy⟩:∃ y,L[0]? = some y:=⟨_,List.getElem?_eq_getElem hn⟩
 have hE':VOk (aT Tryz.prog tt Tryz.f85.ntmps w X (aF [(7000,Blk.row 26 1 #[Value.slice (some ⟨b,o,none⟩) L.length cap])] β)):=ai
 have L1:=aW hE' h5 QC.size hy y.g2 (ty:=9) (ti:=ti9) rfl rfl (p:=aL o 0 gg.size+2) (IM o)
 have ec:dB L=y.cur:=by
  unfold dB
  cases L with
  | nil=>cases hy
  | cons z0 r=>simp at hy;subst hy;rfl
 refine ⟨ZF.size,_,Z2,_,rfl,by decide,by omega,.inl ⟨_,L1,?_⟩⟩
 refine ⟨by kernel_rfl,[(7000,Blk.row 26 1 #[Value.slice (some ⟨b,o,none⟩) L.length cap])],[],⟨?_,rfl⟩,⟨rfl,trivial⟩,rfl⟩
 rw [ec,<- dn]
 rfl
theorem EP {E:Env} (hE:E.P=Tryz.prog) {x v:Value} {L M:List QC} {n:Nat} (hnM:n=M.length) (hM:M.length<=1000) (hv:Lst E v 72 L.length (cat QC.A L)) (hn:0 < L.length) (hx:IsL x n):OwnC E 151 [SV.c x,SV.clo 85 [7000]] [(7000,Blk.row 26 1 #[v]),(6000,Blk.own x 63 72 n (cat QC.A M))] (fun r U=>(∃ i:Int,r=.int .i64 i/\((i=-1/\∀ z∈M,z.cur=dB L)\/(∃ j:Nat,i=j/\j < M.length/\(∀ z∈M.take j,z.cur=dB L)/\∃ z,M[j]? = some z/\z.cur≠dB L)))/\U=[(7000,Blk.row 26 1 #[v]),(6000,Blk.own x 63 72 n (cat QC.A M))]):=by
 obtain ⟨xa,xc,rfl⟩:=hx.len
 refine aA [] ai ak Pm E hE [SV.c (.slice xa n xc),SV.clo 85 [7000]] [(7000,Blk.row 26 1 #[v]),(6000,Blk.own (.slice xa n xc) 63 72 n (cat QC.A M))] _ rfl rfl fun w X β hT=>?_
 have hv':=hv.of_old hT
 refine ⟨_,fun w' _=>al Tryz.underlying26 w',?_⟩
 refine ⟨fun q f m=>∃ (j:Nat),q=M.length - j/\j<=M.length/\(∀ z∈M.take j,z.cur=dB L)/\f=[(0,SV.c (.slice xa n xc)),(1,SV.clo 85 [7000]),(7,SV.c (.int .i64 (n:Nat))),(8,SV.c (.int .i64 (j:Nat)))]/\m=[(7000,Blk.row 26 1 #[v]),(6000,Blk.own (.slice xa n xc) 63 72 n (cat QC.A M))],M.length,⟨_,_,⟨0,by omega,by omega,by simp,rfl,rfl⟩,⟨rfl,rfl,rfl,rfl,trivial⟩,⟨rfl,.inl rfl,trivial⟩,rfl⟩,?_⟩
 rintro q f m ⟨j,rfl,hj,hno,rfl,rfl⟩
 refine ⟨fun h=>?_,fun h=>?_⟩
 ·have h:j < n:=by have:=af h;omega
  obtain ⟨z,hz⟩:∃ z,M[j]? = some z:=⟨_,List.getElem?_eq_getElem (by omega)⟩
  rcases hx with ⟨hs1,hs2⟩ | ⟨g0,c0,hs1⟩
  ·omega
  cases hs1
  have L2:=bz QC.size hz
  have hjn:j*72+72<=(cat QC.A M).size:=by rw [Go.SX.cat_size QC.size];omega
  have Q1:=zK (E:=(aT Tryz.prog tt Tryz.f151.ntmps w X (aF [(7000,Blk.row 26 1 #[v]),(6000,Blk.own (.slice (some ⟨g0,0,none⟩) n xc) 63 72 n (cat QC.A M))] β)).toEnv) rfl (z:=z) hv' hn
  generalize hX:cat QC.A M=XA at *
  generalize hY:z.A=ZA at *
  refine ⟨by omega,by omega,.inr ⟨6000,g0,_,n,_,_,_,_,rfl,rfl,(by rw [dr];exact hjn),ZA,(by rw [dr];exact L2),.inr (.inr (.inl ⟨[],[_,_],[_],_,[_],Q1,rfl,⟨rfl,trivial⟩,rfl,rfl,fun c=>?_,fun c=>?_⟩))⟩⟩
  ·have c:=ba c
   have c:=ag c
   exact ⟨[(7000,Blk.row 26 1 #[v]),(6000,Blk.own (.slice (some ⟨g0,0,none⟩) n xc) 63 72 n XA)],[],⟨⟨_,rfl,.inr ⟨j,rfl,by omega,hno,z,hz,c⟩⟩,rfl⟩,⟨rfl,.inl rfl,trivial⟩,rfl⟩
  ·have c:=bc c
   have c:=af c
   refine ⟨M.length - (j+1),_,_,by omega,⟨j+1,rfl,by omega,?_,rfl,rfl⟩,⟨rfl,rfl,rfl,am (ar (by omega)),trivial⟩,⟨rfl,.inl rfl,trivial⟩,rfl⟩
   intro z' hz'
   rw [List.take_add_one,hz] at hz'
   rcases List.mem_append.1 hz' with h9 | h9
   ·exact hno z' h9
   ·simp at h9;subst h9;exact c
 ·have h:j=n:=by have:=ag h;omega
  refine ⟨[(7000,Blk.row 26 1 #[v]),(6000,Blk.own (.slice xa n xc) 63 72 n (cat QC.A M))],[],⟨⟨_,rfl,.inl ⟨rfl,?_⟩⟩,rfl⟩,⟨rfl,.inl rfl,trivial⟩,rfl⟩
  rw [List.take_of_length_le (by omega)] at hno
  exact hno
def Az:Value->Prop
 | .slice _ n c=>n<=c
 | _=>True
theorem OwnC.caps {E:Env} {f:FuncId} {vs:List SV} {pre:aE} {Q:Value->aE->Prop} (h:OwnC E f vs pre Q):OwnC E f vs pre (fun x U=>Q x U/\∀ k v e sz n A,ay U k=some (Blk.own v e sz n A)->Az v):=by
 refine ⟨h.1,fun ρ w xs hw hx=>(h.2 ρ w xs hw hx).mono fun e w' ⟨x,U,h1,h2,h3,h4⟩=>⟨x,U,h1,⟨h2,fun k v e sz n A hk=>?_⟩,h3,h4⟩⟩
 have hr:=(h3.loose k _ hk rfl).2
 have hr:w'.ownsRow 0 e sz v n A.toList:=hr
 rcases hr.2 with ⟨rfl,_⟩ | ⟨g,cap,cur,rfl,hb,hg,hnc,hcm,hcs,htake⟩
 ·exact Nat.le_refl 0
 ·exact hnc
def bV (L:List QC) (z:QC):Bool:=decide (z.cur=dB L)
theorem qZ (L:List QC):eG L=L.filter (bV L):=rfl
def Se (v:Value) (L M:List QC) (r:Value) (U:aE):Prop:=∃ m,m=(M.filter (bV L)).length/\IsL r m/\U=[(7000,Blk.row 26 1 #[v]),(6000,Blk.own r 63 72 m (cat QC.A (M.filter (bV L))))]
theorem FD {E:Env} (hE:E.P=Tryz.prog) {x v:Value} {L M:List QC} {n:Nat} (hnM:n=M.length) (hM:M.length<=1000) (hv:Lst E v 72 L.length (cat QC.A L)) (hn:0 < L.length) (hx:IsL x n) (hcap:Az x):OwnC E 83 [SV.c x,SV.clo 85 [7000]] [(7000,Blk.row 26 1 #[v]),(6000,Blk.own x 63 72 n (cat QC.A M))] (Se v L M):=by
 obtain ⟨xa,xc,rfl⟩:=hx.len
 refine aA [] ai ak MM E hE [SV.c (.slice xa n xc),SV.clo 85 [7000]] [(7000,Blk.row 26 1 #[v]),(6000,Blk.own (.slice xa n xc) 63 72 n (cat QC.A M))] _ rfl rfl fun w X β hT=>?_
 have hv':=hv.of_old hT
 have I1:=EP (E:=(aT Tryz.prog tt Tryz.f83.ntmps w X (aF [(7000,Blk.row 26 1 #[v]),(6000,Blk.own (.slice xa n xc) 63 72 n (cat QC.A M))] β)).toEnv) rfl (x:=.slice xa n xc) (M:=M) hnM hM hv' hn hx
 refine .inr (.inr (.inr ⟨[],[],[_,_],[_,_],_,I1,rfl,⟨rfl,.inl rfl,trivial⟩,rfl,trivial,?_⟩))
 rintro r U ⟨⟨i,rfl,hi⟩,rfl⟩
 refine ⟨rfl,?_⟩
 rcases hi with ⟨rfl,hall⟩ | ⟨j,rfl,hj,hpre,z0,hz0,hne⟩
 ·have e1:M.filter (bV L)=M:=List.filter_eq_self.2 fun z hz=>decide_eq_true (hall z hz)
  refine ⟨fun _=>?_,nofun⟩
  exact ⟨[(7000,Blk.row 26 1 #[v]),(6000,Blk.own (.slice xa n xc) 63 72 n (cat QC.A M))],[],⟨n,by rw [e1];exact hnM,hx,by rw [e1];rfl⟩,⟨rfl,.inl rfl,trivial⟩,rfl⟩
 rcases hx with ⟨hs1,hs2⟩ | ⟨g0,c0,hs1⟩
 ·omega
 cases hs1
 have hcap:n<=xc:=hcap
 have h0:((j:Int) == -1)=false:=by simp
 refine ⟨fun c=>absurd (h0.symm.trans c) (by decide),fun _=>?_⟩
 have hfj:(M.take j).filter (bV L)=M.take j:=List.filter_eq_self.2 fun z hz=>decide_eq_true (hpre z hz)
 have hf1:(M.take (j+1)).filter (bV L)=M.take j:=by
  rw [List.take_add_one,hz0,List.filter_append,hfj]
  simp [bV,hne]
 refine ⟨fun q f m=>∃ (a b:Nat) (M':List QC),q=M.length - b/\b<=M.length/\a < b/\M'.length=M.length/\M'.take a=(M.take b).filter (bV L)/\M'.drop b=M.drop b/\f=[(0,SV.c (.slice (some ⟨g0,0,none⟩) n xc)),(1,SV.clo 85 [7000]),(5,SV.c (.int .i64 (a:Nat))),(6,SV.c (.int .i64 (b:Nat)))]/\m=[(7000,Blk.row 26 1 #[v]),(6000,Blk.own (.slice (some ⟨g0,0,none⟩) n xc) 63 72 n (cat QC.A M'))],M.length - (j+1),⟨_,_,⟨j,j+1,M,rfl,by omega,by omega,rfl,hf1.symm,rfl,rfl,rfl⟩,⟨rfl,rfl,rfl,am (ar (by omega)),trivial⟩,⟨rfl,.inl rfl,trivial⟩,rfl⟩,?_⟩
 rintro q f m ⟨a,b,M',rfl,hb,hab,hlen,htk,hdr,rfl,rfl⟩
 refine ⟨_,fun w' _=>al Tryz.underlying26 w',fun h=>?_,fun h=>?_⟩
 ·have h:b < n:=by have:=af h;omega
  obtain ⟨z,hz⟩:∃ z,M[b]? = some z:=⟨_,List.getElem?_eq_getElem (by omega)⟩
  have hz':M'[b]? = some z:=by
   have h1:(M'.drop b)[0]? = (M.drop b)[0]?:=by rw [hdr]
   simpa [hz] using h1
  have L2:=bz QC.size hz'
  have hjn:b*72+72<=(cat QC.A M').size:=by rw [Go.SX.cat_size QC.size];omega
  have han:a*72+72<=(cat QC.A M').size:=by rw [Go.SX.cat_size QC.size];omega
  have hst:bh (cat QC.A M') (a*72) z.A.toList=cat QC.A (M'.set a z):=nz QC.size (by omega) z
  have Q1:=zK (E:=(aT Tryz.prog tt Tryz.f83.ntmps w X (aF [(7000,Blk.row 26 1 #[v]),(6000,Blk.own (.slice (some ⟨g0,0,none⟩) n xc) 63 72 n (cat QC.A M))] β)).toEnv) rfl (z:=z) hv' hn
  have ZF:=z.fits
  generalize hX:cat QC.A M'=XA at *
  generalize hY:z.A=ZA at *
  refine ⟨by omega,by omega,.inr ⟨6000,g0,_,n,_,_,_,_,rfl,rfl,(by rw [dr];exact hjn),ZA,(by rw [dr];exact L2),ZF,.inr (.inr (.inl ⟨[],[_,_],[_],_,[_],Q1,rfl,⟨rfl,trivial⟩,rfl,rfl,fun c=>?_,fun c=>?_⟩))⟩⟩
  ·have c:(!(!decide (z.cur=dB L)))=true:=c
   have c:bV L z=true:=by simpa [bV] using c
   refine ⟨by omega,by omega,⟨6000,g0,_,n,_,_,_,_,rfl,rfl,(by rw [dr];exact han),ZF,cat QC.A (M'.set a z),(by rw [dr];exact hst),?_⟩⟩
   refine ⟨M.length - (b+1),_,_,by omega,⟨a+1,b+1,M'.set a z,rfl,by omega,by omega,by rw [List.length_set];exact hlen,?_,?_,rfl,rfl⟩,⟨rfl,rfl,am (ar (by omega)),am (ar (by omega)),trivial⟩,⟨rfl,.inl rfl,trivial⟩,rfl⟩
   ·rw [List.take_add_one,List.take_add_one,hz,List.filter_append,<- htk]
    rw [List.getElem?_set_self (by omega),List.take_set_of_le (Nat.le_refl _)]
    simp [c]
   ·rw [List.drop_set_of_lt (by omega)]
    have h1:(M'.drop b).drop 1=(M.drop b).drop 1:=by rw [hdr]
    simpa using h1
  ·have c:(!(!decide (z.cur=dB L)))=false:=c
   have c:bV L z=false:=by simpa [bV] using c
   refine ⟨M.length - (b+1),_,_,by omega,⟨a,b+1,M',rfl,by omega,by omega,hlen,?_,?_,rfl,rfl⟩,⟨rfl,rfl,rfl,am (ar (by omega)),trivial⟩,⟨rfl,.inl (bw hX.symm),trivial⟩,rfl⟩
   ·rw [List.take_add_one,hz,List.filter_append,<- htk]
    simp [c]
   ·have h1:(M'.drop b).drop 1=(M.drop b).drop 1:=by rw [hdr]
    simpa using h1
 ·have h:b=n:=by have:=ag h;omega
  have hE':VOk (aT Tryz.prog tt Tryz.f83.ntmps w X (aF [(7000,Blk.row 26 1 #[v]),(6000,Blk.own (.slice (some ⟨g0,0,none⟩) n xc) 63 72 n (cat QC.A M))] β)):=ai
  have S1:=u7 hE' Tryz.underlying26 (j:=gg) rfl (a:=some ⟨g0,0,none⟩) (n:=n) (cap:=xc) (k:=.i64) a rfl (by omega)
  have S2:=mK hE' Tryz.underlying26 (j:=gg) rfl (a:=some ⟨g0,0,none⟩) (n:=n) (cap:=xc) (k:=.i64) a rfl (by omega)
  refine ⟨_,S1,?_⟩
  refine uv ai rfl rfl rfl rfl (i:=JI) rfl rfl (j:=gg) rfl (by kernel_rfl) 6000 (a:=a) (k:=n - a) (n:=n) (c2:=xc - a) (cap:=xc) (off:=a*72) (by omega) (by omega) rfl ?_ rfl ?_
  ·show SV.c _=SV.c _
   rw [if_neg (by omega)]
   have e72:gg.size=72:=rfl
   rw [e72]
   by_cases h0:a*72=0
   ·rw [h0];rfl
   ·simp [Addr.add,h0]
  ·refine ⟨_,S2,?_⟩
   have e1:(cat QC.A M').extract 0 (a*72)=cat QC.A (M.filter (bV L)):=by
    rw [<- ny QC.size M' a (by omega),htk,List.take_of_length_le (by omega)]
   have e2:a=(M.filter (bV L)).length:=by
    have:=congrArg List.length htk
    rw [List.length_take,List.take_of_length_le (show M.length<=b by omega)] at this
    omega
   refine ⟨[(7000,Blk.row 26 1 #[v]),(6000,Blk.own (.slice (some ⟨g0,0,none⟩) a xc) 63 72 a (cat QC.A (M.filter (bV L))))],[],⟨a,e2,.some,rfl⟩,⟨rfl,.inl (bw e1),trivial⟩,rfl⟩
theorem vX {α:Type} {lt:α->α->Bool} {x:α}:dW lt x []=[x]:=rfl
theorem Ad {α:Type} {lt:α->α->Bool} {x y:α} {r:List α} (h:lt x y=true):dW lt x (y :: r)=y :: dW lt x r:=by
 rw [dW,if_pos h]
theorem st {α:Type} {lt:α->α->Bool} {x y:α} {r:List α} (h:lt x y=false):dW lt x (y :: r)=x :: y :: r:=by
 rw [dW,if_neg (by rw [h];decide)]
def ltQ (a b:QC):Bool:=ltP a.price b.price
def cL (M:List QC):List QC:=(cA ltQ M).reverse
def fnV (g:FuncId):Value:=.func (.func g) #[] #[]
theorem EK {E:Env} (hE:E.P=Tryz.prog) {x:Value} {M:List QC} {n:Nat} (hnM:n=M.length) (hM:M.length<=1000) (hx:IsL x n) (hok:∀ z∈M,z.In/\z.price.ok=true):OwnC E 251 [SV.c x,SV.c (.int .i64 0),SV.c (.int .i64 (n:Nat)),SV.c (fnV 87)] [(6000,Blk.own x 63 72 n (cat QC.A M))] (fun r U=>r=.tuple #[]/\U=[(6000,Blk.own x 63 72 n (cat QC.A (cL M)))]):=by
 obtain ⟨xa,xc,rfl⟩:=hx.len
 refine aA [] ai ak NG E hE [SV.c (.slice xa n xc),SV.c (.int .i64 0),SV.c (.int .i64 (n:Nat)),SV.c (fnV 87)] [(6000,Blk.own (.slice xa n xc) 63 72 n (cat QC.A M))] _ rfl rfl fun w X β hT=>?_
 refine ⟨fun q f m=>∃ (i:Nat) (M':List QC),q=M.length+1 - i/\1<=i/\(i<=M.length\/i=1)/\M'=(cA ltQ (M.take i)).reverse++M.drop i/\f=[(0,SV.c (.slice xa n xc)),(1,SV.c (.int .i64 0)),(2,SV.c (.int .i64 (n:Nat))),(3,SV.c (fnV 87)),(8,SV.c (.int .i64 (i:Nat)))]/\m=[(6000,Blk.own (.slice xa n xc) 63 72 n (cat QC.A M'))],M.length,⟨_,_,⟨1,M,by omega,by omega,by omega,?_,rfl,rfl⟩,⟨rfl,rfl,rfl,rfl,rfl,trivial⟩,⟨.inl rfl,trivial⟩,rfl⟩,?_⟩
 ·cases M with
  | nil=>rfl
  | cons z r=>rfl
 rintro q f m ⟨i,M',rfl,hi1,hi,hM',rfl,rfl⟩
 refine ⟨fun h=>?_,fun h=>?_⟩
 ·have h:i < n:=by have:=af h;omega
  obtain ⟨z,hz⟩:∃ z,M[i]? = some z:=⟨_,List.getElem?_eq_getElem (by omega)⟩
  rcases hx with ⟨hs1,hs2⟩ | ⟨g0,c0,hs1⟩
  ·omega
  cases hs1
  have hdr:M.drop i=z :: M.drop (i+1):=by
   rw [List.drop_eq_getElem_cons (by omega)]
   congr 1
   exact (List.getElem?_eq_some_iff.1 hz).2
  generalize hR:cA ltQ (M.take i)=R at *
  have hRl:R.length=i:=by rw [<- hR,jf];simp;omega
  have hRok:∀ y∈R,y.In/\y.price.ok=true:=fun y hy=>by
   rw [<- hR,nP] at hy
   exact hok y (List.mem_of_mem_take hy)
  refine ⟨fun q f m=>∃ (r1 r2:List QC) (M':List QC),q=r2.length/\r1++r2=R/\dW ltQ z R=r1++dW ltQ z r2/\M'=r2.reverse++z :: (r1.reverse++M.drop (i+1))/\f=[(0,SV.c (.slice (some ⟨g0,0,none⟩) n xc)),(1,SV.c (.int .i64 0)),(2,SV.c (.int .i64 (n:Nat))),(3,SV.c (fnV 87)),(8,SV.c (.int .i64 (i:Nat))),(9,SV.c (.int .i64 (r2.length:Nat)))]/\m=[(6000,Blk.own (.slice (some ⟨g0,0,none⟩) n xc) 63 72 n (cat QC.A M'))],i,⟨_,_,⟨[],R,M',hRl.symm,rfl,rfl,by rw [hM',hdr];rfl,rfl,rfl⟩,⟨rfl,rfl,rfl,rfl,rfl,by rw [hRl];rfl,trivial⟩,⟨.inl rfl,trivial⟩,rfl⟩,?_⟩
  rintro q f m ⟨r1,r2,M2,rfl,hr12,hins,hM2,rfl,rfl⟩
  have hlen:M2.length=n:=by
   have h1:=congrArg List.length hr12
   have h2:=congrArg List.length hdr
   rw [hM2]
   simp only [List.length_append,List.length_cons,List.length_reverse,List.length_drop] at *
   omega
  cases r2 with
  | nil =>
   refine ⟨fun c=>absurd c (by decide),fun _=>⟨by kernel_rfl,nofun,fun _=>?_⟩⟩
   have e1:M2=(cA ltQ (M.take (i+1))).reverse++M.drop (i+1):=by
    rw [pY hz,hR,hins,vX,hM2]
    simp
   exact ⟨M.length+1 - (i+1),_,_,by omega,⟨i+1,M2,rfl,by omega,by omega,e1,rfl,rfl⟩,⟨rfl,rfl,rfl,rfl,am (ar (by omega)),trivial⟩,⟨.inl rfl,trivial⟩,rfl⟩
  | cons y r2 =>
   refine ⟨fun _=>?_,fun c=>absurd c (by simp)⟩
   have hl12:r1.length+r2.length+1=i:=by have:=congrArg List.length hr12;simp at this;omega
   have hlt:r2.length+1 < n:=by omega
   have ew:IntKind.i64.wrap (((y :: r2).length:Int) - 1)=((r2.length:Nat):Int):=by
    rw [List.length_cons,i64_in (by omega)];omega
   have hM3:M2=r2.reverse++y :: z :: (r1.reverse++M.drop (i+1)):=by rw [hM2];simp
   have hA:r2.reverse.length=r2.length:=List.length_reverse
   have g1:M2[r2.length]? = some y:=by rw [hM3,<- hA];exact Gj _ _ _
   have g2:M2[r2.length+1]? = some z:=by rw [hM3,<- hA];exact AJ _ _ _ _
   have hyR:y∈R:=by rw [<- hr12];simp
   have K1:=Ct (hok z (List.mem_of_getElem? hz)).1 (hRok y hyR).1 (hok z (List.mem_of_getElem? hz)).2 (hRok y hyR).2
   have L1:=bz QC.size g1
   have L2:=bz QC.size g2
   have hsw:((M2.set (r2.length+1) y).set r2.length z)=r2.reverse++z :: y :: (r1.reverse++M.drop (i+1)):=by
    rw [hM3,<- hA];exact rV _ _ _ _
   have st1:bh (cat QC.A M2) ((r2.length+1)*72) y.A.toList=cat QC.A (M2.set (r2.length+1) y):=nz QC.size (by omega) y
   have st2:bh (cat QC.A (M2.set (r2.length+1) y)) (r2.length*72) z.A.toList=cat QC.A ((M2.set (r2.length+1) y).set r2.length z):=nz QC.size (by rw [List.length_set];omega) z
   have s1:(cat QC.A M2).size=n*72:=by rw [Go.SX.cat_size QC.size,hlen]
   have s2:(cat QC.A (M2.set (r2.length+1) y)).size=n*72:=by rw [Go.SX.cat_size QC.size,List.length_set,hlen]
   rw [hsw] at st2
   have j1:r2.length*72+72<=(cat QC.A M2).size:=by rw [s1];omega
   have j2:(r2.length+1)*72+72<=(cat QC.A M2).size:=by rw [s1];omega
   have j3:r2.length*72+72<=(cat QC.A (M2.set (r2.length+1) y)).size:=by rw [s2];omega
   have YF:=y.fits
   have ZF:=z.fits
   generalize hX:cat QC.A M2=XA at *
   generalize hX2:cat QC.A (M2.set (r2.length+1) y)=XB at *
   generalize hY:z.A=ZA at *
   generalize hY2:y.A=YA at *
   refine ⟨by omega,by simp only [List.length_cons];omega,.inr ⟨6000,g0,_,n,_,_,_,_,rfl,rfl,(by rw [List.length_cons,dr];exact j2),ZA,(by rw [List.length_cons,dr];exact L2),?_⟩⟩
   refine ⟨by rw [ew];omega,by rw [ew];omega,.inr ⟨6000,g0,_,n,_,_,_,_,rfl,rfl,(by rw [ew,dr];exact j1),YA,(by rw [ew,dr];exact L1),.inl ⟨_,K1,by kernel_rfl,fun c=>?_,fun c=>?_⟩⟩⟩
   ·have c:decide (dp (z.price.p*y.price.q) (y.price.p*z.price.q) < 0)=true:=c
    have hl:ltQ z y=true:=c
    refine ⟨by rw [ew];omega,by rw [ew];omega,.inr ⟨6000,g0,_,n,_,_,_,_,rfl,rfl,(by rw [ew,dr];exact j1),YA,(by rw [ew,dr];exact L1),?_⟩⟩
    refine ⟨by omega,by rw [List.length_cons];omega,.inr ⟨6000,g0,_,n,_,_,_,_,rfl,rfl,(by rw [List.length_cons,dr];exact j2),ZA,(by rw [List.length_cons,dr];exact L2),?_⟩⟩
    refine ⟨by omega,by rw [List.length_cons];omega,⟨6000,g0,_,n,_,_,_,_,rfl,rfl,(by rw [List.length_cons,dr];exact j2),YF,XB,(by rw [List.length_cons,dr];exact st1),?_⟩⟩
    refine ⟨by rw [ew];omega,by rw [ew];omega,⟨6000,g0,_,n,_,_,_,_,rfl,rfl,(by rw [ew,dr];exact j3),ZF,cat QC.A (r2.reverse++z :: y :: (r1.reverse++M.drop (i+1))),(by rw [ew,dr];exact st2),?_⟩⟩
    refine ⟨by kernel_rfl,r2.length,_,_,by simp,⟨r1++[y],r2,_,rfl,by rw [<- hr12];simp,by rw [hins,Ad hl];simp,?_,rfl,rfl⟩,⟨rfl,rfl,rfl,rfl,rfl,am ew,trivial⟩,⟨.inl rfl,trivial⟩,rfl⟩
    simp
   ·have c:decide (dp (z.price.p*y.price.q) (y.price.p*z.price.q) < 0)=false:=c
    have hl:ltQ z y=false:=c
    have e1:M2=(cA ltQ (M.take (i+1))).reverse++M.drop (i+1):=by
     rw [pY hz,hR,hins,st hl,hM2]
     simp
    exact ⟨M.length+1 - (i+1),_,_,by omega,⟨i+1,M2,rfl,by omega,by omega,e1,rfl,rfl⟩,⟨rfl,rfl,rfl,rfl,am (ar (by omega)),trivial⟩,⟨.inl (bw hX.symm),trivial⟩,rfl⟩
 ·have h:n<=i:=by have:=ag h;omega
  have e1:M'=cL M:=by
   rw [hM',List.take_of_length_le (by omega),List.drop_of_length_le (by omega),List.append_nil]
   try rfl
  exact ⟨[(6000,Blk.own (.slice xa n xc) 63 72 n (cat QC.A M'))],[],⟨rfl,by rw [e1]⟩,⟨.inl rfl,trivial⟩,rfl⟩
theorem Dr {E:Env} (hE:E.P=Tryz.prog) {x:Value} {M:List QC} {n:Nat} (hnM:n=M.length) (hM:M.length < 20) (hx:IsL x n) (hok:∀ z∈M,z.In/\z.price.ok=true):OwnC E 206 [SV.c x,SV.c (.int .i64 (n:Nat)),SV.c (fnV 87)] [(6000,Blk.own x 63 72 n (cat QC.A M))] (fun r U=>r=.tuple #[]/\U=[(6000,Blk.own x 63 72 n (cat QC.A (cL M)))]):=by
 obtain ⟨xa,xc,rfl⟩:=hx.len
 refine aA [] ai ak Oq E hE [SV.c (.slice xa n xc),SV.c (.int .i64 (n:Nat)),SV.c (fnV 87)] [(6000,Blk.own (.slice xa n xc) 63 72 n (cat QC.A M))] _ rfl rfl fun w X β hT=>?_
 have I1:=EK (E:=(aT Tryz.prog tt Tryz.f206.ntmps w X (aF [(6000,Blk.own (.slice xa n xc) 63 72 n (cat QC.A M))] β)).toEnv) rfl (x:=.slice xa n xc) (M:=M) hnM (by omega) hx hok
 refine ⟨fun q f m=>q=0/\f=[(0,SV.c (.slice xa n xc)),(1,SV.c (.int .i64 (n:Nat))),(2,SV.c (fnV 87)),(6,SV.c (.int .i64 20)),(7,SV.c (.int .i64 0)),(8,SV.c (.int .i64 20))]/\m=[(6000,Blk.own (.slice xa n xc) 63 72 n (cat QC.A M))],0,⟨_,_,⟨rfl,rfl,rfl⟩,⟨rfl,rfl,rfl,rfl,rfl,rfl,trivial⟩,⟨.inl rfl,trivial⟩,rfl⟩,?_⟩
 rintro q f m ⟨rfl,rfl,rfl⟩
 refine ⟨fun h=>?_,fun h=>?_⟩
 ·have h:=af h;omega
 ·refine .inr (.inr (.inl ⟨[],[_,_,_,_],[_],_,[_],I1,rfl,⟨.inl rfl,trivial⟩,rfl,rfl,?_⟩))
  refine ⟨fun q f m=>q=0/\f=[(0,SV.c (.slice xa n xc)),(1,SV.c (.int .i64 (n:Nat))),(2,SV.c (fnV 87)),(6,SV.c (.int .i64 20))]/\m=[(6000,Blk.own (.slice xa n xc) 63 72 n (cat QC.A (cL M)))],0,⟨_,_,⟨rfl,rfl,rfl⟩,⟨rfl,rfl,rfl,rfl,trivial⟩,⟨.inl rfl,trivial⟩,rfl⟩,?_⟩
  rintro q f m ⟨rfl,rfl,rfl⟩
  refine ⟨fun h=>?_,fun h=>?_⟩
  ·have h:=af h;omega
  ·exact ⟨[(6000,Blk.own (.slice xa n xc) 63 72 n (cat QC.A (cL M)))],[],⟨rfl,rfl⟩,⟨.inl rfl,trivial⟩,rfl⟩
theorem GX {E:Env} (hE:E.P=Tryz.prog) {x:Value} {M:List QC} {n:Nat} (hnM:n=M.length) (hM:M.length < 20) (hx:IsL x n) (hok:∀ z∈M,z.In/\z.price.ok=true):OwnC E 152 [SV.c x,SV.c (fnV 87)] [(6000,Blk.own x 63 72 n (cat QC.A M))] (fun r U=>r=.tuple #[]/\U=[(6000,Blk.own x 63 72 n (cat QC.A (cL M)))]):=by
 obtain ⟨xa,xc,rfl⟩:=hx.len
 refine aA [] ai ak Pk E hE [SV.c (.slice xa n xc),SV.c (fnV 87)] [(6000,Blk.own (.slice xa n xc) 63 72 n (cat QC.A M))] _ rfl rfl fun w X β hT=>?_
 have I1:=Dr (E:=(aT Tryz.prog tt Tryz.f152.ntmps w X (aF [(6000,Blk.own (.slice xa n xc) 63 72 n (cat QC.A M))] β)).toEnv) rfl (x:=.slice xa n xc) (M:=M) hnM (by omega) hx hok
 refine ⟨_,fun w' _=>al Tryz.underlying26 w',?_⟩
 refine .inr (.inr (.inl ⟨[],[_,_,_],[_],_,[_],I1,rfl,⟨.inl rfl,trivial⟩,rfl,rfl,?_⟩))
 exact ⟨[(6000,Blk.own (.slice xa n xc) 63 72 n (cat QC.A (cL M)))],[],⟨rfl,rfl⟩,⟨.inl rfl,trivial⟩,rfl⟩
theorem j8 (M:List QC):(cL M).length=M.length:=by unfold cL;rw [List.length_reverse,jf]
theorem En {E:Env} (hE:E.P=Tryz.prog) {v:Value} {M:List QC} (hv:Lst E v 72 M.length (cat QC.A M)) (hn:0 < M.length) (hM:M.length < 20) (hok:∀ z∈M,z.In/\z.price.ok=true):OwnC E 86 [SV.c v,SV.c (fnV 87)] [] (fun r U=>(∃ z,(cL M)[(M.length - 1) / 2]? = some z/\r=.agg z.A)/\U=[]):=by
 refine aA [] ai ak MJ E hE [SV.c v,SV.c (fnV 87)] [] _ rfl rfl fun w X β hT=>?_
 have hv':=hv.of_old hT
 have C1:=Av rfl hv' hn (by omega)
 refine .inr (.inr (.inr ⟨[],[6000],[_],[],_,C1,rfl,trivial,rfl,trivial,?_⟩))
 rintro x U ⟨hx,rfl⟩
 refine ⟨rfl,?_⟩
 have S1:=GX (E:=(aT Tryz.prog tt Tryz.f86.ntmps w X (aF [] β)).toEnv) rfl (x:=x) (M:=M) rfl hM hx hok
 refine .inr (.inr (.inl ⟨[],[_,_],[_],_,[_],S1,rfl,⟨.inl rfl,trivial⟩,rfl,rfl,?_⟩))
 obtain ⟨z,hz⟩:∃ z,(cL M)[(M.length - 1) / 2]? = some z:=⟨_,List.getElem?_eq_getElem (by rw [j8];omega)⟩
 rcases hx with ⟨hs1,hs2⟩ | ⟨g0,c0,rfl⟩
 ·omega
 refine ⟨_,fun w' _=>al Tryz.underlying26 w',?_⟩
 have ew:IntKind.i64.wrap ((IntKind.i64.wrap ((M.length:Int) - 1)).tdiv 2)=(((M.length - 1) / 2:Nat):Int):=by
  have e1:IntKind.i64.wrap ((M.length:Int) - 1)=((M.length - 1:Nat):Int):=by rw [i64_in (by omega)];omega
  rw [e1,show ((M.length - 1:Nat):Int).tdiv 2=(((M.length - 1) / 2:Nat):Int) from (Int.ofNat_tdiv _ 2).symm]
  exact i64_in (by omega)
 have hlt:(M.length - 1) / 2 < M.length:=by omega
 have L1:=bz QC.size hz
 have j1:(M.length - 1) / 2*72+72<=(cat QC.A (cL M)).size:=by rw [Go.SX.cat_size QC.size,j8];omega
 have ZF:=z.fits
 generalize hX:cat QC.A (cL M)=XA at *
 generalize hY:z.A=ZA at *
 refine ⟨by decide,by rw [ew];omega,by rw [ew];omega,.inr ⟨6000,g0,_,M.length,_,_,_,_,rfl,rfl,(by rw [ew,dr];exact j1),ZA,(by rw [ew,dr];exact L1),ZF,?_⟩⟩
 exact ⟨[],[],⟨⟨z,hz,by rw [hY];rfl⟩,rfl⟩,trivial,rfl⟩
theorem iN (p:Nat):aL 0 ((p:Nat):Int) bZ.size=p*66:=by
 show aL 0 ((p:Nat):Int) 66=p*66
 simp [aL]
theorem B9 (r:RQ):Instr.fill (fun k=>some (k*bZ.size,bZ.size)) (madeCells bZ.zero (1*bZ.size)) [(0,.agg r.A)]=some r.A:=by kernel_rfl
theorem RQ.ext66 (r:RQ):r.A.extract 0 (0+1*66)=r.A:=by
 have:r.A.size=66:=r.A_size
 simp [this]
theorem EM:∃ q,Tryz.prog.info? 33=some q/\q.bytes=264:=jI (by kernel_rfl)
theorem sf {r s:RQ} (hr:de r=true) (hs:de s=true):(r.p*s.q).natAbs < BB ^ 32:=by
 obtain ⟨h1,h2⟩:=qg hr
 obtain ⟨h3,h4⟩:=qg hs
 rw [Int.natAbs_mul]
 have:r.p.natAbs*s.q.natAbs<=1000000000000000*1000000:=Nat.mul_le_mul h2 h3
 exact Nat.lt_of_le_of_lt this (by decide)
theorem Co (a b:Int):decide (dp a b > 0)=decide (dp b a < 0):=by
 rw [decide_eq_decide]
 unfold dp
 by_cases h1:a < b
 ·rw [if_pos h1,if_neg (show ¬ b < a by omega),if_pos h1];simp
 ·by_cases h2:b < a
  ·rw [if_neg h1,if_pos h2,if_pos h2];simp
  ·rw [if_neg h1,if_neg h2,if_neg h2,if_neg h1]
theorem Es {α:Type} {g:α->Array Value} {s:Nat} {E:VE} (hE:VOk E) {b o i j:Nat} {xs:List α} {x:α} {ty:TypeId} {ti:TI} {B:Array Value} (h:∀ w,OldW E.toEnv w->∀ j u,(cat g xs)[j]? = some u->w.cell? ⟨b,o+j,none⟩=some u) (hg:∀ x,(g x).size=s) (hx:xs[i]? = some x) (hi:E.tt ty=some ti) (hr:ti.row=true) (hj:j+ti.size<=s) (hB:(g x).extract j (j+ti.size)=B) {p:Nat} (hp:p=o+i*s+j):bB E.toEnv (Instr.loadAt ty (.pointer (some ⟨b,p,none⟩))) (.agg B):=by
 have hlt:=(List.getElem?_eq_some_iff.1 hx).1
 have hm:(i+1)*s<=xs.length*s:=Nat.mul_le_mul_right s hlt
 rw [Nat.add_mul,Nat.one_mul] at hm
 have e1:(cat g xs).extract (i*s+j) (i*s+j+ti.size)=B:=by
  rw [<- hB,<- bz hg hx,Array.extract_extract]
  congr 1
  rw [Nat.min_eq_left (by omega),Nat.add_assoc]
 have:=t6 hE (off:=i*s+j) h hi hr (by rw [Go.SX.cat_size hg];omega) (p:=p) (by omega)
 rw [e1] at this
 exact this
def cM (L:List QC) (i:Nat):List RQ:=((L.take i).filter (bV L)).map QC.price
theorem Jm {E:Env} (hE:E.P=Tryz.prog) {v:Value} {L:List QC} (hv:Lst E v 72 L.length (cat QC.A L)) (hn:0 < L.length) (hM:L.length < 20) (hok:∀ z∈L,z.In/\de z.price=true):OwnC E 223 [SV.c v] [] (fun r U=>r=.agg (cd L).A/\U=[]):=by
 refine aA [] ai ak I9 E hE [SV.c v] [] _ rfl rfl fun w X β hT=>?_
 have hv':=hv.of_old hT
 obtain ⟨a,cap,rfl,hc,h4⟩:=id hv'.shape
 obtain ⟨b,o,rfl,h5⟩:=h4 hn
 obtain ⟨y0,hy0⟩:∃ y,L[0]? = some y:=⟨_,List.getElem?_eq_getElem hn⟩
 have hE':VOk (aT Tryz.prog tt Tryz.f223.ntmps w X (aF [] β)):=ai
 have L0:=aW hE' h5 QC.size hy0 y0.g2 (ty:=9) (ti:=ti9) rfl rfl (p:=aL o 0 gg.size+2) (IM o)
 have ec:dB L=y0.cur:=by
  unfold dB
  cases L with
  | nil=>cases hy0
  | cons z0 r=>simp at hy0;subst hy0;rfl
 refine ⟨fun q f m=>∃ (i:Nat) (y:Value) (N:Nat),q=L.length - i/\i<=L.length/\N=(cM L i).length/\IsL y N/\f=[(0,SV.c (.slice (some ⟨b,o,none⟩) L.length cap)),(2,SV.ptr 2 0),(3,SV.c y),(4,SV.c (.int .i64 (i:Nat)))]/\m=[(8000,Blk.own y 33 66 N (cat RQ.A (cA ltP (cM L i)).reverse)),(2,Blk.row 33 66 aN.A)],L.length,⟨_,_,⟨0,.slice none 0 0,0,by omega,by omega,rfl,.nil,rfl,rfl⟩,⟨rfl,rfl,rfl,rfl,trivial⟩,⟨.inr ⟨rfl,rfl,rfl⟩,congrArg (fun A=>some (Blk.row 33 66 A)) tg.symm,trivial⟩,rfl⟩,?_⟩
 rintro q f m ⟨i,y,N,rfl,hi,hN,hy,rfl,rfl⟩
 refine ⟨_,fun w' _=>al Tryz.underlying26 w',fun h=>?_,fun h=>?_⟩
 ·have h:i < L.length:=by have:=af h;omega
  obtain ⟨z,hz⟩:∃ z,L[i]? = some z:=⟨_,List.getElem?_eq_getElem h⟩
  have L2:=aW hE' h5 QC.size hz z.g2 (ty:=9) (ti:=ti9) rfl rfl (p:=o+((i:Nat):Int).toNat*72+2) rfl
  refine ⟨by omega,by omega,.inl ⟨_,L2,by decide,by omega,.inl ⟨_,L0,by kernel_rfl,fun c=>?_,fun c=>?_⟩⟩⟩
  ·have c:(!((S z.cur).toList == (S y0.cur).toList))=true:=c
   rw [dn] at c
   have c:bV L z=false:=by rw [bV,ec];simpa using c
   have e1:cM L (i+1)=cM L i:=by
    unfold cM
    rw [List.take_add_one,hz,List.filter_append]
    simp [c]
   exact ⟨L.length - (i+1),_,_,by omega,⟨i+1,y,N,rfl,by omega,by rw [e1];exact hN,hy,rfl,rfl⟩,⟨rfl,rfl,rfl,am (ar (by omega)),trivial⟩,⟨.inl (bw (by rw [e1])),rfl,trivial⟩,rfl⟩
  ·have c:(!((S z.cur).toList == (S y0.cur).toList))=false:=c
   rw [dn] at c
   have c:bV L z=true:=by rw [bV,ec];simpa using c
   have e1:cM L (i+1)=cM L i++[z.price]:=by
    unfold cM
    rw [List.take_add_one,hz,List.filter_append]
    simp [c]
   have hzo:=hok z (List.mem_of_getElem? hz)
   have hRok:∀ r∈cA ltP (cM L i),r.In/\de r=true:=fun r hr=>by
    rw [nP] at hr
    unfold cM at hr
    obtain ⟨q,hq,rfl⟩:=List.mem_map.1 hr
    have:=hok q (List.mem_of_mem_take (List.mem_filter.1 hq).1)
    exact ⟨this.1.price,this.2⟩
   have hNl:N<=i:=by
    rw [hN];unfold cM
    rw [List.length_map]
    exact Nat.le_trans (List.length_filter_le _ _) (by simp;omega)
   have hRl:(cA ltP (cM L i)).length=N:=by rw [jf];exact hN.symm
   have e2:cA ltP (cM L (i+1))=dW ltP z.price (cA ltP (cM L i)):=by rw [e1,lS]
   have e3:(cM L (i+1)).length=N+1:=by rw [e1,List.length_append,<- hN];rfl
   generalize cA ltP (cM L i)=R at *
   have L3:=Es hE' h5 QC.size hz (j:=4) (ty:=33) (ti:=bZ) rfl rfl (by decide) z.gpri (p:=o+((i:Nat):Int).toNat*72+4) rfl
   have zin:=hzo.1.price
   have zpo:=hzo.2
   generalize z.price=P at *
   have F1:=B9 P
   have F2:=P.A_fits.one
   have F3:=P.ext66
   have F4:P.A.size=1*66:=P.A_size
   have F5:cat RQ.A R.reverse++P.A=cat RQ.A (R.reverse++[P]):=by rw [cat_append,fB]
   have K:=fun (r:RQ) (hr:r∈R)=>mc (hRok r hr).1 zin (sf (hRok r hr).2 zpo) (sf zpo (hRok r hr).2)
   refine ⟨by omega,by omega,.inl ⟨_,L3,.inl ⟨by decide,by decide,_,F1,F4,by decide,8000,N,_,.inl rfl,by decide,F2,F4,_,F3,?_⟩⟩⟩
   obtain ⟨q,hq,hb⟩:=EM
   refine ⟨by omega,by unfold maxLen;omega,⟨q,hq,by rw [hb];omega⟩,trivial,fun g2 cap2=>?_⟩
   refine ⟨_,fun w' _=>al Tryz.underlying120 w',?_⟩
   have ew:IntKind.i64.wrap (((N+1:Nat):Int) - 1)=((N:Nat):Int):=by rw [i64_in (by omega)];omega
   refine ⟨fun q f m=>∃ (r1 r2:List RQ) (M2:List RQ),q=r2.length/\r1++r2=R/\dW ltP P R=r1++dW ltP P r2/\M2=r2.reverse++P :: r1.reverse/\f=[(0,SV.c (.slice (some ⟨b,o,none⟩) L.length cap)),(2,SV.ptr 2 0),(3,SV.c (.slice (some ⟨g2,0,none⟩) (N+1) cap2)),(4,SV.c (.int .i64 (i:Nat))),(5,SV.c (.int .i64 (r2.length:Nat)))]/\m=[(8000,Blk.own (.slice (some ⟨g2,0,none⟩) (N+1) cap2) 33 66 (N+1) (cat RQ.A M2)),(2,Blk.row 33 66 aN.A)],N,⟨_,_,⟨[],R,_,hRl.symm,rfl,rfl,rfl,rfl,rfl⟩,⟨rfl,rfl,rfl,rfl,am (by rw [hRl];exact ew),trivial⟩,⟨.inl (bw F5),rfl,trivial⟩,rfl⟩,?_⟩
   rintro q f m ⟨r1,r2,M2,rfl,hr12,hins,hM2,rfl,rfl⟩
   have hl12:r1.length+r2.length=N:=by have:=congrArg List.length hr12;simp at this;omega
   have hlen:M2.length=N+1:=by rw [hM2];simp;omega
   cases r2 with
   | nil =>
    have e4:M2=(dW ltP P R).reverse:=by rw [hins,vX,hM2];simp
    refine ⟨fun c=>absurd c (by decide),fun _=>⟨by kernel_rfl,nofun,fun _=>?_⟩⟩
    exact ⟨L.length - (i+1),_,_,by omega,⟨i+1,_,N+1,rfl,by omega,e3.symm,.some,rfl,rfl⟩,⟨rfl,rfl,rfl,am (ar (by omega)),trivial⟩,⟨.inl (bw (by rw [e2,e4])),rfl,trivial⟩,rfl⟩
   | cons y r2 =>
    refine ⟨fun _=>?_,fun c=>absurd c (by simp)⟩
    have hl12:r1.length+r2.length+1=N:=by simp at hl12;omega
    have hlt:r2.length+1 < N+1:=by omega
    have ew2:IntKind.i64.wrap (((y :: r2).length:Int) - 1)=((r2.length:Nat):Int):=by
     rw [List.length_cons,i64_in (by omega)];omega
    have hM3:M2=r2.reverse++y :: P :: r1.reverse:=by rw [hM2];simp
    have hA:r2.reverse.length=r2.length:=List.length_reverse
    have g1:M2[r2.length]? = some y:=by rw [hM3,<- hA];exact Gj _ _ _
    have g2':M2[r2.length+1]? = some P:=by rw [hM3,<- hA];exact AJ _ _ _ _
    have hyR:y∈R:=by rw [<- hr12];simp
    have K1:=K y hyR
    have hca:=Co (y.p*P.q) (P.p*y.q)
    have L1:=bz RQ.A_size g1
    have L2:=bz RQ.A_size g2'
    have hsw:((M2.set (r2.length+1) y).set r2.length P)=r2.reverse++P :: y :: r1.reverse:=by
     rw [hM3,<- hA];exact rV _ _ _ _
    have st1:bh (cat RQ.A M2) (r2.length*66) P.A.toList=cat RQ.A (M2.set r2.length P):=nz RQ.A_size (by omega) P
    have st2:bh (cat RQ.A (M2.set r2.length P)) ((r2.length+1)*66) y.A.toList=cat RQ.A ((M2.set r2.length P).set (r2.length+1) y):=nz RQ.A_size (by rw [List.length_set];omega) y
    have s1:(cat RQ.A M2).size=(N+1)*66:=by rw [Go.SX.cat_size RQ.A_size,hlen]
    have s2:(cat RQ.A (M2.set r2.length P)).size=(N+1)*66:=by rw [Go.SX.cat_size RQ.A_size,List.length_set,hlen]
    rw [List.set_comm _ _ (by omega),hsw] at st2
    have j1:r2.length*66+66<=(cat RQ.A M2).size:=by rw [s1];omega
    have j2:(r2.length+1)*66+66<=(cat RQ.A M2).size:=by rw [s1];omega
    have j3:(r2.length+1)*66+66<=(cat RQ.A (M2.set r2.length P)).size:=by rw [s2];omega
    have YF:=y.A_fits
    have PF:=P.A_fits
    generalize hX:cat RQ.A M2=XA at *
    generalize hX2:cat RQ.A (M2.set r2.length P)=XB at *
    generalize hY:P.A=PA at *
    generalize hY2:y.A=YA at *
    refine ⟨by rw [ew2];omega,by rw [ew2];omega,.inr ⟨8000,g2,_,N+1,_,_,_,_,rfl,rfl,(by rw [ew2,iN];exact j1),YA,(by rw [ew2,iN];exact L1),?_⟩⟩
    refine ⟨by omega,by rw [List.length_cons];omega,.inr ⟨8000,g2,_,N+1,_,_,_,_,rfl,rfl,(by rw [List.length_cons,iN];exact j2),PA,(by rw [List.length_cons,iN];exact L2),.inl ⟨_,K1,by kernel_rfl,fun c=>?_,fun c=>?_⟩⟩⟩
    ·have c:decide (dp (y.p*P.q) (P.p*y.q) > 0)=true:=c
     have hl:ltP P y=true:=hca.symm.trans c
     refine ⟨by omega,by rw [List.length_cons];omega,.inr ⟨8000,g2,_,N+1,_,_,_,_,rfl,rfl,(by rw [List.length_cons,iN];exact j2),PA,(by rw [List.length_cons,iN];exact L2),?_⟩⟩
     refine ⟨by rw [ew2];omega,by rw [ew2];omega,.inr ⟨8000,g2,_,N+1,_,_,_,_,rfl,rfl,(by rw [ew2,iN];exact j1),YA,(by rw [ew2,iN];exact L1),?_⟩⟩
     refine ⟨by rw [ew2];omega,by rw [ew2];omega,⟨8000,g2,_,N+1,_,_,_,_,rfl,rfl,(by rw [ew2,iN];exact j1),PF,XB,(by rw [ew2,iN];exact st1),?_⟩⟩
     refine ⟨by omega,by rw [List.length_cons];omega,⟨8000,g2,_,N+1,_,_,_,_,rfl,rfl,(by rw [List.length_cons,iN];exact j3),YF,cat RQ.A (r2.reverse++P :: y :: r1.reverse),(by rw [List.length_cons,iN];exact st2),?_⟩⟩
     refine ⟨by kernel_rfl,r2.length,_,_,by simp,⟨r1++[y],r2,_,rfl,by rw [<- hr12];simp,by rw [hins,Ad hl];simp,?_,rfl,rfl⟩,⟨rfl,rfl,rfl,rfl,am ew2,trivial⟩,⟨.inl rfl,rfl,trivial⟩,rfl⟩
     simp
    ·have c:decide (dp (y.p*P.q) (P.p*y.q) > 0)=false:=c
     have hl:ltP P y=false:=hca.symm.trans c
     have e4:M2=(dW ltP P R).reverse:=by rw [hins,st hl,hM2];simp
     exact ⟨L.length - (i+1),_,_,by omega,⟨i+1,_,N+1,rfl,by omega,e3.symm,.some,rfl,rfl⟩,⟨rfl,rfl,rfl,am (ar (by omega)),trivial⟩,⟨.inl (bw (by rw [<- hX,e2,e4])),rfl,trivial⟩,rfl⟩
 ·have h:i=L.length:=by have:=ag h;omega
  have e1:cM L i=(eG L).map QC.price:=by unfold cM;rw [List.take_of_length_le (by omega)];rfl
  have hpos:0 < N:=by
   rw [hN,e1,List.length_map]
   have:y0∈eG L:=by
    rw [qZ,List.mem_filter]
    exact ⟨List.mem_of_getElem? hy0,decide_eq_true ec.symm⟩
   exact List.length_pos_of_mem this
  have hNl:N<=i:=by
   rw [hN];unfold cM
   rw [List.length_map]
   exact Nat.le_trans (List.length_filter_le _ _) (by simp;omega)
  rw [e1] at hN ⊢
  have hRl:(cA ltP ((eG L).map QC.price)).length=N:=by rw [jf];exact hN.symm
  obtain ⟨r,hr⟩:∃ r,(cA ltP ((eG L).map QC.price)).reverse[(N - 1) / 2]? = some r:=⟨_,List.getElem?_eq_getElem (by rw [List.length_reverse,hRl];omega)⟩
  have hyd:cd L=r:=by unfold cd J8;rw [hRl,hr];rfl
  have hrl:(cA ltP ((eG L).map QC.price)).reverse.length=N:=by rw [List.length_reverse,hRl]
  rw [hyd]
  generalize (cA ltP ((eG L).map QC.price)).reverse=R at *
  have ew:IntKind.i64.wrap ((IntKind.i64.wrap ((N:Int) - 1)).tdiv 2)=(((N - 1) / 2:Nat):Int):=by
   have e1:IntKind.i64.wrap ((N:Int) - 1)=((N - 1:Nat):Int):=by rw [i64_in (by omega)];omega
   rw [e1,show ((N - 1:Nat):Int).tdiv 2=(((N - 1) / 2:Nat):Int) from (Int.ofNat_tdiv _ 2).symm]
   exact i64_in (by omega)
  have hlt:(N - 1) / 2 < N:=by omega
  have L1:=bz RQ.A_size hr
  have j1:(N - 1) / 2*66+66<=(cat RQ.A R).size:=by rw [Go.SX.cat_size RQ.A_size];omega
  have RF:=r.A_fits
  rcases hy with ⟨hs1,hs2⟩ | ⟨g0,c0,rfl⟩
  ·omega
  generalize hX:cat RQ.A R=XA at *
  generalize hY:r.A=RA at *
  refine ⟨_,fun w' _=>al Tryz.underlying120 w',by decide,by rw [ew];omega,by rw [ew];omega,.inr ⟨8000,g0,_,N,_,_,_,_,rfl,rfl,(by rw [ew,iN];exact j1),RA,(by rw [ew,iN];exact L1),RF,?_⟩⟩
  exact ⟨[],[],⟨rfl,rfl⟩,trivial,rfl⟩
theorem kM {xs:List QC} {k:Int} {p:PL} {ins:List UInt8} {day:Int} {z:QC} (hin:∀ y∈xs,y.In) (hz:z∈aZ xs k p ins day):z.In/\de z.price=true/\z.src≠[]/\aP p=true:=by
 unfold aZ at hz
 split at hz
 ·rename_i h0
  obtain ⟨h1,-⟩:=s6 hz
  obtain ⟨h2,h3,h4⟩:=rP h1
  obtain ⟨h5,-⟩:=oO h3 h4
  refine ⟨hin z h2,h5,?_,?_⟩
  ·have:=(lO (kb h3).1).1
   intro h6;rw [h6] at this;cases this
  ·unfold fE at h0
   split at h0
   ·rename_i h7;exact absurd h0 h7
   ·split at h0
    ·rename_i h7;exact h7
    ·cases h0
 ·cases hz
theorem sY {xs:List QC} {k:Int} {p:PL} {ins:List UInt8} {day:Int}:(aZ xs k p ins day).length<=8:=by
 unfold aZ
 split
 ·rename_i h0
  unfold fE at h0
  split at h0
  ·rename_i h7;exact absurd h0 h7
  ·split at h0
   ·rename_i h7
    unfold aP at h7
    simp only [Bool.and_eq_true,decide_eq_true_eq] at h7
    exact Nat.le_trans (oC _ _ _ _ _) h7.1.2
   ·cases h0
 ·simp
theorem se {p:PL} (h:aP p=true):gw p.tol=true/\cZ p.tol 0 1=true:=by
 unfold aP at h
 simp only [Bool.and_eq_true] at h
 exact h.2.2.1
theorem uH {L:List QC} {z:QC} (h:(cL (eG L))[((eG L).length - 1) / 2]? = some z):cd L=z.price/\z∈L:=by
 have e1:cA ltP ((eG L).map QC.price)=(cA ltQ (eG L)).map QC.price:=(Be QC.price (fun _ _=>rfl) _).symm
 have e2:(cA ltQ (eG L)).length=(eG L).length:=jf _ _
 refine ⟨?_,?_⟩
 ·unfold cd J8
  rw [e1,List.length_map,e2,<- List.map_reverse,List.getElem?_map]
  unfold cL at h
  rw [h];rfl
 ·have:=List.mem_of_getElem? h
  unfold cL at this
  rw [List.mem_reverse,nP] at this
  exact (List.mem_filter.1 this).1
theorem yY {L:List QC} (h:0 < L.length):∃ z,(cL (eG L))[((eG L).length - 1) / 2]? = some z/\0 < (eG L).length:=by
 have hp:0 < (eG L).length:=by
  cases L with
  | nil=>cases h
  | cons y r =>
   have:y∈eG (y :: r):=by
    rw [qZ,List.mem_filter]
    exact ⟨by simp,decide_eq_true rfl⟩
   exact List.length_pos_of_mem this
 exact ⟨_,List.getElem?_eq_getElem (by rw [j8];omega),hp⟩
theorem ME:2000000000000000000000*100000000000000 < BB ^ 32:=by decide
theorem MD:100000000000000000000000*1000000000000 < BB ^ 32:=by decide
theorem sm {L:List QC} {tol:RQ} (ht:tol.In) (h1:gw tol=true) (h2:cZ tol 0 1=true) (hL:∀ z∈L,z.In/\de z.price=true) {z:QC} (hz:z∈L):aw Tryz.prog 88 [SV.c (.agg z.price.A),SV.c (.agg (cd L).A),SV.c (.agg tol.A)] (.bool (qv z.price (cd L) tol))/\aw Tryz.prog 224 [SV.c (.agg z.price.A),SV.c (.agg (cd L).A),SV.c (.agg tol.A)] (.bool (qv z.price (cd L) tol))/\de (cd L)=true:=by
 obtain ⟨y,hy,-⟩:=yY (L:=L) (List.length_pos_of_mem hz)
 obtain ⟨e1,hyL⟩:=uH hy
 obtain ⟨k1,k2⟩:=hL z hz
 obtain ⟨k3,k4⟩:=hL y hyL
 rw [e1]
 obtain ⟨o1,o2,o3,b1,b2,b3,b4⟩:=Hq k2 k4 h1 h2
 refine ⟨J4 k1.price k3.price ht o2 o3,J5 k1.price k3.price ht ?_ ?_,k4⟩
 ·rw [Int.natAbs_mul]
  exact Nat.lt_of_le_of_lt (Nat.mul_le_mul b1 b4) ME
 ·rw [Int.natAbs_mul]
  exact Nat.lt_of_le_of_lt (Nat.mul_le_mul b3 b2) MD
theorem CH.size (h:CH) (v:Value):(h.A v).size=70:=by simp [CH.A,RQ.A_size]
theorem nw:jL.A (.slice none 0 0)=Li.zero:=by kernel_rfl
theorem CH.g0 (h:CH) (v:Value):(h.A v)[0]? = some (.string (S h.src)):=by kernel_rfl
theorem CH.g4 (h:CH) (v:Value):(h.A v)[69]? = some v:=by
 have h1:h.A v=((#[.string (S h.src),.string (S h.cur),.int .i64 h.day]:Array Value)++h.price.A)++#[v]:=by simp [CH.A]
 have h2:((#[.string (S h.src),.string (S h.cur),.int .i64 h.day]:Array Value)++h.price.A).size=69:=by simp [RQ.A_size]
 rw [h1,Array.getElem?_append_right (by omega),h2]
 rfl
theorem CH.fits (h:CH) {a:Option Addr} {n c:Nat}:Fits (h.A (.slice a n c)) 70:=⟨h.size _,by
 rw [CH.A,Array.all_append,Array.all_append,h.price.A_fits.one]
 simp [Value.oneCell']⟩
theorem CH.set0 (h:CH) (v:Value) (l:List UInt8):(h.A v).setIfInBounds (0+0) (.string (S l))=({ h with src:=l }:CH).A v:=by kernel_rfl
theorem CH.set1 (h:CH) (v:Value) (l:List UInt8):(h.A v).setIfInBounds (0+1) (.string (S l))=({ h with cur:=l }:CH).A v:=by kernel_rfl
theorem CH.set2 (h:CH) (v:Value) (n:Int):(h.A v).setIfInBounds (0+2) (.int .i64 n)=({ h with day:=n }:CH).A v:=by kernel_rfl
theorem CH.set3 (h:CH) (v:Value) (r:RQ):bh (h.A v) (0+3) r.A.toList=({ h with price:=r }:CH).A v:=by kernel_rfl
theorem CH.set4 (h:CH) (v u:Value):(h.A v).setIfInBounds (0+69) u=h.A u:=by kernel_rfl
theorem Dz {E:Env} (hE:E.P=Tryz.prog) (a:QC):bB E (Instr.field 63 (.agg a.A) 4) (.agg a.price.A):=fun w _=>by
 rw [hE]
 have h:=cv (P:=Tryz.prog) mv rfl a.A 4 w
 have e:a.A.extract 4 (4+bZ.size)=a.price.A:=a.gpri
 rw [e] at h
 simp [Instr.field,Sem.run_bind,run_underlying Tryz.underlying63,asAgg,h]
theorem Cp {E:Env} (hE:E.P=Tryz.prog) {x:Value} {n:Nat} {L:List QC} (_hn:n=L.length) (h0:0 < n) (hm:n<=1000000000):OwnC E 84 [SV.c x] [(4000,Blk.own x 63 72 n (cat QC.A L))] (fun r U=>(IsL r n/\Az r)/\U=[(4000,Blk.own x 63 72 n (cat QC.A L)),(6000,Blk.own r 63 72 n (cat QC.A L))]):=by
 have h1:(cat QC.A L).all (·.oneCell')=true:=Go.SX.cat_all (fun a=>a.one) L
 refine (OwnC.caps (OwnC.with_own (k:=4000) (v:=x) (e:=63) (sz:=72) (n:=n) (A:=cat QC.A L) (pre:=[]) rfl rfl h1 (by rw [hE];exact ML.enters) (fun E0 h hl=>Av (h.trans hE) hl h0 hm) (fun x U h=>by rw [h.2];rfl))).mono ?_
 rintro y U ⟨⟨U0,⟨h1,rfl⟩,rfl⟩,h3⟩
 exact ⟨⟨h1,h3 6000 _ _ _ _ _ rfl⟩,rfl⟩
theorem yH {E:Env} (hE:E.P=Tryz.prog) {x s:Value} {L M:List QC} {n l:Nat} (hnM:n=M.length) (hl:l=L.length) (hM:M.length<=1000) (hn:0 < L.length) (hx:IsL x n) (hcap:Az x):OwnC E 83 [SV.c x,SV.clo 85 [7000]] [(4000,Blk.own s 63 72 l (cat QC.A L)),(7000,Blk.row 26 1 #[s]),(6000,Blk.own x 63 72 n (cat QC.A M))] (fun r U=>∃ m,m=(M.filter (bV L)).length/\IsL r m/\U=[(4000,Blk.own s 63 72 l (cat QC.A L)),(7000,Blk.row 26 1 #[s]),(6000,Blk.own r 63 72 m (cat QC.A (M.filter (bV L))))]):=by
 subst hl
 have h1:(cat QC.A L).all (·.oneCell')=true:=Go.SX.cat_all (fun a=>a.one) L
 refine (OwnC.with_own (k:=4000) (v:=s) (e:=63) (sz:=72) (n:=L.length) (A:=cat QC.A L) (pre:=[(7000,Blk.row 26 1 #[s]),(6000,Blk.own x 63 72 n (cat QC.A M))]) rfl rfl h1 (by rw [hE];exact MM.enters) (fun E0 h hl=>FD (h.trans hE) hnM hM hl hn hx hcap) (fun x U ⟨m,_,_,hU⟩=>by rw [hU];rfl)).mono ?_
 rintro y U ⟨U0,⟨m,h1,h2,rfl⟩,rfl⟩
 exact ⟨m,h1,h2,rfl⟩
theorem yb {E:Env} (hE:E.P=Tryz.prog) {x:Value} {M:List QC} {n:Nat} (hnM:n=M.length) (hn:0 < n) (hM:n < 20) (hok:∀ z∈M,z.In/\z.price.ok=true):OwnC E 86 [SV.c x,SV.c (fnV 87)] [(6000,Blk.own x 63 72 n (cat QC.A M))] (fun r U=>(∃ z,(cL M)[(M.length - 1) / 2]? = some z/\r=.agg z.A)/\U=[(6000,Blk.own x 63 72 n (cat QC.A M))]):=by
 subst hnM
 have h1:(cat QC.A M).all (·.oneCell')=true:=Go.SX.cat_all (fun a=>a.one) M
 refine (OwnC.with_own (k:=6000) (v:=x) (e:=63) (sz:=72) (n:=M.length) (A:=cat QC.A M) (pre:=[]) rfl rfl h1 (by rw [hE];exact MJ.enters) (fun E0 h hl=>En (h.trans hE) hl hn hM hok) (fun x U h=>by rw [h.2];rfl)).mono ?_
 rintro y U ⟨U0,⟨h1,rfl⟩,rfl⟩
 exact ⟨h1,rfl⟩
def bi (L:List QC) (tol:RQ) (i:Nat):Option QC:=(L.take i).find? (cH (dB L) (cd L) tol)
def jh (L:List QC) (tol:RQ) (i:Nat):List (List UInt8):=((L.take i).filter (fun q=>!cH (dB L) (cd L) tol q)).map QC.src
theorem u6 (L:List QC) (tol:RQ) (i:Nat):(jh L tol i).length<=i:=by
 unfold jh
 rw [List.length_map]
 exact Nat.le_trans (List.length_filter_le _ _) (by simp;omega)
theorem gm {L:List QC} {tol:RQ} {i:Nat} {z:QC} (hz:L[i]? = some z) (h:cH (dB L) (cd L) tol z=false):jh L tol (i+1)=jh L tol i++[z.src]:=by
 unfold jh
 rw [List.take_add_one,hz,List.filter_append]
 simp [h]
theorem r7 {L:List QC} {tol:RQ} {i:Nat} {z:QC} (hz:L[i]? = some z) (h:cH (dB L) (cd L) tol z=true):jh L tol (i+1)=jh L tol i:=by
 unfold jh
 rw [List.take_add_one,hz,List.filter_append]
 simp [h]
theorem fK {L:List QC} {tol:RQ} {i:Nat} {z:QC} (hz:L[i]? = some z) (h:cH (dB L) (cd L) tol z=false):bi L tol (i+1)=bi L tol i:=by
 unfold bi
 rw [List.take_add_one,hz,List.find?_append]
 simp [h]
theorem oK {L:List QC} {tol:RQ} {i:Nat} {z:QC} (hz:L[i]? = some z) (h:cH (dB L) (cd L) tol z=true):bi L tol (i+1)=some ((bi L tol i).getD z):=by
 unfold bi
 rw [List.take_add_one,hz,List.find?_append]
 simp only [Option.toList,List.find?_cons,h]
 cases List.find? (cH (dB L) (cd L) tol) (List.take i L)<;>rfl
theorem CH.fill4 (h:CH) (v:Value) (z:QC):∃ A1 A2 A3,(h.A v).setIfInBounds (0+0) (.string (S z.src))=A1/\A1.setIfInBounds (0+1) (.string (S z.cur))=A2/\A2.setIfInBounds (0+2) (.int .i64 z.day)=A3/\bh A3 (0+3) z.price.A.toList=(fk (some z)).A v :=
 ⟨_,_,_,CH.set0 h v z.src,CH.set1 _ v z.cur,CH.set2 _ v z.day,CH.set3 _ v z.price⟩
theorem kJ (l:List UInt8):Instr.fill (fun k=>some (k*ti9.size,ti9.size)) (madeCells ti9.zero (1*ti9.size)) [(0,.string (S l))]=some (cP l):=by kernel_rfl
theorem mC (l:List UInt8):(cP l).extract 0 (0+1*1)=cP l:=rfl
theorem ft (l:List UInt8):(cP l).all (·.oneCell')=true:=by simp [cP,Value.oneCell']
theorem m8:∃ q,Tryz.prog.info? 9=some q/\q.bytes=16:=jI (by kernel_rfl)
def yV (xs:List QC) (k:Int) (p:PL) (ins:List UInt8) (day:Int) (x:Value) (U:aE):Prop:=∃ s n,n=(j9 (aZ xs k p ins day) p.tol).length/\x=.tuple #[.agg ((cB (aZ xs k p ins day) p.tol).A s),.int .i64 (iV xs k p ins day)]/\IsL s n/\U=[(9000,Blk.own s 9 1 n (cat cP (j9 (aZ xs k p ins day) p.tol)))]
theorem mI {xs:List QC} {k:Int} {p:PL} {ins:List UInt8} {day:Int} {e:Int} (h:aZ xs k p ins day=[]) (he:iV xs k p ins day=e):yV xs k p ins day (cT [.agg (jL.A (.slice none 0 0)),.int .i64 e]) [(9000,Blk.own (.slice none 0 0) 9 1 0 #[])]:=⟨.slice none 0 0,0,by rw [h];rfl,by rw [h,he];rfl,.nil,by rw [h];rfl⟩
theorem sZ {xs:List QC} {k:Int} {p:PL} {ins:List UInt8} {day:Int} (h:fE xs k p day≠0):aZ xs k p ins day=[]:=by unfold aZ;rw [if_neg h]
theorem uZ {E:Env} (hE:E.P=Tryz.prog) {v:Value} {k:Int} {xs:List QC} (hv:Lst E v 72 xs.length (cat QC.A xs)) (hn:xs.length<=1000000000000) (hin:∀ y∈xs,y.In) {vp:Value} {p:PL} (hp:Lst E vp 1 p.srcs.length (cat cP p.srcs)) (hpn:p.srcs.length<=1000000000000000) (hpin:p.In) (ins:List UInt8) (day:Int):OwnC E 33 [SV.c v,SV.c (.agg (p.A vp)),SV.c (.int .i64 k),SV.c (.string (S ins)),SV.c (.int .i64 day)] [] (yV xs k p ins day):=by
 refine aA [] ai ak R4 E hE [SV.c v,SV.c (.agg (p.A vp)),SV.c (.int .i64 k),SV.c (.string (S ins)),SV.c (.int .i64 day)] [] _ rfl rfl fun w X β hT=>?_
 have hv':=hv.of_old hT
 have hp':=hp.of_old hT
 have C1:=KE (k:=k) rfl hv' hn hin hp' hpn hpin ins day
 obtain ⟨a,cap,rfl,hc,h4⟩:=id hp'.shape
 have F1:=p.size (.slice a p.srcs.length cap)
 have G1:=p.g1 (.slice a p.srcs.length cap)
 generalize p.A (.slice a p.srcs.length cap)=PA at *
 refine ⟨F1,?_⟩
 refine .inr (.inr (.inr ⟨[],[4000],[_,_,_,_,_],[],_,C1,rfl,trivial,rfl,trivial,?_⟩))
 rintro r U ⟨s,n,hsn,rfl,hs,rfl⟩
 obtain ⟨sa,sc,rfl⟩:=hs.len
 have hlen:=sY (xs:=xs) (k:=k) (p:=p) (ins:=ins) (day:=day)
 have hmem:=fun z hz=>kM (k:=k) (p:=p) (ins:=ins) (day:=day) (z:=z) hin hz
 refine ⟨rfl,by decide,rfl,#[.slice sa n sc],rfl,fun c1=>?_,fun c1=>?_⟩
 ·have c1:(fE xs k p day != 0)=true:=c1
  have c1:fE xs k p day≠0:=by simpa using c1
  exact ⟨jL.A (.slice none 0 0),(by kernel_rfl),CH.fits _,[(9000,Blk.own (.slice none 0 0) 9 1 0 #[])],[],mI (sZ c1) (by unfold iV;rw [if_pos c1]),⟨.inr ⟨rfl,rfl,rfl⟩,trivial⟩,rfl⟩
 have c1:(fE xs k p day != 0)=false:=c1
 have c1:fE xs k p day=0:=by simpa using c1
 refine ⟨_,rfl,_,fun w' _=>al Tryz.underlying26 w',fun c2=>?_,fun c2=>?_⟩
 ·have c2:((n:Int) == 0)=true:=c2
  have c2:n=0:=by have:=af c2;omega
  have e1:aZ xs k p ins day=[]:=List.eq_nil_of_length_eq_zero (by omega)
  exact ⟨jL.A (.slice none 0 0),(by kernel_rfl),CH.fits _,[(9000,Blk.own (.slice none 0 0) 9 1 0 #[])],[],mI e1 (by unfold iV;rw [if_neg (by rw [c1];decide),if_pos e1]),⟨.inr ⟨rfl,rfl,rfl⟩,trivial⟩,rfl⟩
 have c2:((n:Int) == 0)=false:=c2
 have c2:n≠0:=fun h=>by rw [h] at c2;cases c2
 have eE:iV xs k p ins day=0:=by
  unfold iV
  rw [if_neg (by rw [c1];decide),if_neg]
  intro h;rw [h] at hsn;exact c2 hsn
 unfold yV
 rw [eE,c1]
 clear eE
 generalize aZ xs k p ins day=L at *
 have K1:=Cp (E:=(aT Tryz.prog tt Tryz.f33.ntmps w X (aF [] β)).toEnv) rfl (x:=.slice sa n sc) (L:=L) hsn (by omega) (by omega)
 refine ⟨_,rfl,.inr (.inr (.inr ⟨[],[6000],[_],[_],_,K1,rfl,⟨.inl rfl,trivial⟩,rfl,trivial,?_⟩))⟩
 rintro y U ⟨⟨hy,hycap⟩,rfl⟩
 refine ⟨rfl,?_⟩
 have D1:=yH (E:=(aT Tryz.prog tt Tryz.f33.ntmps w X (aF [] β)).toEnv) rfl (x:=y) (s:=.slice sa n sc) (L:=L) (M:=L) hsn hsn (by omega) (by omega) hy hycap
 refine .inr (.inr (.inr ⟨[(7000,12)],[],[_,_],[_,_,_],_,D1,rfl,⟨.inl rfl,rfl,.inl rfl,trivial⟩,rfl,trivial,?_⟩))
 rintro z U ⟨m,hm,hz,rfl⟩
 refine ⟨rfl,?_⟩
 have hpos:0 < L.length:=by omega
 obtain ⟨mid,hmid,hcp⟩:=yY hpos
 obtain ⟨ey,hmidL⟩:=uH hmid
 have hcl:(eG L).length<=L.length:=List.length_filter_le _ _
 have M1:=yb (E:=(aT Tryz.prog tt Tryz.f33.ntmps w X (aF [] β)).toEnv) rfl (x:=z) (M:=eG L) (n:=m) hm (by rw [hm];exact hcp) (by rw [hm,<- qZ];omega) (fun q hq=>⟨(hmem q (List.mem_filter.1 hq).1).1,(nZ (hmem q (List.mem_filter.1 hq).1).2.1).1⟩)
 refine .inr (.inr (.inr ⟨[],[],[_,_],[_],_,M1,rfl,⟨.inl rfl,trivial⟩,rfl,trivial,?_⟩))
 rintro r U ⟨⟨mid',hmid',rfl⟩,rfl⟩
 obtain rfl:mid'=mid:=by rw [hmid] at hmid';exact (Option.some.inj hmid').symm
 refine ⟨rfl,_,Dz rfl mid',?_⟩
 rw [<- ey]
 have hrs:∀ q∈L,aw Tryz.prog 88 [SV.c (.agg q.price.A),SV.c (.agg (cd L).A),SV.c (.agg p.tol.A)] (.bool (qv q.price (cd L) p.tol)):=fun q hq=>by
  obtain ⟨t1,t2⟩:=se (hmem q hq).2.2.2
  exact (sm hpin.tol t1 t2 (fun z hz=>⟨(hmem z hz).1,(hmem z hz).2.1⟩) hq).1
 clear K1 D1 M1 C1
 have YF:=(cd L).A_fits
 have hsb:∀ i,(jh L p.tol i).length<=i:=u6 L p.tol
 have eb:j9 L p.tol=jh L p.tol L.length:=by unfold jh j9;rw [List.take_length]
 have ef:cB L p.tol=fk (bi L p.tol L.length):=by unfold bi cB;rw [List.take_length]
 rw [eb,ef]
 refine ⟨YF,_,rfl,_,fun w' _=>al Tryz.underlying26 w',?_⟩
 generalize hYA:(cd L).A=YA at *
 refine ⟨fun q f m=>∃ (i:Nat) (y:Value) (N:Nat),q=L.length - i/\i<=L.length/\N=(jh L p.tol i).length/\IsL y N/\f=[(6,SV.ptr 6 0),(10,SV.ptr 10 0),(12,SV.ptr 12 0),(15,SV.ptr 15 0),(16,SV.ptr 16 0),(45,SV.c (.slice sa n sc)),(46,SV.c (.int .i64 (n:Nat))),(47,SV.c (.int .i64 (i:Nat)))]/\m=[(9000,Blk.own y 9 1 N (cat cP (jh L p.tol i))),(16,Blk.row 80 70 ((fk (bi L p.tol i)).A y)),(15,Blk.row 33 66 YA),(12,Blk.row 26 1 #[.slice sa n sc]),(10,Blk.row 80 70 (jL.A (.slice none 0 0))),(6,Blk.row 35 68 PA),(4000,Blk.own (.slice sa n sc) 63 72 n (cat QC.A L))],L.length,⟨_,_,⟨0,.slice none 0 0,0,by omega,by omega,rfl,.nil,rfl,rfl⟩,⟨rfl,rfl,rfl,rfl,rfl,rfl,rfl,rfl,trivial⟩,⟨.inr ⟨rfl,rfl,rfl⟩,congrArg (fun A=>some (Blk.row 80 70 A)) nw.symm,rfl,rfl,congrArg (fun A=>some (Blk.row 80 70 A)) nw.symm,rfl,.inl rfl,trivial⟩,rfl⟩,?_⟩
 rintro q f m ⟨i,y,N,rfl,hi,hN,hy,rfl,rfl⟩
 refine ⟨fun h=>?_,fun h=>?_⟩
 ·have h:i < n:=by have:=af h;omega
  obtain ⟨z,hz⟩:∃ z,L[i]? = some z:=⟨_,List.getElem?_eq_getElem (by omega)⟩
  have hzL:=List.mem_of_getElem? hz
  have hNl:N<=i:=by rw [hN];exact hsb i
  obtain ⟨y0,hy0⟩:∃ z,L[0]? = some z:=⟨_,List.getElem?_eq_getElem (by omega)⟩
  have ec:dB L=y0.cur:=by
   unfold dB
   cases L with
   | nil=>cases hy0
   | cons z0 r=>simp at hy0;subst hy0;rfl
  rcases hs with ⟨hs1,hs2⟩ | ⟨g0,c0,hs1⟩
  ·omega
  cases hs1
  have L2:=bz QC.size hz
  have j2:i*72+72<=(cat QC.A L).size:=by rw [Go.SX.cat_size QC.size];omega
  have L0:(cat QC.A L)[0+2]? = some (.string (S y0.cur)):=by
   have:=fC QC.size L 0 y0 2 hy0 (by omega)
   rw [y0.g2] at this
   simpa using this
  have K9:=hrs z hzL
  have Z0:=z.g0
  have Z2:=z.g2
  have Z3:=z.g3
  have ZP:=z.gpri
  have ZF:=z.fits
  have C0:=CH.g0 (fk (bi L p.tol i)) y
  have C4:=CH.g4 (fk (bi L p.tol i)) y
  have S4:=fun u=>CH.set4 (fk (bi L p.tol i)) y u
  obtain ⟨A1,A2,A3,T1,T2,T3,T4⟩:=CH.fill4 (fk (bi L p.tol i)) y z
  have PF:=z.price.A_fits
  generalize hC:(fk (bi L p.tol i)).A y=CA at *
  generalize hD:(fk (some z)).A y=DA at *
  generalize hX:cat QC.A L=XA at *
  generalize hY:z.A=ZA at *
  refine ⟨by omega,by omega,.inr ⟨4000,g0,_,n,_,_,_,_,rfl,rfl,(by rw [dr];exact j2),ZA,(by rw [dr];exact L2),ZF,?_⟩⟩
  refine ⟨_,Z2,_,rfl,by decide,by omega,.inr ⟨4000,g0,_,n,_,_,_,_,rfl,rfl,_,L0,?_⟩⟩
  refine ⟨fun k1=>?_,fun k1=>?_⟩
  ·have k1:(!((S z.cur).toList == (S y0.cur).toList))=false:=k1
   rw [dn] at k1
   have k1:decide (z.cur=dB L)=true:=by rw [ec];simpa using k1
   refine ⟨by decide,_,ZP,by decide,_,G1,.inl ⟨_,K9,by kernel_rfl,fun k2=>?_,fun k2=>?_⟩⟩
   ·have k2:=ba k2
    have hg:cH (dB L) (cd L) p.tol z=false:=by unfold cH;rw [k1,k2];rfl
    refine ⟨_,C4,_,Z0,.inl ⟨by decide,by decide,_,kJ z.src,rfl,by decide,9000,N,_,.inl rfl,by decide,ft z.src,rfl,_,mC z.src,?_⟩⟩
    obtain ⟨q,hq,hb⟩:=m8
    refine ⟨by omega,by unfold maxLen;omega,⟨q,hq,by rw [hb];omega⟩,trivial,fun g2 cap2=>?_⟩
    refine ⟨by decide,rfl,_,S4 _,?_⟩
    exact ⟨L.length - (i+1),_,_,by omega,⟨i+1,_,N+1,rfl,by omega,by rw [gm hz hg,List.length_append,<- hN];rfl,.some,rfl,rfl⟩,⟨rfl,rfl,rfl,rfl,rfl,rfl,rfl,am (ar (by omega)),trivial⟩,⟨.inl (bw (by rw [gm hz hg,cat_append,fB])),congrArg (fun B=>some (Blk.row 80 70 ((fk B).A _))) (fK hz hg).symm,rfl,rfl,rfl,rfl,.inl rfl,trivial⟩,rfl⟩
   ·have k2:=bc k2
    have hg:cH (dB L) (cd L) p.tol z=true:=by unfold cH;rw [k1,k2];rfl
    have eb:=r7 hz hg
    have ef:=oK hz hg
    refine ⟨_,C0,fun k3=>?_,fun k3=>?_⟩
    ·have k3:(fk (bi L p.tol i)).src=[]:=dO k3
     have e0:bi L p.tol i=none:=by
      cases e:bi L p.tol i with
      | none=>rfl
      | some q =>
       rw [e] at k3
       have hq:q∈L:=by
        unfold bi at e
        exact List.mem_of_mem_take (List.mem_of_find?_eq_some e)
       exact absurd k3 (hmem q hq).2.2.1
     rw [e0] at ef
     refine ⟨_,Z0,_,Z2,_,Z3,by decide,_,ZP,by decide,rfl,A1,T1,by decide,rfl,A2,T2,by decide,rfl,A3,T3,by decide,PF,DA,T4,?_⟩
     exact ⟨by kernel_rfl,L.length - (i+1),_,_,by omega,⟨i+1,y,N,rfl,by omega,by rw [eb];exact hN,hy,rfl,rfl⟩,⟨rfl,rfl,rfl,rfl,rfl,rfl,rfl,am (ar (by omega)),trivial⟩,⟨.inl (bw (by rw [eb])),(by rw [ef,<- hD];rfl),rfl,rfl,rfl,rfl,.inl rfl,trivial⟩,rfl⟩
    ·have k3:(fk (bi L p.tol i)).src≠[]:=dN k3
     have e0:bi L p.tol (i+1)=bi L p.tol i:=by
      rw [ef]
      cases e:bi L p.tol i with
      | none=>rw [e] at k3;exact absurd rfl k3
      | some q=>rfl
     exact ⟨L.length - (i+1),_,_,by omega,⟨i+1,y,N,rfl,by omega,by rw [eb];exact hN,hy,rfl,rfl⟩,⟨rfl,rfl,rfl,rfl,rfl,rfl,rfl,am (ar (by omega)),trivial⟩,⟨.inl (bw (by rw [eb])),(by rw [e0,hC];rfl),rfl,rfl,rfl,rfl,.inl rfl,trivial⟩,rfl⟩
  ·have k1:(!((S z.cur).toList == (S y0.cur).toList))=true:=k1
   rw [dn] at k1
   have k1:decide (z.cur=dB L)=false:=by rw [ec];simpa using k1
   have hg:cH (dB L) (cd L) p.tol z=false:=by unfold cH;rw [k1];rfl
   refine ⟨by kernel_rfl,fun _=>?_,nofun⟩
   refine ⟨_,C4,_,Z0,.inl ⟨by decide,by decide,_,kJ z.src,rfl,by decide,9000,N,_,.inl rfl,by decide,ft z.src,rfl,_,mC z.src,?_⟩⟩
   obtain ⟨q,hq,hb⟩:=m8
   refine ⟨by omega,by unfold maxLen;omega,⟨q,hq,by rw [hb];omega⟩,trivial,fun g2 cap2=>?_⟩
   refine ⟨by decide,rfl,_,S4 _,?_⟩
   exact ⟨L.length - (i+1),_,_,by omega,⟨i+1,_,N+1,rfl,by omega,by rw [gm hz hg,List.length_append,<- hN];rfl,.some,rfl,rfl⟩,⟨rfl,rfl,rfl,rfl,rfl,rfl,rfl,am (ar (by omega)),trivial⟩,⟨.inl (bw (by rw [gm hz hg,cat_append,fB])),congrArg (fun B=>some (Blk.row 80 70 ((fk B).A _))) (fK hz hg).symm,rfl,rfl,rfl,rfl,.inl rfl,trivial⟩,rfl⟩
 ·have h:i=n:=by have:=ag h;omega
  obtain rfl:i=L.length:=by omega
  have CF:Fits ((fk (bi L p.tol L.length)).A y) 70:=by obtain ⟨ya,yc,rfl⟩:=hy.len;exact CH.fits _
  generalize hC:(fk (bi L p.tol L.length)).A y=CA at *
  refine ⟨CF,[(9000,Blk.own y 9 1 N (cat cP (jh L p.tol L.length)))],[],⟨y,N,hN,by rw [hC];rfl,hy,rfl⟩,⟨.inl rfl,trivial⟩,rfl⟩
theorem CM {E:Env} (hE:E.P=Tryz.prog) {x:Value} {L:List QC} {n:Nat} (hn:n=L.length) (h0:0 < n) (hM:n < 20) (hok:∀ z∈L,z.In/\de z.price=true):OwnC E 223 [SV.c x] [(4000,Blk.own x 63 72 n (cat QC.A L))] (fun r U=>r=.agg (cd L).A/\U=[(4000,Blk.own x 63 72 n (cat QC.A L))]):=by
 subst hn
 have h1:(cat QC.A L).all (·.oneCell')=true:=Go.SX.cat_all (fun a=>a.one) L
 refine (OwnC.with_own (k:=4000) (v:=x) (e:=63) (sz:=72) (n:=L.length) (A:=cat QC.A L) (pre:=[]) rfl rfl h1 (by rw [hE];exact I9.enters) (fun E0 h hl=>Jm (h.trans hE) hl h0 hM hok) (fun x U h=>by rw [h.2];rfl)).mono ?_
 rintro y U ⟨U0,⟨h1,rfl⟩,rfl⟩
 exact ⟨h1,rfl⟩
theorem nQ {E:Env} (hE:E.P=Tryz.prog) {v:Value} {k:Int} {xs:List QC} (hv:Lst E v 72 xs.length (cat QC.A xs)) (hn:xs.length<=1000000000000) (hin:∀ y∈xs,y.In) {vp:Value} {p:PL} (hp:Lst E vp 1 p.srcs.length (cat cP p.srcs)) (hpn:p.srcs.length<=1000000000000000) (hpin:p.In) (ins:List UInt8) (day:Int):OwnC E 170 [SV.c v,SV.c (.agg (p.A vp)),SV.c (.int .i64 k),SV.c (.string (S ins)),SV.c (.int .i64 day)] [] (yV xs k p ins day):=by
 refine aA [] ai ak O0 E hE [SV.c v,SV.c (.agg (p.A vp)),SV.c (.int .i64 k),SV.c (.string (S ins)),SV.c (.int .i64 day)] [] _ rfl rfl fun w X β hT=>?_
 have hv':=hv.of_old hT
 have hp':=hp.of_old hT
 have C1:=Ig (k:=k) rfl hv' hn hin hp' hpn hpin ins day
 obtain ⟨a,cap,rfl,hc,h4⟩:=id hp'.shape
 have F1:=p.size (.slice a p.srcs.length cap)
 have G1:=p.g1 (.slice a p.srcs.length cap)
 generalize p.A (.slice a p.srcs.length cap)=PA at *
 refine ⟨F1,?_⟩
 refine .inr (.inr (.inr ⟨[],[4000],[_,_,_,_,_],[],_,C1,rfl,trivial,rfl,trivial,?_⟩))
 rintro r U ⟨s,n,hsn,rfl,hs,rfl⟩
 obtain ⟨sa,sc,rfl⟩:=hs.len
 have hlen:=sY (xs:=xs) (k:=k) (p:=p) (ins:=ins) (day:=day)
 have hmem:=fun z hz=>kM (k:=k) (p:=p) (ins:=ins) (day:=day) (z:=z) hin hz
 refine ⟨rfl,fun c1=>?_,fun c1=>?_⟩
 ·have c1:(fE xs k p day != 0)=true:=c1
  have c1:fE xs k p day≠0:=by simpa using c1
  exact ⟨jL.A (.slice none 0 0),(by kernel_rfl),CH.fits _,[(9000,Blk.own (.slice none 0 0) 9 1 0 #[])],[],mI (sZ c1) (by unfold iV;rw [if_pos c1]),⟨.inr ⟨rfl,rfl,rfl⟩,trivial⟩,rfl⟩
 have c1:(fE xs k p day != 0)=false:=c1
 have c1:fE xs k p day=0:=by simpa using c1
 refine ⟨_,fun w' _=>al Tryz.underlying26 w',fun c2=>?_,fun c2=>?_⟩
 ·have c2:((n:Int) == 0)=true:=c2
  have c2:n=0:=by have:=af c2;omega
  have e1:aZ xs k p ins day=[]:=List.eq_nil_of_length_eq_zero (by omega)
  exact ⟨jL.A (.slice none 0 0),(by kernel_rfl),CH.fits _,[(9000,Blk.own (.slice none 0 0) 9 1 0 #[])],[],mI e1 (by unfold iV;rw [if_neg (by rw [c1];decide),if_pos e1]),⟨.inr ⟨rfl,rfl,rfl⟩,trivial⟩,rfl⟩
 have c2:((n:Int) == 0)=false:=c2
 have c2:n≠0:=fun h=>by rw [h] at c2;cases c2
 have eE:iV xs k p ins day=0:=by
  unfold iV
  rw [if_neg (by rw [c1];decide),if_neg]
  intro h;rw [h] at hsn;exact c2 hsn
 unfold yV
 rw [eE,c1]
 clear eE C1
 generalize aZ xs k p ins day=L at *
 have Y1:=CM (E:=(aT Tryz.prog tt Tryz.f170.ntmps w X (aF [] β)).toEnv) rfl (x:=.slice sa n sc) (L:=L) hsn (by omega) (by omega) (fun z hz=>⟨(hmem z hz).1,(hmem z hz).2.1⟩)
 have hrs:∀ q∈L,aw Tryz.prog 224 [SV.c (.agg q.price.A),SV.c (.agg (cd L).A),SV.c (.agg p.tol.A)] (.bool (qv q.price (cd L) p.tol)):=fun q hq=>by
  obtain ⟨t1,t2⟩:=se (hmem q hq).2.2.2
  exact (sm hpin.tol t1 t2 (fun z hz=>⟨(hmem z hz).1,(hmem z hz).2.1⟩) hq).2.1
 have YF:=(cd L).A_fits
 have hsb:∀ i,(jh L p.tol i).length<=i:=u6 L p.tol
 have eb:j9 L p.tol=jh L p.tol L.length:=by unfold jh j9;rw [List.take_length]
 have ef:cB L p.tol=fk (bi L p.tol L.length):=by unfold bi cB;rw [List.take_length]
 rw [eb,ef]
 generalize hYA:(cd L).A=YA at *
 refine .inr (.inr (.inl ⟨[],[_],[_],_,[_],Y1,rfl,⟨.inl rfl,trivial⟩,rfl,rfl,YF,?_⟩))
 clear Y1
 refine ⟨fun q f m=>∃ (i:Nat) (y:Value) (N:Nat),q=L.length - i/\i<=L.length/\N=(jh L p.tol i).length/\IsL y N/\f=[(6,SV.ptr 6 0),(10,SV.ptr 10 0),(12,SV.c (.slice sa n sc)),(14,SV.ptr 14 0),(15,SV.ptr 15 0),(16,SV.c (.bool (bi L p.tol i).isSome)),(17,SV.c (.int .i64 (i:Nat)))]/\m=[(9000,Blk.own y 9 1 N (cat cP (jh L p.tol i))),(15,Blk.row 80 70 ((fk (bi L p.tol i)).A y)),(14,Blk.row 33 66 YA),(10,Blk.row 80 70 (jL.A (.slice none 0 0))),(6,Blk.row 35 68 PA),(4000,Blk.own (.slice sa n sc) 63 72 n (cat QC.A L))],L.length,⟨_,_,⟨0,.slice none 0 0,0,by omega,by omega,rfl,.nil,rfl,rfl⟩,⟨rfl,rfl,rfl,rfl,rfl,rfl,rfl,trivial⟩,⟨.inr ⟨rfl,rfl,rfl⟩,congrArg (fun A=>some (Blk.row 80 70 A)) nw.symm,rfl,congrArg (fun A=>some (Blk.row 80 70 A)) nw.symm,rfl,.inl rfl,trivial⟩,rfl⟩,?_⟩
 rintro q f m ⟨i,y,N,rfl,hi,hN,hy,rfl,rfl⟩
 refine ⟨_,fun w' _=>al Tryz.underlying26 w',fun h=>?_,fun h=>?_⟩
 ·have h:i < n:=by have:=af h;omega
  obtain ⟨z,hz⟩:∃ z,L[i]? = some z:=⟨_,List.getElem?_eq_getElem (by omega)⟩
  have hzL:=List.mem_of_getElem? hz
  have hNl:N<=i:=by rw [hN];exact hsb i
  obtain ⟨y0,hy0⟩:∃ z,L[0]? = some z:=⟨_,List.getElem?_eq_getElem (by omega)⟩
  have ec:dB L=y0.cur:=by
   unfold dB
   cases L with
   | nil=>cases hy0
   | cons z0 r=>simp at hy0;subst hy0;rfl
  rcases hs with ⟨hs1,hs2⟩ | ⟨g0,c0,hs1⟩
  ·omega
  cases hs1
  have L2:=bz QC.size hz
  have j2:i*72+72<=(cat QC.A L).size:=by rw [Go.SX.cat_size QC.size];omega
  have L0:(cat QC.A L)[0+2]? = some (.string (S y0.cur)):=by
   have:=fC QC.size L 0 y0 2 hy0 (by omega)
   rw [y0.g2] at this
   simpa using this
  have K9:=hrs z hzL
  have Z0:=z.g0
  have Z2:=z.g2
  have Z3:=z.g3
  have ZP:=z.gpri
  have ZF:=z.fits
  have C0:=CH.g0 (fk (bi L p.tol i)) y
  have C4:=CH.g4 (fk (bi L p.tol i)) y
  have S4:=fun u=>CH.set4 (fk (bi L p.tol i)) y u
  obtain ⟨A1,A2,A3,T1,T2,T3,T4⟩:=CH.fill4 (fk (bi L p.tol i)) y z
  have PF:=z.price.A_fits
  generalize hC:(fk (bi L p.tol i)).A y=CA at *
  generalize hD:(fk (some z)).A y=DA at *
  generalize hX:cat QC.A L=XA at *
  generalize hY:z.A=ZA at *
  refine ⟨by omega,by omega,.inr ⟨4000,g0,_,n,_,_,_,_,rfl,rfl,(by rw [dr];exact j2),ZA,(by rw [dr];exact L2),ZF,?_⟩⟩
  refine ⟨_,Z2,by decide,by omega,.inr ⟨4000,g0,_,n,_,_,_,_,rfl,rfl,_,L0,?_⟩⟩
  refine ⟨fun k1=>?_,fun k1=>?_⟩
  ·have k1:(!((S z.cur).toList == (S y0.cur).toList))=false:=k1
   rw [dn] at k1
   have k1:decide (z.cur=dB L)=true:=by rw [ec];simpa using k1
   refine ⟨by decide,_,ZP,by decide,_,G1,.inl ⟨_,K9,by kernel_rfl,fun k2=>?_,fun k2=>?_⟩⟩
   ·have k2:=ba k2
    have hg:cH (dB L) (cd L) p.tol z=false:=by unfold cH;rw [k1,k2];rfl
    refine ⟨_,C4,_,Z0,.inl ⟨by decide,by decide,_,kJ z.src,rfl,by decide,9000,N,_,.inl rfl,by decide,ft z.src,rfl,_,mC z.src,?_⟩⟩
    obtain ⟨q,hq,hb⟩:=m8
    refine ⟨by omega,by unfold maxLen;omega,⟨q,hq,by rw [hb];omega⟩,trivial,fun g2 cap2=>?_⟩
    refine ⟨by decide,rfl,_,S4 _,?_⟩
    exact ⟨L.length - (i+1),_,_,by omega,⟨i+1,_,N+1,rfl,by omega,by rw [gm hz hg,List.length_append,<- hN];rfl,.some,rfl,rfl⟩,⟨rfl,rfl,rfl,rfl,rfl,(by rw [fK hz hg];rfl),am (ar (by omega)),trivial⟩,⟨.inl (bw (by rw [gm hz hg,cat_append,fB])),congrArg (fun B=>some (Blk.row 80 70 ((fk B).A _))) (fK hz hg).symm,rfl,rfl,rfl,.inl rfl,trivial⟩,rfl⟩
   ·have k2:=bc k2
    have hg:cH (dB L) (cd L) p.tol z=true:=by unfold cH;rw [k1,k2];rfl
    have eb:=r7 hz hg
    have ef:=oK hz hg
    refine ⟨fun k3=>?_,fun k3=>?_⟩
    ·have k3:=ba k3
     have e0:bi L p.tol i=none:=by
      cases e:bi L p.tol i with
      | none=>rfl
      | some q=>rw [e] at k3;cases k3
     rw [e0] at ef
     refine ⟨_,Z0,_,Z2,_,Z3,by decide,_,ZP,by decide,rfl,A1,T1,by decide,rfl,A2,T2,by decide,rfl,A3,T3,by decide,PF,DA,T4,?_⟩
     exact ⟨by kernel_rfl,L.length - (i+1),_,_,by omega,⟨i+1,y,N,rfl,by omega,by rw [eb];exact hN,hy,rfl,rfl⟩,⟨rfl,rfl,rfl,rfl,rfl,(by rw [ef];rfl),am (ar (by omega)),trivial⟩,⟨.inl (bw (by rw [eb])),(by rw [ef,<- hD];rfl),rfl,rfl,rfl,.inl rfl,trivial⟩,rfl⟩
    ·have k3:=bc k3
     have e0:bi L p.tol (i+1)=bi L p.tol i:=by
      rw [ef]
      obtain ⟨q,e⟩:=Option.isSome_iff_exists.1 k3
      rw [e];rfl
     exact ⟨L.length - (i+1),_,_,by omega,⟨i+1,y,N,rfl,by omega,by rw [eb];exact hN,hy,rfl,rfl⟩,⟨rfl,rfl,rfl,rfl,rfl,(by rw [e0];rfl),am (ar (by omega)),trivial⟩,⟨.inl (bw (by rw [eb])),(by rw [e0,hC];rfl),rfl,rfl,rfl,.inl rfl,trivial⟩,rfl⟩
  ·have k1:(!((S z.cur).toList == (S y0.cur).toList))=true:=k1
   rw [dn] at k1
   have k1:decide (z.cur=dB L)=false:=by rw [ec];simpa using k1
   have hg:cH (dB L) (cd L) p.tol z=false:=by unfold cH;rw [k1];rfl
   refine ⟨by kernel_rfl,fun _=>?_,nofun⟩
   refine ⟨_,C4,_,Z0,.inl ⟨by decide,by decide,_,kJ z.src,rfl,by decide,9000,N,_,.inl rfl,by decide,ft z.src,rfl,_,mC z.src,?_⟩⟩
   obtain ⟨q,hq,hb⟩:=m8
   refine ⟨by omega,by unfold maxLen;omega,⟨q,hq,by rw [hb];omega⟩,trivial,fun g2 cap2=>?_⟩
   refine ⟨by decide,rfl,_,S4 _,?_⟩
   exact ⟨L.length - (i+1),_,_,by omega,⟨i+1,_,N+1,rfl,by omega,by rw [gm hz hg,List.length_append,<- hN];rfl,.some,rfl,rfl⟩,⟨rfl,rfl,rfl,rfl,rfl,(by rw [fK hz hg];rfl),am (ar (by omega)),trivial⟩,⟨.inl (bw (by rw [gm hz hg,cat_append,fB])),congrArg (fun B=>some (Blk.row 80 70 ((fk B).A _))) (fK hz hg).symm,rfl,rfl,rfl,.inl rfl,trivial⟩,rfl⟩
 ·have h:i=n:=by have:=ag h;omega
  obtain rfl:i=L.length:=by omega
  have CF:Fits ((fk (bi L p.tol L.length)).A y) 70:=by obtain ⟨ya,yc,rfl⟩:=hy.len;exact CH.fits _
  generalize hC:(fk (bi L p.tol L.length)).A y=CA at *
  refine ⟨CF,[(9000,Blk.own y 9 1 N (cat cP (jh L p.tol L.length)))],[],⟨y,N,hN,by rw [hC];rfl,hy,rfl⟩,⟨.inl rfl,trivial⟩,rfl⟩
end Go.Proofs.YtklehfchdoikeaaGreatDoor
