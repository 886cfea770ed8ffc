/- sort and middle. a currency, as a text of runes. the yardsti; no condition. -/
import Derived.Test.YtklehfchdoikeaaGreatDoorP26
set_option maxRecDepth 100000
set_option maxHeartbeats 4000000
namespace Go.Proofs.YtklehfchdoikeaaGreatDoor
open Go Go.RowKit Go.SX
theorem Hk {α:Type} {lt:α->α->Bool} {x:α}:fe lt x []=[x]:=rfl
theorem Kk {α:Type} {lt:α->α->Bool} {x y:α} {r:List α} (h:lt x y=true):fe lt x (y :: r)=y :: fe lt x r:=by
 rw [fe,if_pos h]
theorem DX {α:Type} {lt:α->α->Bool} {x y:α} {r:List α} (h:lt x y=false):fe lt x (y :: r)=x :: y :: r:=by
 rw [fe,if_neg (by rw [h];decide)]
def ltQ (a b:QC):Bool:=ltP a.price b.price
def cA (M:List QC):List QC:=(dG ltQ M).reverse
def fnV (g:FuncId):Value:=.func (.func g) #[] #[]
theorem Hj {E:Env} (hE:E.P=Tryz.prog) {x:Value} {M:List QC} {n:Nat} (hnM:n=M.length) (hM:M.length<=1000) (hx:IsL x n) (hok:∀ z∈M,z.In/\z.price.ok=true):OwnC E 251 [SV.c x,SV.c (.int .i64 0),SV.c (.int .i64 (n:Nat)),SV.c (fnV 87)] [(6000,Blk.own x 63 72 n (cat QC.A M))] (fun r U=>r=.tuple #[]/\U=[(6000,Blk.own x 63 72 n (cat QC.A (cA M)))]):=by
 obtain ⟨xa,xc,rfl⟩:=hx.len
 refine aD [] ai ak QE E hE [SV.c (.slice xa n xc),SV.c (.int .i64 0),SV.c (.int .i64 (n:Nat)),SV.c (fnV 87)] [(6000,Blk.own (.slice xa n xc) 63 72 n (cat QC.A M))] _ rfl rfl fun w X β hT=>?_
 refine ⟨fun q f m=>∃ (i:Nat) (M':List QC),q=M.length+1 - i/\1<=i/\(i<=M.length\/i=1)/\M'=(dG ltQ (M.take i)).reverse++M.drop i/\f=[(0,SV.c (.slice xa n xc)),(1,SV.c (.int .i64 0)),(2,SV.c (.int .i64 (n:Nat))),(3,SV.c (fnV 87)),(8,SV.c (.int .i64 (i:Nat)))]/\m=[(6000,Blk.own (.slice xa n xc) 63 72 n (cat QC.A M'))],M.length,⟨_,_,⟨1,M,by omega,by omega,by omega,?_,rfl,rfl⟩,⟨rfl,rfl,rfl,rfl,rfl,trivial⟩,⟨.inl rfl,trivial⟩,rfl⟩,?_⟩
 ·cases M with
  | nil=>rfl
  | cons z r=>rfl
 rintro q f m ⟨i,M',rfl,hi1,hi,hM',rfl,rfl⟩
 refine ⟨fun h=>?_,fun h=>?_⟩
 ·have h:i < n:=by have:=af h;omega
  obtain ⟨z,hz⟩:∃ z,M[i]? = some z:=⟨_,List.getElem?_eq_getElem (by omega)⟩
  rcases hx with ⟨hs1,hs2⟩ | ⟨g0,c0,hs1⟩
  ·omega
  cases hs1
  have hdr:M.drop i=z :: M.drop (i+1):=by
   rw [List.drop_eq_getElem_cons (by omega)]
   congr 1
   exact (List.getElem?_eq_some_iff.1 hz).2
  generalize hR:dG ltQ (M.take i)=R at *
  have hRl:R.length=i:=by rw [<- hR,qw];simp;omega
  have hRok:∀ y∈R,y.In/\y.price.ok=true:=fun y hy=>by
   rw [<- hR,uq] at hy
   exact hok y (List.mem_of_mem_take hy)
  refine ⟨fun q f m=>∃ (r1 r2:List QC) (M':List QC),q=r2.length/\r1++r2=R/\fe ltQ z R=r1++fe ltQ z r2/\M'=r2.reverse++z :: (r1.reverse++M.drop (i+1))/\f=[(0,SV.c (.slice (some ⟨g0,0,none⟩) n xc)),(1,SV.c (.int .i64 0)),(2,SV.c (.int .i64 (n:Nat))),(3,SV.c (fnV 87)),(8,SV.c (.int .i64 (i:Nat))),(9,SV.c (.int .i64 (r2.length:Nat)))]/\m=[(6000,Blk.own (.slice (some ⟨g0,0,none⟩) n xc) 63 72 n (cat QC.A M'))],i,⟨_,_,⟨[],R,M',hRl.symm,rfl,rfl,by rw [hM',hdr];rfl,rfl,rfl⟩,⟨rfl,rfl,rfl,rfl,rfl,by rw [hRl];rfl,trivial⟩,⟨.inl rfl,trivial⟩,rfl⟩,?_⟩
  rintro q f m ⟨r1,r2,M2,rfl,hr12,hins,hM2,rfl,rfl⟩
  have hlen:M2.length=n:=by
   have h1:=congrArg List.length hr12
   have h2:=congrArg List.length hdr
   rw [hM2]
   simp only [List.length_append,List.length_cons,List.length_reverse,List.length_drop] at *
   omega
  cases r2 with
  | nil =>
   refine ⟨fun c=>absurd c (by decide),fun _=>⟨by kernel_rfl,nofun,fun _=>?_⟩⟩
   have e1:M2=(dG ltQ (M.take (i+1))).reverse++M.drop (i+1):=by
    rw [st hz,hR,hins,Hk,hM2]
    simp
   exact ⟨M.length+1 - (i+1),_,_,by omega,⟨i+1,M2,rfl,by omega,by omega,e1,rfl,rfl⟩,⟨rfl,rfl,rfl,rfl,ar (ax (by omega)),trivial⟩,⟨.inl rfl,trivial⟩,rfl⟩
  | cons y r2 =>
   refine ⟨fun _=>?_,fun c=>absurd c (by simp)⟩
   have hl12:r1.length+r2.length+1=i:=by have:=congrArg List.length hr12;simp at this;omega
   have hlt:r2.length+1 < n:=by omega
   have ew:IntKind.i64.wrap (((y :: r2).length:Int) - 1)=((r2.length:Nat):Int):=by
    rw [List.length_cons,i64_in (by omega)];omega
   have hM3:M2=r2.reverse++y :: z :: (r1.reverse++M.drop (i+1)):=by rw [hM2];simp
   have hA:r2.reverse.length=r2.length:=List.length_reverse
   have g1:M2[r2.length]? = some y:=by rw [hM3,<- hA];exact NO _ _ _
   have g2:M2[r2.length+1]? = some z:=by rw [hM3,<- hA];exact Lc _ _ _ _
   have hyR:y∈R:=by rw [<- hr12];simp
   have K1:=EG (hok z (List.mem_of_getElem? hz)).1 (hRok y hyR).1 (hok z (List.mem_of_getElem? hz)).2 (hRok y hyR).2
   have L1:=cr QC.size g1
   have L2:=cr QC.size g2
   have hsw:((M2.set (r2.length+1) y).set r2.length z)=r2.reverse++z :: y :: (r1.reverse++M.drop (i+1)):=by
    rw [hM3,<- hA];exact Dg _ _ _ _
   have st1:aM (cat QC.A M2) ((r2.length+1)*72) y.A.toList=cat QC.A (M2.set (r2.length+1) y):=wM QC.size (by omega) y
   have st2:aM (cat QC.A (M2.set (r2.length+1) y)) (r2.length*72) z.A.toList=cat QC.A ((M2.set (r2.length+1) y).set r2.length z):=wM QC.size (by rw [List.length_set];omega) z
   have s1:(cat QC.A M2).size=n*72:=by rw [Go.SX.cat_size QC.size,hlen]
   have s2:(cat QC.A (M2.set (r2.length+1) y)).size=n*72:=by rw [Go.SX.cat_size QC.size,List.length_set,hlen]
   rw [hsw] at st2
   have j1:r2.length*72+72<=(cat QC.A M2).size:=by rw [s1];omega
   have j2:(r2.length+1)*72+72<=(cat QC.A M2).size:=by rw [s1];omega
   have j3:r2.length*72+72<=(cat QC.A (M2.set (r2.length+1) y)).size:=by rw [s2];omega
   have YF:=y.fits
   have ZF:=z.fits
   generalize hX:cat QC.A M2=XA at *
   generalize hX2:cat QC.A (M2.set (r2.length+1) y)=XB at *
   generalize hY:z.A=ZA at *
   generalize hY2:y.A=YA at *
   refine ⟨by omega,by simp only [List.length_cons];omega,.inr ⟨6000,g0,_,n,_,_,_,_,rfl,rfl,(by rw [List.length_cons,du];exact j2),ZA,(by rw [List.length_cons,du];exact L2),?_⟩⟩
   refine ⟨by rw [ew];omega,by rw [ew];omega,.inr ⟨6000,g0,_,n,_,_,_,_,rfl,rfl,(by rw [ew,du];exact j1),YA,(by rw [ew,du];exact L1),.inl ⟨_,K1,by kernel_rfl,fun c=>?_,fun c=>?_⟩⟩⟩
   ·have c:decide (eK (z.price.p*y.price.q) (y.price.p*z.price.q) < 0)=true:=c
    have hl:ltQ z y=true:=c
    refine ⟨by rw [ew];omega,by rw [ew];omega,.inr ⟨6000,g0,_,n,_,_,_,_,rfl,rfl,(by rw [ew,du];exact j1),YA,(by rw [ew,du];exact L1),?_⟩⟩
    refine ⟨by omega,by rw [List.length_cons];omega,.inr ⟨6000,g0,_,n,_,_,_,_,rfl,rfl,(by rw [List.length_cons,du];exact j2),ZA,(by rw [List.length_cons,du];exact L2),?_⟩⟩
    refine ⟨by omega,by rw [List.length_cons];omega,⟨6000,g0,_,n,_,_,_,_,rfl,rfl,(by rw [List.length_cons,du];exact j2),YF,XB,(by rw [List.length_cons,du];exact st1),?_⟩⟩
    refine ⟨by rw [ew];omega,by rw [ew];omega,⟨6000,g0,_,n,_,_,_,_,rfl,rfl,(by rw [ew,du];exact j3),ZF,cat QC.A (r2.reverse++z :: y :: (r1.reverse++M.drop (i+1))),(by rw [ew,du];exact st2),?_⟩⟩
    refine ⟨by kernel_rfl,r2.length,_,_,by simp,⟨r1++[y],r2,_,rfl,by rw [<- hr12];simp,by rw [hins,Kk hl];simp,?_,rfl,rfl⟩,⟨rfl,rfl,rfl,rfl,rfl,ar ew,trivial⟩,⟨.inl rfl,trivial⟩,rfl⟩
    simp
   ·have c:decide (eK (z.price.p*y.price.q) (y.price.p*z.price.q) < 0)=false:=c
    have hl:ltQ z y=false:=c
    have e1:M2=(dG ltQ (M.take (i+1))).reverse++M.drop (i+1):=by
     rw [st hz,hR,hins,DX hl,hM2]
     simp
    exact ⟨M.length+1 - (i+1),_,_,by omega,⟨i+1,M2,rfl,by omega,by omega,e1,rfl,rfl⟩,⟨rfl,rfl,rfl,rfl,ar (ax (by omega)),trivial⟩,⟨.inl (bC hX.symm),trivial⟩,rfl⟩
 ·have h:n<=i:=by have:=ag h;omega
  have e1:M'=cA M:=by
   rw [hM',List.take_of_length_le (by omega),List.drop_of_length_le (by omega),List.append_nil]
   try rfl
  exact ⟨[(6000,Blk.own (.slice xa n xc) 63 72 n (cat QC.A M'))],[],⟨rfl,by rw [e1]⟩,⟨.inl rfl,trivial⟩,rfl⟩
theorem FQ {E:Env} (hE:E.P=Tryz.prog) {x:Value} {M:List QC} {n:Nat} (hnM:n=M.length) (hM:M.length < 20) (hx:IsL x n) (hok:∀ z∈M,z.In/\z.price.ok=true):OwnC E 206 [SV.c x,SV.c (.int .i64 (n:Nat)),SV.c (fnV 87)] [(6000,Blk.own x 63 72 n (cat QC.A M))] (fun r U=>r=.tuple #[]/\U=[(6000,Blk.own x 63 72 n (cat QC.A (cA M)))]):=by
 obtain ⟨xa,xc,rfl⟩:=hx.len
 refine aD [] ai ak Ri E hE [SV.c (.slice xa n xc),SV.c (.int .i64 (n:Nat)),SV.c (fnV 87)] [(6000,Blk.own (.slice xa n xc) 63 72 n (cat QC.A M))] _ rfl rfl fun w X β hT=>?_
 have I1:=Hj (E:=(aY Tryz.prog tt Tryz.f206.ntmps w X (aJ [(6000,Blk.own (.slice xa n xc) 63 72 n (cat QC.A M))] β)).toEnv) rfl (x:=.slice xa n xc) (M:=M) hnM (by omega) hx hok
 refine ⟨fun q f m=>q=0/\f=[(0,SV.c (.slice xa n xc)),(1,SV.c (.int .i64 (n:Nat))),(2,SV.c (fnV 87)),(6,SV.c (.int .i64 20)),(7,SV.c (.int .i64 0)),(8,SV.c (.int .i64 20))]/\m=[(6000,Blk.own (.slice xa n xc) 63 72 n (cat QC.A M))],0,⟨_,_,⟨rfl,rfl,rfl⟩,⟨rfl,rfl,rfl,rfl,rfl,rfl,trivial⟩,⟨.inl rfl,trivial⟩,rfl⟩,?_⟩
 rintro q f m ⟨rfl,rfl,rfl⟩
 refine ⟨fun h=>?_,fun h=>?_⟩
 ·have h:=af h;omega
 ·refine .inr (.inr (.inl ⟨[],[_,_,_,_],[_],_,[_],I1,rfl,⟨.inl rfl,trivial⟩,rfl,rfl,?_⟩))
  refine ⟨fun q f m=>q=0/\f=[(0,SV.c (.slice xa n xc)),(1,SV.c (.int .i64 (n:Nat))),(2,SV.c (fnV 87)),(6,SV.c (.int .i64 20))]/\m=[(6000,Blk.own (.slice xa n xc) 63 72 n (cat QC.A (cA M)))],0,⟨_,_,⟨rfl,rfl,rfl⟩,⟨rfl,rfl,rfl,rfl,trivial⟩,⟨.inl rfl,trivial⟩,rfl⟩,?_⟩
  rintro q f m ⟨rfl,rfl,rfl⟩
  refine ⟨fun h=>?_,fun h=>?_⟩
  ·have h:=af h;omega
  ·exact ⟨[(6000,Blk.own (.slice xa n xc) 63 72 n (cat QC.A (cA M)))],[],⟨rfl,rfl⟩,⟨.inl rfl,trivial⟩,rfl⟩
theorem Jw {E:Env} (hE:E.P=Tryz.prog) {x:Value} {M:List QC} {n:Nat} (hnM:n=M.length) (hM:M.length < 20) (hx:IsL x n) (hok:∀ z∈M,z.In/\z.price.ok=true):OwnC E 152 [SV.c x,SV.c (fnV 87)] [(6000,Blk.own x 63 72 n (cat QC.A M))] (fun r U=>r=.tuple #[]/\U=[(6000,Blk.own x 63 72 n (cat QC.A (cA M)))]):=by
 obtain ⟨xa,xc,rfl⟩:=hx.len
 refine aD [] ai ak Sa E hE [SV.c (.slice xa n xc),SV.c (fnV 87)] [(6000,Blk.own (.slice xa n xc) 63 72 n (cat QC.A M))] _ rfl rfl fun w X β hT=>?_
 have I1:=FQ (E:=(aY Tryz.prog tt Tryz.f152.ntmps w X (aJ [(6000,Blk.own (.slice xa n xc) 63 72 n (cat QC.A M))] β)).toEnv) rfl (x:=.slice xa n xc) (M:=M) hnM (by omega) hx hok
 refine ⟨_,fun w' _=>ao Tryz.underlying26 w',?_⟩
 refine .inr (.inr (.inl ⟨[],[_,_,_],[_],_,[_],I1,rfl,⟨.inl rfl,trivial⟩,rfl,rfl,?_⟩))
 exact ⟨[(6000,Blk.own (.slice xa n xc) 63 72 n (cat QC.A (cA M)))],[],⟨rfl,rfl⟩,⟨.inl rfl,trivial⟩,rfl⟩
theorem kQ (M:List QC):(cA M).length=M.length:=by unfold cA;rw [List.length_reverse,qw]
theorem GW {E:Env} (hE:E.P=Tryz.prog) {v:Value} {M:List QC} (hv:Lst E v 72 M.length (cat QC.A M)) (hn:0 < M.length) (hM:M.length < 20) (hok:∀ z∈M,z.In/\z.price.ok=true):OwnC E 86 [SV.c v,SV.c (fnV 87)] [] (fun r U=>(∃ z,(cA M)[(M.length - 1) / 2]? = some z/\r=.agg z.A)/\U=[]):=by
 refine aD [] ai ak PO E hE [SV.c v,SV.c (fnV 87)] [] _ rfl rfl fun w X β hT=>?_
 have hv':=hv.of_old hT
 have C1:=CL rfl hv' hn (by omega)
 refine .inr (.inr (.inr ⟨[],[6000],[_],[],_,C1,rfl,trivial,rfl,trivial,?_⟩))
 rintro x U ⟨hx,rfl⟩
 refine ⟨rfl,?_⟩
 have S1:=Jw (E:=(aY Tryz.prog tt Tryz.f86.ntmps w X (aJ [] β)).toEnv) rfl (x:=x) (M:=M) rfl hM hx hok
 refine .inr (.inr (.inl ⟨[],[_,_],[_],_,[_],S1,rfl,⟨.inl rfl,trivial⟩,rfl,rfl,?_⟩))
 obtain ⟨z,hz⟩:∃ z,(cA M)[(M.length - 1) / 2]? = some z:=⟨_,List.getElem?_eq_getElem (by rw [kQ];omega)⟩
 rcases hx with ⟨hs1,hs2⟩ | ⟨g0,c0,rfl⟩
 ·omega
 refine ⟨_,fun w' _=>ao Tryz.underlying26 w',?_⟩
 have ew:IntKind.i64.wrap ((IntKind.i64.wrap ((M.length:Int) - 1)).tdiv 2)=(((M.length - 1) / 2:Nat):Int):=by
  have e1:IntKind.i64.wrap ((M.length:Int) - 1)=((M.length - 1:Nat):Int):=by rw [i64_in (by omega)];omega
  rw [e1,show ((M.length - 1:Nat):Int).tdiv 2=(((M.length - 1) / 2:Nat):Int) from (Int.ofNat_tdiv _ 2).symm]
  exact i64_in (by omega)
 have hlt:(M.length - 1) / 2 < M.length:=by omega
 have L1:=cr QC.size hz
 have j1:(M.length - 1) / 2*72+72<=(cat QC.A (cA M)).size:=by rw [Go.SX.cat_size QC.size,kQ];omega
 have ZF:=z.fits
 generalize hX:cat QC.A (cA M)=XA at *
 generalize hY:z.A=ZA at *
 refine ⟨by decide,by rw [ew];omega,by rw [ew];omega,.inr ⟨6000,g0,_,M.length,_,_,_,_,rfl,rfl,(by rw [ew,du];exact j1),ZA,(by rw [ew,du];exact L1),ZF,?_⟩⟩
 exact ⟨[],[],⟨⟨z,hz,by rw [hY];rfl⟩,rfl⟩,trivial,rfl⟩
def upB (b:UInt8):Bool:=decide (65<=b.toNat) && decide (b.toNat<=90)
theorem Jz {l:List UInt8} {pos:Nat} (h:pos < l.length):upB (l.getD pos 0)=(decide (65<=(Utf8.decode (S l) pos).1) && decide ((Utf8.decode (S l) pos).1<=90))/\(upB (l.getD pos 0)=true->(Utf8.decode (S l) pos).2=1):=by
 have hs:pos < (S l).size:=by rw [bm];exact h
 have hg:=Mk hs h
 rcases Nat.lt_or_ge (l.getD pos 0).toNat 128 with hb | hb
 ·have:=Go.decode_ascii (S l) pos hs (by rw [hg];exact hb)
  rw [this,hg]
  exact ⟨rfl,fun _=>rfl⟩
 ·have:=(Go.decode_high (S l) pos hs (by rw [hg];exact hb)).1
  have e1:upB (l.getD pos 0)=false:=by
   unfold upB
   rw [decide_eq_false (show ¬ (l.getD pos 0).toNat<=90 by omega)];simp
  refine ⟨?_,fun h=>by rw [e1] at h;cases h⟩
  rw [e1,decide_eq_false (show ¬ (Utf8.decode (S l) pos).1<=90 by omega)];simp
theorem zi (l:List UInt8) (j:Nat):cX false l j=upB (l.getD j 0):=by
 unfold cX upB;simp
theorem KQ {l:List UInt8} {j:Nat} (hj:j < l.length) (h:upB (l.getD j 0)=false):aF l=false:=by
 unfold aF
 rw [de hj (by rw [zi];exact h)];rfl
theorem KR {l:List UInt8} (h:∀ j,j < l.length->upB (l.getD j 0)=true):aF l=(((l.length:Nat):Int) == 3):=by
 unfold aF
 rw [fO fun j hj=>by rw [zi];exact h j hj,Bool.true_and,Bool.eq_iff_iff]
 simp only [Bool.and_eq_true,decide_eq_true_eq,beq_iff_eq]
 omega
theorem Nz (l:List UInt8):ay Tryz.prog 155 [SV.c (.string (S l))] (.bool (aF l)):=by
 refine rH (vs:=[.string (S l)]) Mg.enters fun w0=>?_
 refine aD [] ai ak Mg _ rfl [SV.c (.string (S l))] [] _ rfl rfl fun w X β hT=>?_
 refine un rfl rfl Tryz.underlying9 300 rfl rfl trivial fun r=>?_
 refine ⟨fun q f m=>∃ pos:Nat,q=l.length - pos/\pos<=l.length/\(∀ j,j < pos->upB (l.getD j 0)=true)/\f=[(0,SV.c (.string (S l))),(6,SV.c (.pointer (some ⟨r,0,none⟩)))]/\m=[(300,Blk.res r (fun o=>o=.stringIter (S l) pos))],l.length,⟨_,_,⟨0,rfl,by omega,fun j h=>by omega,rfl,rfl⟩,⟨rfl,rfl,trivial⟩,⟨rfl,trivial⟩,rfl⟩,?_⟩
 rintro q f m ⟨pos,rfl,hp,hall,rfl,rfl⟩
 refine xg rfl 300 rfl rfl trivial (fun h4=>?_) (fun h4=>?_)
 ·rw [bm] at h4
  refine ⟨fun h=>absurd h (by decide),fun _=>?_⟩
  refine ⟨_,fun w _=>aH Tryz.underlying9 w,[],[],⟨by rw [KR fun j hj=>hall j (by omega)];rfl,rfl⟩,trivial,rfl⟩
 ·rw [bm] at h4
  obtain ⟨hR,hW⟩:=Jz (l:=l) h4
  generalize (Utf8.decode (S l) pos).1=R at *
  generalize (Utf8.decode (S l) pos).2=W at *
  have bad:¬ (65<=R/\R<=90)->∃ U σ,(Value.bool false=.bool (aF l)/\U=([]:aA))/\fZ [(300,Blk.res r (fun o=>o=.stringIter (S l) (pos+W)))] (dW σ U)/\uv [] σ U=true:=fun h=>⟨[],[],⟨by rw [KQ h4 (by rw [hR];simpa using h)],rfl⟩,trivial,rfl⟩
  refine ⟨fun _=>⟨fun c1=>⟨fun c2=>bad ?_,fun c2=>?_⟩,fun c1=>⟨fun _=>bad ?_,fun h=>absurd h (by decide)⟩⟩,fun h=>absurd h (by decide)⟩
  ·have c2:=af (show decide (((R:Nat):Int) > 90)=true from c2)
   omega
  ·have c1:=ag c1
   have c2:=ag (show decide (((R:Nat):Int) > 90)=false from c2)
   have hu:upB (l.getD pos 0)=true:=by rw [hR];simp;omega
   have:=hW hu
   subst this
   exact ⟨l.length - (pos+1),_,_,by omega,⟨pos+1,rfl,by omega,fun j hj=>by
    rcases Nat.lt_or_ge j pos with h6 | h6
    ·exact hall j h6
    ·have:j=pos:=by omega
     subst this;exact hu,rfl,rfl⟩,⟨rfl,rfl,trivial⟩,⟨rfl,trivial⟩,rfl⟩
  ·have c1:=af (show decide (((R:Nat):Int) < 65)=true from c1)
   omega
theorem q0 {xs:List QC} {k:Int} {p:PL} {ins:List UInt8} {day:Int} {z:QC} (hin:∀ y∈xs,y.In) (hz:z∈bq xs k p ins day):z.In/\d8 z.price=true/\z.src≠[]/\bc p=true:=by
 unfold bq at hz
 split at hz
 ·rename_i h0
  obtain ⟨h1,-⟩:=q8 hz
  obtain ⟨h2,h3,h4⟩:=qk h1
  obtain ⟨h5,-⟩:=rk h3 h4
  refine ⟨hin z h2,h5,?_,?_⟩
  ·have:=(oa (kS h3).1).1
   intro h6;rw [h6] at this;cases this
  ·unfold io at h0
   split at h0
   ·rename_i h7;exact absurd h0 h7
   ·split at h0
    ·rename_i h7;exact h7
    ·cases h0
 ·cases hz
theorem EJ {xs:List QC} {k:Int} {p:PL} {ins:List UInt8} {day:Int}:(bq xs k p ins day).length<=8:=by
 unfold bq
 split
 ·rename_i h0
  unfold io at h0
  split at h0
  ·rename_i h7;exact absurd h0 h7
  ·split at h0
   ·rename_i h7
    unfold bc at h7
    simp only [Bool.and_eq_true,decide_eq_true_eq] at h7
    exact Nat.le_trans (vf _ _ _ _ _) h7.1.2
   ·cases h0
 ·simp
theorem Dx {p:PL} (h:bc p=true):j8 p.tol=true/\dE p.tol 0 1=true:=by
 unfold bc at h
 simp only [Bool.and_eq_true] at h
 exact h.2.2.1
theorem wW {L:List QC} {z:QC} (h:(cA (ij L))[((ij L).length - 1) / 2]? = some z):cV L=z.price/\z∈L:=by
 have e1:dG ltP ((ij L).map QC.price)=(dG ltQ (ij L)).map QC.price:=(Dk QC.price (fun _ _=>rfl) _).symm
 have e2:(dG ltQ (ij L)).length=(ij L).length:=qw _ _
 refine ⟨?_,?_⟩
 ·unfold cV Po
  rw [e1,List.length_map,e2,<- List.map_reverse,List.getElem?_map]
  unfold cA at h
  rw [h];rfl
 ·have:=List.mem_of_getElem? h
  unfold cA at this
  rw [List.mem_reverse,uq] at this
  exact (List.mem_filter.1 this).1
theorem Bm {L:List QC} (h:0 < L.length):∃ z,(cA (ij L))[((ij L).length - 1) / 2]? = some z/\0 < (ij L).length:=by
 have hp:0 < (ij L).length:=by
  cases L with
  | nil=>cases h
  | cons y r =>
   have:y∈ij (y :: r):=by
    rw [y6,List.mem_filter]
    exact ⟨by simp,decide_eq_true rfl⟩
   exact List.length_pos_of_mem this
 exact ⟨_,List.getElem?_eq_getElem (by rw [kQ];omega),hp⟩
theorem PJ:2000000000000000000000*100000000000000 < BB ^ 32:=by decide
theorem PH:100000000000000000000000*1000000000000 < BB ^ 32:=by decide
theorem DG {L:List QC} {tol:RQ} (ht:tol.In) (h1:j8 tol=true) (h2:dE tol 0 1=true) (hL:∀ z∈L,z.In/\d8 z.price=true) {z:QC} (hz:z∈L):ay Tryz.prog 88 [SV.c (.agg z.price.A),SV.c (.agg (cV L).A),SV.c (.agg tol.A)] (.bool (uF z.price (cV L) tol))/\ay Tryz.prog 224 [SV.c (.agg z.price.A),SV.c (.agg (cV L).A),SV.c (.agg tol.A)] (.bool (uF z.price (cV L) tol))/\d8 (cV L)=true:=by
 obtain ⟨y,hy,-⟩:=Bm (L:=L) (List.length_pos_of_mem hz)
 obtain ⟨e1,hyL⟩:=wW hy
 obtain ⟨k1,k2⟩:=hL z hz
 obtain ⟨k3,k4⟩:=hL y hyL
 rw [e1]
 obtain ⟨o1,o2,o3,b1,b2,b3,b4⟩:=J2 k2 k4 h1 h2
 refine ⟨MY k1.price k3.price ht o2 o3,MZ k1.price k3.price ht ?_ ?_,k4⟩
 ·rw [Int.natAbs_mul]
  exact Nat.lt_of_le_of_lt (Nat.mul_le_mul b1 b4) PJ
 ·rw [Int.natAbs_mul]
  exact Nat.lt_of_le_of_lt (Nat.mul_le_mul b3 b2) PH
theorem CH.size (h:CH) (v:Value):(h.A v).size=70:=by simp [CH.A,RQ.A_size]
theorem zh:qX.A (.slice none 0 0)=Ou.zero:=by kernel_rfl
theorem CH.g0 (h:CH) (v:Value):(h.A v)[0]? = some (.string (S h.src)):=by kernel_rfl
theorem CH.g4 (h:CH) (v:Value):(h.A v)[69]? = some v:=by
 have h1:h.A v=((#[.string (S h.src),.string (S h.cur),.int .i64 h.day]:Array Value)++h.price.A)++#[v]:=by simp [CH.A]
 have h2:((#[.string (S h.src),.string (S h.cur),.int .i64 h.day]:Array Value)++h.price.A).size=69:=by simp [RQ.A_size]
 rw [h1,Array.getElem?_append_right (by omega),h2]
 rfl
theorem CH.fits (h:CH) {a:Option Addr} {n c:Nat}:Fits (h.A (.slice a n c)) 70:=⟨h.size _,by
 rw [CH.A,Array.all_append,Array.all_append,h.price.A_fits.one]
 simp [Value.oneCell']⟩
theorem CH.set0 (h:CH) (v:Value) (l:List UInt8):(h.A v).setIfInBounds (0+0) (.string (S l))=({ h with src:=l }:CH).A v:=by kernel_rfl
theorem CH.set1 (h:CH) (v:Value) (l:List UInt8):(h.A v).setIfInBounds (0+1) (.string (S l))=({ h with cur:=l }:CH).A v:=by kernel_rfl
theorem CH.set2 (h:CH) (v:Value) (n:Int):(h.A v).setIfInBounds (0+2) (.int .i64 n)=({ h with day:=n }:CH).A v:=by kernel_rfl
theorem CH.set3 (h:CH) (v:Value) (r:RQ):aM (h.A v) (0+3) r.A.toList=({ h with price:=r }:CH).A v:=by kernel_rfl
theorem CH.set4 (h:CH) (v u:Value):(h.A v).setIfInBounds (0+69) u=h.A u:=by kernel_rfl
theorem Ga {E:Env} (hE:E.P=Tryz.prog) (a:QC):bH E (Instr.field 63 (.agg a.A) 4) (.agg a.price.A):=fun w _=>by
 rw [hE]
 have h:=bZ (P:=Tryz.prog) o8 rfl a.A 4 w
 have e:a.A.extract 4 (4+cR.size)=a.price.A:=a.gpri
 rw [e] at h
 simp [Instr.field,Sem.run_bind,run_underlying Tryz.underlying63,asAgg,h]
theorem Ez {E:Env} (hE:E.P=Tryz.prog) {x:Value} {n:Nat} {L:List QC} (_hn:n=L.length) (h0:0 < n) (hm:n<=1000000000):OwnC E 84 [SV.c x] [(4000,Blk.own x 63 72 n (cat QC.A L))] (fun r U=>(IsL r n/\CO r)/\U=[(4000,Blk.own x 63 72 n (cat QC.A L)),(6000,Blk.own r 63 72 n (cat QC.A L))]):=by
 have h1:(cat QC.A L).all (·.oneCell')=true:=Go.SX.cat_all (fun a=>a.one) L
 refine (OwnC.caps (OwnC.with_own (k:=4000) (v:=x) (e:=63) (sz:=72) (n:=n) (A:=cat QC.A L) (pre:=[]) rfl rfl h1 (by rw [hE];exact PP.enters) (fun E0 h hl=>CL (h.trans hE) hl h0 hm) (fun x U h=>by rw [h.2];rfl))).mono ?_
 rintro y U ⟨⟨U0,⟨h1,rfl⟩,rfl⟩,h3⟩
 exact ⟨⟨h1,h3 6000 _ _ _ _ _ rfl⟩,rfl⟩
theorem AZ {E:Env} (hE:E.P=Tryz.prog) {x s:Value} {L M:List QC} {n l:Nat} (hnM:n=M.length) (hl:l=L.length) (hM:M.length<=1000) (hn:0 < L.length) (hx:IsL x n) (hcap:CO x):OwnC E 83 [SV.c x,SV.clo 85 [7000]] [(4000,Blk.own s 63 72 l (cat QC.A L)),(7000,Blk.row 26 1 #[s]),(6000,Blk.own x 63 72 n (cat QC.A M))] (fun r U=>∃ m,m=(M.filter (cK L)).length/\IsL r m/\U=[(4000,Blk.own s 63 72 l (cat QC.A L)),(7000,Blk.row 26 1 #[s]),(6000,Blk.own r 63 72 m (cat QC.A (M.filter (cK L))))]):=by
 subst hl
 have h1:(cat QC.A L).all (·.oneCell')=true:=Go.SX.cat_all (fun a=>a.one) L
 refine (OwnC.with_own (k:=4000) (v:=s) (e:=63) (sz:=72) (n:=L.length) (A:=cat QC.A L) (pre:=[(7000,Blk.row 26 1 #[s]),(6000,Blk.own x 63 72 n (cat QC.A M))]) rfl rfl h1 (by rw [hE];exact PQ.enters) (fun E0 h hl=>Ih (h.trans hE) hnM hM hl hn hx hcap) (fun x U ⟨m,_,_,hU⟩=>by rw [hU];rfl)).mono ?_
 rintro y U ⟨U0,⟨m,h1,h2,rfl⟩,rfl⟩
 exact ⟨m,h1,h2,rfl⟩
theorem Al {E:Env} (hE:E.P=Tryz.prog) {x:Value} {M:List QC} {n:Nat} (hnM:n=M.length) (hn:0 < n) (hM:n < 20) (hok:∀ z∈M,z.In/\z.price.ok=true):OwnC E 86 [SV.c x,SV.c (fnV 87)] [(6000,Blk.own x 63 72 n (cat QC.A M))] (fun r U=>(∃ z,(cA M)[(M.length - 1) / 2]? = some z/\r=.agg z.A)/\U=[(6000,Blk.own x 63 72 n (cat QC.A M))]):=by
 subst hnM
 have h1:(cat QC.A M).all (·.oneCell')=true:=Go.SX.cat_all (fun a=>a.one) M
 refine (OwnC.with_own (k:=6000) (v:=x) (e:=63) (sz:=72) (n:=M.length) (A:=cat QC.A M) (pre:=[]) rfl rfl h1 (by rw [hE];exact PO.enters) (fun E0 h hl=>GW (h.trans hE) hl hn hM hok) (fun x U h=>by rw [h.2];rfl)).mono ?_
 rintro y U ⟨U0,⟨h1,rfl⟩,rfl⟩
 exact ⟨h1,rfl⟩
def cm (L:List QC) (tol:RQ) (i:Nat):Option QC:=(L.take i).find? (dq (eJ L) (cV L) tol)
def pn (L:List QC) (tol:RQ) (i:Nat):List (List UInt8):=((L.take i).filter (fun q=>!dq (eJ L) (cV L) tol q)).map QC.src
theorem F8 (L:List QC) (tol:RQ) (i:Nat):(pn L tol i).length<=i:=by
 unfold pn
 rw [List.length_map]
 exact Nat.le_trans (List.length_filter_le _ _) (by simp;omega)
theorem pm {L:List QC} {tol:RQ} {i:Nat} {z:QC} (hz:L[i]? = some z) (h:dq (eJ L) (cV L) tol z=false):pn L tol (i+1)=pn L tol i++[z.src]:=by
 unfold pn
 rw [List.take_add_one,hz,List.filter_append]
 simp [h]
theorem Dp {L:List QC} {tol:RQ} {i:Nat} {z:QC} (hz:L[i]? = some z) (h:dq (eJ L) (cV L) tol z=true):pn L tol (i+1)=pn L tol i:=by
 unfold pn
 rw [List.take_add_one,hz,List.filter_append]
 simp [h]
theorem sw {L:List QC} {tol:RQ} {i:Nat} {z:QC} (hz:L[i]? = some z) (h:dq (eJ L) (cV L) tol z=false):cm L tol (i+1)=cm L tol i:=by
 unfold cm
 rw [List.take_add_one,hz,List.find?_append]
 simp [h]
theorem xn {L:List QC} {tol:RQ} {i:Nat} {z:QC} (hz:L[i]? = some z) (h:dq (eJ L) (cV L) tol z=true):cm L tol (i+1)=some ((cm L tol i).getD z):=by
 unfold cm
 rw [List.take_add_one,hz,List.find?_append]
 simp only [Option.toList,List.find?_cons,h]
 cases List.find? (dq (eJ L) (cV L) tol) (List.take i L)<;>rfl
theorem CH.fill4 (h:CH) (v:Value) (z:QC):∃ A1 A2 A3,(h.A v).setIfInBounds (0+0) (.string (S z.src))=A1/\A1.setIfInBounds (0+1) (.string (S z.cur))=A2/\A2.setIfInBounds (0+2) (.int .i64 z.day)=A3/\aM A3 (0+3) z.price.A.toList=(j9 (some z)).A v :=
 ⟨_,_,_,CH.set0 h v z.src,CH.set1 _ v z.cur,CH.set2 _ v z.day,CH.set3 _ v z.price⟩
theorem qR (l:List UInt8):Instr.fill (fun k=>some (k*ti9.size,ti9.size)) (madeCells ti9.zero (1*ti9.size)) [(0,.string (S l))]=some (bF l):=by kernel_rfl
theorem sn (l:List UInt8):(bF l).extract 0 (0+1*1)=bF l:=rfl
theorem gP (l:List UInt8):(bF l).all (·.oneCell')=true:=by simp [bF,Value.oneCell']
theorem s6:∃ q,Tryz.prog.info? 9=some q/\q.bytes=16:=fE (by kernel_rfl)
def Ll (xs:List QC) (k:Int) (p:PL) (ins:List UInt8) (day:Int) (x:Value) (U:aA):Prop:=∃ s n,n=(sx (bq xs k p ins day) p.tol).length/\x=.tuple #[.agg ((dt (bq xs k p ins day) p.tol).A s),.int .i64 (oh xs k p ins day)]/\IsL s n/\U=[(9000,Blk.own s 9 1 n (cat bF (sx (bq xs k p ins day) p.tol)))]
theorem xr {xs:List QC} {k:Int} {p:PL} {ins:List UInt8} {day:Int} {e:Int} (h:bq xs k p ins day=[]) (he:oh xs k p ins day=e):Ll xs k p ins day (cW [.agg (qX.A (.slice none 0 0)),.int .i64 e]) [(9000,Blk.own (.slice none 0 0) 9 1 0 #[])]:=⟨.slice none 0 0,0,by rw [h];rfl,by rw [h,he];rfl,.nil,by rw [h];rfl⟩
theorem EK {xs:List QC} {k:Int} {p:PL} {ins:List UInt8} {day:Int} (h:io xs k p day≠0):bq xs k p ins day=[]:=by unfold bq;rw [if_neg h]
theorem xq {E:Env} (hE:E.P=Tryz.prog) {v:Value} {k:Int} {xs:List QC} (hv:Lst E v 72 xs.length (cat QC.A xs)) (hn:xs.length<=1000000000000) (hin:∀ y∈xs,y.In) {vp:Value} {p:PL} (hp:Lst E vp 1 p.srcs.length (cat bF p.srcs)) (hpn:p.srcs.length<=1000000000000000) (hpin:p.In) (ins:List UInt8) (day:Int):OwnC E 33 [SV.c v,SV.c (.agg (p.A vp)),SV.c (.int .i64 k),SV.c (.string (S ins)),SV.c (.int .i64 day)] [] (Ll xs k p ins day):=by
 refine aD [] ai ak UO E hE [SV.c v,SV.c (.agg (p.A vp)),SV.c (.int .i64 k),SV.c (.string (S ins)),SV.c (.int .i64 day)] [] _ rfl rfl fun w X β hT=>?_
 have hv':=hv.of_old hT
 have hp':=hp.of_old hT
 have C1:=NI (k:=k) rfl hv' hn hin hp' hpn hpin ins day
 obtain ⟨a,cap,rfl,hc,h4⟩:=id hp'.shape
 have F1:=p.size (.slice a p.srcs.length cap)
 have G1:=p.g1 (.slice a p.srcs.length cap)
 generalize p.A (.slice a p.srcs.length cap)=PA at *
 refine ⟨F1,?_⟩
 refine .inr (.inr (.inr ⟨[],[4000],[_,_,_,_,_],[],_,C1,rfl,trivial,rfl,trivial,?_⟩))
 rintro r U ⟨s,n,hsn,rfl,hs,rfl⟩
 obtain ⟨sa,sc,rfl⟩:=hs.len
 have hlen:=EJ (xs:=xs) (k:=k) (p:=p) (ins:=ins) (day:=day)
 have hmem:=fun z hz=>q0 (k:=k) (p:=p) (ins:=ins) (day:=day) (z:=z) hin hz
 refine ⟨rfl,by decide,rfl,#[.slice sa n sc],rfl,fun c1=>?_,fun c1=>?_⟩
 ·have c1:(io xs k p day != 0)=true:=c1
  have c1:io xs k p day≠0:=by simpa using c1
  exact ⟨qX.A (.slice none 0 0),(by kernel_rfl),CH.fits _,[(9000,Blk.own (.slice none 0 0) 9 1 0 #[])],[],xr (EK c1) (by unfold oh;rw [if_pos c1]),⟨.inr ⟨rfl,rfl,rfl⟩,trivial⟩,rfl⟩
 have c1:(io xs k p day != 0)=false:=c1
 have c1:io xs k p day=0:=by simpa using c1
 refine ⟨_,rfl,_,fun w' _=>ao Tryz.underlying26 w',fun c2=>?_,fun c2=>?_⟩
 ·have c2:((n:Int) == 0)=true:=c2
  have c2:n=0:=by have:=af c2;omega
  have e1:bq xs k p ins day=[]:=List.eq_nil_of_length_eq_zero (by omega)
  exact ⟨qX.A (.slice none 0 0),(by kernel_rfl),CH.fits _,[(9000,Blk.own (.slice none 0 0) 9 1 0 #[])],[],xr e1 (by unfold oh;rw [if_neg (by rw [c1];decide),if_pos e1]),⟨.inr ⟨rfl,rfl,rfl⟩,trivial⟩,rfl⟩
 have c2:((n:Int) == 0)=false:=c2
 have c2:n≠0:=fun h=>by rw [h] at c2;cases c2
 have eE:oh xs k p ins day=0:=by
  unfold oh
  rw [if_neg (by rw [c1];decide),if_neg]
  intro h;rw [h] at hsn;exact c2 hsn
 unfold Ll
 rw [eE,c1]
 clear eE
 generalize bq xs k p ins day=L at *
 have K1:=Ez (E:=(aY Tryz.prog tt Tryz.f33.ntmps w X (aJ [] β)).toEnv) rfl (x:=.slice sa n sc) (L:=L) hsn (by omega) (by omega)
 refine ⟨_,rfl,.inr (.inr (.inr ⟨[],[6000],[_],[_],_,K1,rfl,⟨.inl rfl,trivial⟩,rfl,trivial,?_⟩))⟩
 rintro y U ⟨⟨hy,hycap⟩,rfl⟩
 refine ⟨rfl,?_⟩
 have D1:=AZ (E:=(aY Tryz.prog tt Tryz.f33.ntmps w X (aJ [] β)).toEnv) rfl (x:=y) (s:=.slice sa n sc) (L:=L) (M:=L) hsn hsn (by omega) (by omega) hy hycap
 refine .inr (.inr (.inr ⟨[(7000,12)],[],[_,_],[_,_,_],_,D1,rfl,⟨.inl rfl,rfl,.inl rfl,trivial⟩,rfl,trivial,?_⟩))
 rintro z U ⟨m,hm,hz,rfl⟩
 refine ⟨rfl,?_⟩
 have hpos:0 < L.length:=by omega
 obtain ⟨mid,hmid,hcp⟩:=Bm hpos
 obtain ⟨ey,hmidL⟩:=wW hmid
 have hcl:(ij L).length<=L.length:=List.length_filter_le _ _
 have M1:=Al (E:=(aY Tryz.prog tt Tryz.f33.ntmps w X (aJ [] β)).toEnv) rfl (x:=z) (M:=ij L) (n:=m) hm (by rw [hm];exact hcp) (by rw [hm,<- y6];omega) (fun q hq=>⟨(hmem q (List.mem_filter.1 hq).1).1,(qG (hmem q (List.mem_filter.1 hq).1).2.1).1⟩)
 refine .inr (.inr (.inr ⟨[],[],[_,_],[_],_,M1,rfl,⟨.inl rfl,trivial⟩,rfl,trivial,?_⟩))
 rintro r U ⟨⟨mid',hmid',rfl⟩,rfl⟩
 obtain rfl:mid'=mid:=by rw [hmid] at hmid';exact (Option.some.inj hmid').symm
 refine ⟨rfl,_,Ga rfl mid',?_⟩
 rw [<- ey]
 have hrs:∀ q∈L,ay Tryz.prog 88 [SV.c (.agg q.price.A),SV.c (.agg (cV L).A),SV.c (.agg p.tol.A)] (.bool (uF q.price (cV L) p.tol)):=fun q hq=>by
  obtain ⟨t1,t2⟩:=Dx (hmem q hq).2.2.2
  exact (DG hpin.tol t1 t2 (fun z hz=>⟨(hmem z hz).1,(hmem z hz).2.1⟩) hq).1
 clear K1 D1 M1 C1
 have YF:=(cV L).A_fits
 have hsb:∀ i,(pn L p.tol i).length<=i:=F8 L p.tol
 have eb:sx L p.tol=pn L p.tol L.length:=by unfold pn sx;rw [List.take_length]
 have ef:dt L p.tol=j9 (cm L p.tol L.length):=by unfold cm dt;rw [List.take_length]
 rw [eb,ef]
 refine ⟨YF,_,rfl,_,fun w' _=>ao Tryz.underlying26 w',?_⟩
 generalize hYA:(cV L).A=YA at *
 refine ⟨fun q f m=>∃ (i:Nat) (y:Value) (N:Nat),q=L.length - i/\i<=L.length/\N=(pn L p.tol i).length/\IsL y N/\f=[(6,SV.ptr 6 0),(10,SV.ptr 10 0),(12,SV.ptr 12 0),(15,SV.ptr 15 0),(16,SV.ptr 16 0),(45,SV.c (.slice sa n sc)),(46,SV.c (.int .i64 (n:Nat))),(47,SV.c (.int .i64 (i:Nat)))]/\m=[(9000,Blk.own y 9 1 N (cat bF (pn L p.tol i))),(16,Blk.row 80 70 ((j9 (cm L p.tol i)).A y)),(15,Blk.row 33 66 YA),(12,Blk.row 26 1 #[.slice sa n sc]),(10,Blk.row 80 70 (qX.A (.slice none 0 0))),(6,Blk.row 35 68 PA),(4000,Blk.own (.slice sa n sc) 63 72 n (cat QC.A L))],L.length,⟨_,_,⟨0,.slice none 0 0,0,by omega,by omega,rfl,.nil,rfl,rfl⟩,⟨rfl,rfl,rfl,rfl,rfl,rfl,rfl,rfl,trivial⟩,⟨.inr ⟨rfl,rfl,rfl⟩,congrArg (fun A=>some (Blk.row 80 70 A)) zh.symm,rfl,rfl,congrArg (fun A=>some (Blk.row 80 70 A)) zh.symm,rfl,.inl rfl,trivial⟩,rfl⟩,?_⟩
 rintro q f m ⟨i,y,N,rfl,hi,hN,hy,rfl,rfl⟩
 refine ⟨fun h=>?_,fun h=>?_⟩
 ·have h:i < n:=by have:=af h;omega
  obtain ⟨z,hz⟩:∃ z,L[i]? = some z:=⟨_,List.getElem?_eq_getElem (by omega)⟩
  have hzL:=List.mem_of_getElem? hz
  have hNl:N<=i:=by rw [hN];exact hsb i
  obtain ⟨y0,hy0⟩:∃ z,L[0]? = some z:=⟨_,List.getElem?_eq_getElem (by omega)⟩
  have ec:eJ L=y0.cur:=by
   unfold eJ
   cases L with
   | nil=>cases hy0
   | cons z0 r=>simp at hy0;subst hy0;rfl
  rcases hs with ⟨hs1,hs2⟩ | ⟨g0,c0,hs1⟩
  ·omega
  cases hs1
  have L2:=cr QC.size hz
  have j2:i*72+72<=(cat QC.A L).size:=by rw [Go.SX.cat_size QC.size];omega
  have L0:(cat QC.A L)[0+2]? = some (.string (S y0.cur)):=by
   have:=dV QC.size L 0 y0 2 hy0 (by omega)
   rw [y0.g2] at this
   simpa using this
  have K9:=hrs z hzL
  have Z0:=z.g0
  have Z2:=z.g2
  have Z3:=z.g3
  have ZP:=z.gpri
  have ZF:=z.fits
  have C0:=CH.g0 (j9 (cm L p.tol i)) y
  have C4:=CH.g4 (j9 (cm L p.tol i)) y
  have S4:=fun u=>CH.set4 (j9 (cm L p.tol i)) y u
  obtain ⟨A1,A2,A3,T1,T2,T3,T4⟩:=CH.fill4 (j9 (cm L p.tol i)) y z
  have PF:=z.price.A_fits
  generalize hC:(j9 (cm L p.tol i)).A y=CA at *
  generalize hD:(j9 (some z)).A y=DA at *
  generalize hX:cat QC.A L=XA at *
  generalize hY:z.A=ZA at *
  refine ⟨by omega,by omega,.inr ⟨4000,g0,_,n,_,_,_,_,rfl,rfl,(by rw [du];exact j2),ZA,(by rw [du];exact L2),ZF,?_⟩⟩
  refine ⟨_,Z2,_,rfl,by decide,by omega,.inr ⟨4000,g0,_,n,_,_,_,_,rfl,rfl,_,L0,?_⟩⟩
  refine ⟨fun k1=>?_,fun k1=>?_⟩
  ·have k1:(!((S z.cur).toList == (S y0.cur).toList))=false:=k1
   rw [eG] at k1
   have k1:decide (z.cur=eJ L)=true:=by rw [ec];simpa using k1
   refine ⟨by decide,_,ZP,by decide,_,G1,.inl ⟨_,K9,by kernel_rfl,fun k2=>?_,fun k2=>?_⟩⟩
   ·have k2:=bu k2
    have hg:dq (eJ L) (cV L) p.tol z=false:=by unfold dq;rw [k1,k2];rfl
    refine ⟨_,C4,_,Z0,.inl ⟨by decide,by decide,_,qR z.src,rfl,by decide,9000,N,_,.inl rfl,by decide,gP z.src,rfl,_,sn z.src,?_⟩⟩
    obtain ⟨q,hq,hb⟩:=s6
    refine ⟨by omega,by unfold maxLen;omega,⟨q,hq,by rw [hb];omega⟩,trivial,fun g2 cap2=>?_⟩
    refine ⟨by decide,rfl,_,S4 _,?_⟩
    exact ⟨L.length - (i+1),_,_,by omega,⟨i+1,_,N+1,rfl,by omega,by rw [pm hz hg,List.length_append,<- hN];rfl,.some,rfl,rfl⟩,⟨rfl,rfl,rfl,rfl,rfl,rfl,rfl,ar (ax (by omega)),trivial⟩,⟨.inl (bC (by rw [pm hz hg,cat_append,lO])),congrArg (fun B=>some (Blk.row 80 70 ((j9 B).A _))) (sw hz hg).symm,rfl,rfl,rfl,rfl,.inl rfl,trivial⟩,rfl⟩
   ·have k2:=bw k2
    have hg:dq (eJ L) (cV L) p.tol z=true:=by unfold dq;rw [k1,k2];rfl
    have eb:=Dp hz hg
    have ef:=xn hz hg
    refine ⟨_,C0,fun k3=>?_,fun k3=>?_⟩
    ·have k3:(j9 (cm L p.tol i)).src=[]:=kP k3
     have e0:cm L p.tol i=none:=by
      cases e:cm L p.tol i with
      | none=>rfl
      | some q =>
       rw [e] at k3
       have hq:q∈L:=by
        unfold cm at e
        exact List.mem_of_mem_take (List.mem_of_find?_eq_some e)
       exact absurd k3 (hmem q hq).2.2.1
     rw [e0] at ef
     refine ⟨_,Z0,_,Z2,_,Z3,by decide,_,ZP,by decide,rfl,A1,T1,by decide,rfl,A2,T2,by decide,rfl,A3,T3,by decide,PF,DA,T4,?_⟩
     exact ⟨by kernel_rfl,L.length - (i+1),_,_,by omega,⟨i+1,y,N,rfl,by omega,by rw [eb];exact hN,hy,rfl,rfl⟩,⟨rfl,rfl,rfl,rfl,rfl,rfl,rfl,ar (ax (by omega)),trivial⟩,⟨.inl (bC (by rw [eb])),(by rw [ef,<- hD];rfl),rfl,rfl,rfl,rfl,.inl rfl,trivial⟩,rfl⟩
    ·have k3:(j9 (cm L p.tol i)).src≠[]:=kO k3
     have e0:cm L p.tol (i+1)=cm L p.tol i:=by
      rw [ef]
      cases e:cm L p.tol i with
      | none=>rw [e] at k3;exact absurd rfl k3
      | some q=>rfl
     exact ⟨L.length - (i+1),_,_,by omega,⟨i+1,y,N,rfl,by omega,by rw [eb];exact hN,hy,rfl,rfl⟩,⟨rfl,rfl,rfl,rfl,rfl,rfl,rfl,ar (ax (by omega)),trivial⟩,⟨.inl (bC (by rw [eb])),(by rw [e0,hC];rfl),rfl,rfl,rfl,rfl,.inl rfl,trivial⟩,rfl⟩
  ·have k1:(!((S z.cur).toList == (S y0.cur).toList))=true:=k1
   rw [eG] at k1
   have k1:decide (z.cur=eJ L)=false:=by rw [ec];simpa using k1
   have hg:dq (eJ L) (cV L) p.tol z=false:=by unfold dq;rw [k1];rfl
   refine ⟨by kernel_rfl,fun _=>?_,nofun⟩
   refine ⟨_,C4,_,Z0,.inl ⟨by decide,by decide,_,qR z.src,rfl,by decide,9000,N,_,.inl rfl,by decide,gP z.src,rfl,_,sn z.src,?_⟩⟩
   obtain ⟨q,hq,hb⟩:=s6
   refine ⟨by omega,by unfold maxLen;omega,⟨q,hq,by rw [hb];omega⟩,trivial,fun g2 cap2=>?_⟩
   refine ⟨by decide,rfl,_,S4 _,?_⟩
   exact ⟨L.length - (i+1),_,_,by omega,⟨i+1,_,N+1,rfl,by omega,by rw [pm hz hg,List.length_append,<- hN];rfl,.some,rfl,rfl⟩,⟨rfl,rfl,rfl,rfl,rfl,rfl,rfl,ar (ax (by omega)),trivial⟩,⟨.inl (bC (by rw [pm hz hg,cat_append,lO])),congrArg (fun B=>some (Blk.row 80 70 ((j9 B).A _))) (sw hz hg).symm,rfl,rfl,rfl,rfl,.inl rfl,trivial⟩,rfl⟩
 ·have h:i=n:=by have:=ag h;omega
  obtain rfl:i=L.length:=by omega
  have CF:Fits ((j9 (cm L p.tol L.length)).A y) 70:=by obtain ⟨ya,yc,rfl⟩:=hy.len;exact CH.fits _
  generalize hC:(j9 (cm L p.tol L.length)).A y=CA at *
  refine ⟨CF,[(9000,Blk.own y 9 1 N (cat bF (pn L p.tol L.length)))],[],⟨y,N,hN,by rw [hC];rfl,hy,rfl⟩,⟨.inl rfl,trivial⟩,rfl⟩
def QC.beq (a b:QC):Bool:=decide (a.src=b.src) && (decide (a.ins=b.ins) && (decide (a.cur=b.cur) && ((a.day == b.day) && (a.price.beq b.price && ((a.known == b.known) && ((a.void == b.void) && true))))))
theorem QC.beq_self (a:QC):a.beq a=true:=by simp [QC.beq,RQ.beq_self]
theorem CH.g1 (h:CH) (v:Value):(h.A v)[1]? = some (.string (S h.cur)):=by kernel_rfl
theorem CH.g2 (h:CH) (v:Value):(h.A v)[2]? = some (.int .i64 h.day):=by kernel_rfl
theorem CH.g3 (h:CH) (v:Value):(h.A v).extract 3 (3+66)=h.price.A:=by
 have h2:h.price.A.size=66:=RQ.A_size _
 rw [CH.A,Array.extract_append]
 have e:(#[.string (S h.src),.string (S h.cur),.int .i64 h.day]:Array Value).size=3:=rfl
 rw [e,Array.extract_append,h2]
 have e2:h.price.A.extract (3 - 3) (3+66 - 3)=h.price.A:=by
  rw [show (3+66 - 3:Nat)=h.price.A.size by omega,Nat.sub_self,Array.extract_size]
 rw [e2]
 apply Array.ext'
 simp
def bO:List (List UInt8):=[[97],[98],[99],[100,52]]
theorem Ec:Instr.fill (fun k=>some (k*ti9.size,ti9.size)) (madeCells ti9.zero (4*ti9.size)) [(0,.string (S [97])),(1,.string (S [98])),(2,.string (S [99])),(3,.string (S [100,52]))]=some (cat bF bO):=by kernel_rfl
theorem dB (E0:Env) (hP:E0.P=Tryz.prog) (key:Key):Own E0 98 [] [] (SV.sl key 0 4 4) [(key,Blk.row 9 4 (cat bF bO))]:=by
 refine Jq ai ak PK E0 hP [] 0 4 key 1 9 4 (cat bF bO) rfl rfl rfl fun w=>?_
 exact ⟨by decide,by decide,_,Ec,rfl,rfl,rfl⟩
theorem zV (l:List UInt8):((S l).toList == (S l).toList)=true:=by simp
theorem FZ {L:List QC} {tol:RQ} (h:∀ z∈L,z.In):(dt L tol).price.In:=by
 unfold dt
 cases e:L.find? (dq (eJ L) (cV L) tol) with
 | none=>exact iS
 | some q=>exact (h q (List.mem_of_find?_eq_some e)).price
theorem sS {x y:Int} (hy:0 < y) (hg:Int.gcd x y=1) (h1:bl x.natAbs<=480) (h2:bl y.natAbs<=480):mkQ x y=(.of x y,0):=by
 have hs:sgn y=1:=by unfold sgn;rw [if_neg (by omega),if_neg (by omega)]
 have e:sgn y*((Int.gcd x y:Nat):Int)=1:=by rw [hs,hg];rfl
 unfold mkQ
 rw [if_neg (by omega),e,Int.ediv_one,Int.ediv_one,if_pos ⟨h1,h2⟩]
def Ab (r s:RQ):RQ×Int:=if r.ok && s.ok then mkQ (r.p*s.q) (r.q*s.p) else (.of 0 0,20)
def df:RQ:=.of 1 1
theorem Gv:df.ok=true:=by decide
theorem wb:df.In:=RQ.of_in (Nat.lt_of_lt_of_le (by decide:1 < 18446744073709551616) jP) (Nat.lt_of_lt_of_le (by decide:1 < 18446744073709551616) jP)
structure Leg (r:RQ):Prop where
 ok:r.ok=true
 p0:0 < r.p
 p1:r.p.natAbs<=1000000000000000
 q1:r.q.natAbs<=1000000000000000
theorem Leg.in_ {r:RQ} (h:Leg r):r.In:=by
 obtain ⟨k1,k2,k3,k4,k5⟩:=RQ.ok_bits h.ok
 rw [k5]
 have hp:2 ^ dP < BB ^ 32:=uI
 have key:∀ z:Int,bl z.natAbs<=480->z.natAbs < BB ^ 32:=fun z h=>Nat.lt_trans (Nat.lt_of_lt_of_le (cO _).1 (Nat.pow_le_pow_right (j:=dP) (by omega) h)) hp
 exact RQ.of_in (key _ k1) (key _ k2)
theorem DT {r:RQ} (h:d8 r=true) (h0:0 < r.p):Leg r:=by
 obtain ⟨h1,h2⟩:=Ad h
 exact ⟨(qG h).1,h0,h2,by omega⟩
theorem Kh {r:RQ} (h:Leg r):Ab df r=(.of r.q r.p,0):=by
 obtain ⟨k1,k2,k3,k4,k5⟩:=RQ.ok_bits h.ok
 unfold Ab
 rw [Gv,h.ok,show df.p=1 from rfl,show df.q=1 from rfl,Int.one_mul,Int.one_mul]
 exact sS h.p0 (by rw [Int.gcd_comm];exact k4) k2 k1
theorem Ka {r:RQ} (h:Leg r):Leg (Ab df r).1:=by
 obtain ⟨k1,k2,k3,k4,k5⟩:=RQ.ok_bits h.ok
 rw [Kh h]
 refine ⟨RQ.ok_of k2 k1 h.p0 (by rw [Int.gcd_comm];exact k4),?_,?_,?_⟩
 ·show 0 < (RQ.of r.q r.p).p;rw [RQ.of_p];exact k3
 ·show (RQ.of r.q r.p).p.natAbs<=_;rw [RQ.of_p];exact h.q1
 ·show (RQ.of r.q r.p).q.natAbs<=_;rw [RQ.of_q];exact h.p1
theorem xV {r:RQ} (h:r.ok=true):bR df r=(r,0):=by
 obtain ⟨k1,k2,k3,k4,k5⟩:=RQ.ok_bits h
 unfold bR
 rw [Gv,h,show df.p=1 from rfl,show df.q=1 from rfl,Int.one_mul,Int.one_mul]
 refine (sS k3 k4 k1 k2).trans ?_
 rw [<- k5]
theorem J3 {r s:RQ} (h:Leg r) (g:Leg s):∃ t,bR r s=(t,0)/\t.ok=true/\t.In/\0 < t.p/\t.p*(r.q*s.q)=r.p*s.p*t.q:=by
 have hq:=(RQ.ok_bits h.ok).2.2.1
 have gq:=(RQ.ok_bits g.ok).2.2.1
 have b1:(r.p*s.p).natAbs < 2 ^ dP:=by
  rw [Int.natAbs_mul]
  exact Nat.lt_of_le_of_lt (Nat.mul_le_mul h.p1 g.p1) (by decide +kernel)
 have b2:(r.q*s.q).natAbs < 2 ^ dP:=by
  rw [Int.natAbs_mul]
  exact Nat.lt_of_le_of_lt (Nat.mul_le_mul h.q1 g.q1) (by decide +kernel)
 have hy:0 < r.q*s.q:=Int.mul_pos hq gq
 obtain ⟨t,e,h1,h2,-,-⟩:=pL hy b1 b2
 have em:bR r s=(t,0):=by unfold bR;rw [h.ok,g.ok];exact e
 refine ⟨t,em,h1,?_,?_,h2⟩
 ·have:=cD (r.p*s.p) (r.q*s.q);rw [e] at this;exact this
 ·have tq:=(RQ.ok_bits h1).2.2.1
  have:0 < t.p*(r.q*s.q):=by rw [h2];exact Int.mul_pos (Int.mul_pos h.p0 g.p0) tq
  exact Int.pos_of_mul_pos_left this hy
def fV (xs:List QC) (p:PL) (day:Int) (cs:List (List UInt8)):Int:=if cf xs≠0 then cf xs else if bc p then (if day < 0\/day > 73048 then 50 else if cs.all aF then 0 else 160) else 150
def jl (xs:List QC) (k:Int) (p:PL) (day:Int) (a b:List UInt8):RQ×Bool:=((dt (bq xs k p (a++b) day) p.tol).price,decide (oh xs k p (a++b) day=0) && decide ((dt (bq xs k p (a++b) day) p.tol).cur=b))
def iN (xs:List QC) (k:Int) (p:PL) (day:Int) (a b:List UInt8):Option RQ :=
 if (jl xs k p day a b).2 then some (jl xs k p day a b).1 else if (jl xs k p day b a).2 then some (Ab df (jl xs k p day b a).1).1 else none
def fW (xs:List QC) (k:Int) (p:PL) (day:Int) (a b:List UInt8):Option RQ:=if a=b then none else iN xs k p day a b
def cv (xs:List QC) (k:Int) (p:PL) (day:Int) (v a b:List UInt8):RQ×Int :=
 if fV xs p day [v,a,b]≠0 then (aG,fV xs p day [v,a,b]) else if a=b then (df,0) else
 match iN xs k p day a b with
 | some r=>(r,0)
 | none=>if v=a\/v=b then (aG,161) else match iN xs k p day a v,iN xs k p day v b with
  | some x,some y=>bR x y
  | _,_=>(aG,161)
theorem EI {xs:List QC} {k:Int} {p:PL} {ins:List UInt8} {day:Int} {z:QC} (hz:z∈bq xs k p ins day):d8 z.price=true/\0 < z.price.p:=by
 unfold bq at hz
 split at hz
 ·obtain ⟨h1,-⟩:=q8 hz
  obtain ⟨h2,h3,h4⟩:=qk h1
  exact rk h3 h4
 ·cases hz
theorem fY {l:List UInt8} (h:aF l=true):l≠[]:=by
 rintro rfl;simp [aF] at h
theorem CB {l:List UInt8} (h:aF l=true):l.length=3:=by
 unfold aF at h
 simp only [Bool.and_eq_true,decide_eq_true_eq] at h
 omega
theorem rP {xs:List QC} {k:Int} {p:PL} {day:Int} {a b:List UInt8} (hb:b≠[]) (h:(jl xs k p day a b).2=true):Leg (jl xs k p day a b).1:=by
 unfold jl at h ⊢
 simp only [Bool.and_eq_true,decide_eq_true_eq] at h
 have h2:=h.2
 show Leg (dt (bq xs k p (a++b) day) p.tol).price
 unfold dt at h2 ⊢
 cases e:(bq xs k p (a++b) day).find? (dq (eJ (bq xs k p (a++b) day)) (cV (bq xs k p (a++b) day)) p.tol) with
 | none=>rw [e] at h2;exact absurd h2.symm hb
 | some q =>
  have:=EI (List.mem_of_find?_eq_some e)
  exact DT this.1 this.2
theorem kW {xs:List QC} {k:Int} {p:PL} {day:Int} {a b:List UInt8} (ha:a≠[]) (hb:b≠[]) {r:RQ} (h:iN xs k p day a b=some r):Leg r:=by
 unfold iN at h
 split at h
 ·rename_i h1;cases h;exact rP hb h1
 ·split at h
  ·rename_i h1;cases h;exact Ka (rP ha h1)
  ·cases h
theorem B7 {xs:List QC} {p:PL} {day:Int} {cs:List (List UInt8)} (h:fV xs p day cs=0):cf xs=0/\bc p=true/\0<=day/\day<=73048/\∀ c∈cs,aF c=true:=by
 unfold fV at h
 split at h
 ·rename_i h1;exact absurd h h1
 rename_i h1
 split at h
 ·rename_i h2
  split at h
  ·cases h
  ·rename_i h3
   split at h
   ·rename_i h4
    rw [List.all_eq_true] at h4
    exact ⟨by simpa using h1,h2,by omega,by omega,h4⟩
   ·cases h
 ·cases h
def dY (v vp:Value) (p:PL) (k day:Int):Array Value:=#[v]++(p.A vp++#[.int .i64 k,.int .i64 day])
theorem ji (v vp:Value) (p:PL) (k day:Int):(dY v vp p k day).size=71:=by simp [dY,PL.size]
theorem DK {v vp:Value} (p:PL) (k day:Int) (h1:v.oneCell'=true) (h2:vp.oneCell'=true):Fits (dY v vp p k day) 71:=⟨ji _ _ _ _ _,by
 rw [dY,Array.all_append,Array.all_append,(p.fits h2).one]
 simp [h1]
 exact ⟨rfl,rfl⟩⟩
theorem GS (v vp:Value) (p:PL) (k day:Int):(dY v vp p k day)[0]? = some v:=by
 unfold dY
 rw [Array.getElem?_append_left (by simp)]
 rfl
theorem GQ (v vp:Value) (p:PL) (k day:Int):(dY v vp p k day).extract 1 (1+68)=p.A vp:=by
 have h:(p.A vp).size=68:=p.size vp
 unfold dY
 rw [Array.extract_append,Array.extract_append]
 simp [h]
theorem J6 (v vp:Value) (p:PL) (k day:Int):(dY v vp p k day)[69]? = some (.int .i64 k):=by
 have h:(p.A vp).size=68:=p.size vp
 unfold dY
 rw [Array.getElem?_append_right (by simp),Array.getElem?_append_right (by simp [h])]
 simp [h]
theorem B8 (v vp:Value) (p:PL) (k day:Int):(dY v vp p k day)[70]? = some (.int .i64 day):=by
 have h:(p.A vp).size=68:=p.size vp
 unfold dY
 rw [Array.getElem?_append_right (by simp),Array.getElem?_append_right (by simp [h])]
 simp [h]
structure MkR (E:Env) (v vp:Value) (xs:List QC) (p:PL):Prop where
 l:Lst E v 72 xs.length (cat QC.A xs)
 n:xs.length<=1000000000000
 inn:∀ y∈xs,y.In
 s:Lst E vp 1 p.srcs.length (cat bF p.srcs)
 m:p.srcs.length<=1000000000000000
 pin:p.In
theorem MkR.of_old {E E':Env} {v vp:Value} {xs:List QC} {p:PL} (h:MkR E v vp xs p) (hT:∀ w,OldW E' w->OldW E w):MkR E' v vp xs p:=⟨h.l.of_old hT,h.n,h.inn,h.s.of_old hT,h.m,h.pin⟩
theorem JN {E:Env} (hE:E.P=Tryz.prog) {v vp:Value} {xs:List QC} {p:PL} (h:MkR E v vp xs p) (k day:Int) {a b:List UInt8} (hab:a.length+b.length<=100):OwnC E 210 [SV.c (.agg (dY v vp p k day)),SV.c (.string (S a)),SV.c (.string (S b))] [] (fun x U=>x=.tuple #[.agg (jl xs k p day a b).1.A,.bool (jl xs k p day a b).2]/\U=[]):=by
 refine aD [] ai ak Rf E hE [SV.c (.agg (dY v vp p k day)),SV.c (.string (S a)),SV.c (.string (S b))] [] _ rfl rfl fun w X β hT=>?_
 have hr:=h.of_old hT
 have S1:=xq (k:=k) rfl hr.l hr.n hr.inn hr.s hr.m hr.pin (a++b) day
 rw [<- dH] at S1
 have M:=ji v vp p k day
 have M0:=GS v vp p k day
 have M1:=GQ v vp p k day
 have M2:=J6 v vp p k day
 have M3:=B8 v vp p k day
 have hsz:(S a).size+(S b).size<=9223372036854775807:=by rw [bm,bm];omega
 generalize dY v vp p k day=MA at *
 refine ⟨M,_,M0,by decide,_,M1,_,M2,hsz,_,M3,?_⟩
 refine .inr (.inr (.inr ⟨[],[9000],[_,_,_,_,_],[],_,S1,rfl,trivial,rfl,trivial,?_⟩))
 rintro r1 U1 ⟨s1,n1,hn1,rfl,hs1,rfl⟩
 obtain ⟨sa1,sc1,rfl⟩:=hs1.len
 refine ⟨rfl,CH.fits _,?_⟩
 have hd:jl xs k p day a b=((dt (bq xs k p (a++b) day) p.tol).price,decide (oh xs k p (a++b) day=0) && decide ((dt (bq xs k p (a++b) day) p.tol).cur=b)):=rfl
 generalize dt (bq xs k p (a++b) day) p.tol=C at *
 generalize oh xs k p (a++b) day=SE at *
 generalize jl xs k p day a b=D at *
 subst hd
 have C1:=CH.g1 C (.slice sa1 n1 sc1)
 have C3:=CH.g3 C (.slice sa1 n1 sc1)
 have PF:=C.price.A_fits
 generalize C.A (.slice sa1 n1 sc1)=CA at *
 refine ⟨by decide,_,C3,fun c=>?_,fun c=>?_⟩
 ·have c:(SE == 0)=true:=c
  refine ⟨_,C1,PF,by kernel_rfl,?_⟩
  refine ⟨[],[],⟨?_,rfl⟩,trivial,rfl⟩
  show Value.tuple #[_,.bool ((S C.cur).toList == (S b).toList)]=_
  rw [eG,decide_eq_true (show SE=0 by simpa using c),Bool.true_and]
 ·have c:(SE == 0)=false:=c
  refine ⟨PF,by kernel_rfl,?_⟩
  refine ⟨[],[],⟨?_,rfl⟩,trivial,rfl⟩
  rw [decide_eq_false (show ¬ SE=0 by simpa using c),Bool.false_and];rfl
def JX (o:Option RQ):Value:=.tuple #[.agg (o.getD aG).A,.bool o.isSome]
theorem MS {r s:RQ} (hr:r.In) (hs:s.In) (h1:(r.p*s.q).natAbs < BB ^ 32) (h2:(r.q*s.p).natAbs < BB ^ 32):ay Tryz.prog 254 [SV.c (.agg r.A),SV.c (.agg s.A)] (.tuple #[.agg (eA (r.p*s.q)),.agg (eA (r.q*s.p))]):=by
 refine al ai ak QB _ _ rfl rfl fun w=>?_
 refine ⟨r.A_size,s.A_size,by decide,_,r.cat_l,by decide,_,s.cat_r,.inl ⟨_,cT hr.num hs.den h1,by decide,_,r.cat_r,by decide,_,s.cat_l,.inl ⟨_,cT hr.den hs.num h2,am _,am _,by kernel_rfl,rfl,trivial⟩⟩⟩
theorem MR {r s:RQ} (hr:r.In) (hs:s.In):ay Tryz.prog 211 [SV.c (.agg r.A),SV.c (.agg s.A)] (j7 (Ab r s)):=by
 refine al ai ak Re _ _ rfl rfl fun w=>?_
 have h:=IB (g:=254) (x:=r.p*s.q) (y:=r.q*s.p) hr hs fun h1 h2=>by
  have k1:=RQ.ok_bits h1
  have k2:=RQ.ok_bits h2
  have m1:=dS k1.1 k2.2.1
  have m2:=dS k1.2.1 k2.1
  exact ⟨MS hr hs m1 m2,m1,m2⟩
 exact ⟨r.A_size,s.A_size,.inl ⟨_,h,RQ.A_fits _,rfl,trivial⟩⟩
theorem BR {E:Env} (hE:E.P=Tryz.prog) {v vp:Value} {xs:List QC} {p:PL} (h:MkR E v vp xs p) (k day:Int) {a b:List UInt8} (hab:a.length+b.length<=100):OwnC E 210 [SV.c (.agg (dY v vp p k day)),SV.c (.string (S a)),SV.c (.string (S b))] [] (fun x U=>x=.tuple #[.agg (jl xs k p day a b).1.A,.bool (jl xs k p day a b).2]/\U=[]):=JN hE h k day hab
theorem Pp {E:Env} (hE:E.P=Tryz.prog) {v vp:Value} {xs:List QC} {p:PL} (h:MkR E v vp xs p) (_hv:v.oneCell'=true) (_hvp:vp.oneCell'=true) (k day:Int) {a b:List UInt8} (ha:aF a=true) (hb:aF b=true):OwnC E 156 [SV.c (.agg (dY v vp p k day)),SV.c (.string (S a)),SV.c (.string (S b))] [] (fun x U=>x=JX (fW xs k p day a b)/\U=[]):=by
 refine aD [] ai ak R7 E hE [SV.c (.agg (dY v vp p k day)),SV.c (.string (S a)),SV.c (.string (S b))] [] _ rfl rfl fun w X β hT=>?_
 have hr:=h.of_old hT
 have la:=CB ha
 have lb:=CB hb
 have P1:=BR rfl hr k day (a:=a) (b:=b) (by omega)
 have P2:=BR rfl hr k day (a:=b) (b:=a) (by omega)
 have M:=ji v vp p k day
 generalize dY v vp p k day=MA at *
 have hL:fW xs k p day a b=if a=b then none else if (jl xs k p day a b).2 then some (jl xs k p day a b).1 else if (jl xs k p day b a).2 then some (Ab df (jl xs k p day b a).1).1 else none:=rfl
 have D1:=rP (xs:=xs) (k:=k) (p:=p) (day:=day) (a:=a) (b:=b) (fY hb)
 have D2:=rP (xs:=xs) (k:=k) (p:=p) (day:=day) (a:=b) (b:=a) (fY ha)
 generalize fW xs k p day a b=LQ at *
 generalize jl xs k p day a b=DA at *
 generalize jl xs k p day b a=DB at *
 obtain ⟨da,ea⟩:=DA
 obtain ⟨db,eb⟩:=DB
 refine ⟨M,fun c=>?_,fun c=>?_⟩
 ·have c:=kP c
  refine ⟨_,rfl,(RQ.of 0 0).A_fits,[],[],⟨?_,rfl⟩,trivial,rfl⟩
  rw [hL,if_pos c];rfl
 ·have c:=kO c
  rw [if_neg c] at hL
  refine .inr (.inr (.inl ⟨[],[_,_,_],[],_,[],P1,rfl,trivial,rfl,rfl,da.A_fits,fun c1=>?_,fun c1=>?_⟩))
  ·have c1:ea=true:=c1
   refine ⟨da.A_fits,[],[],⟨?_,rfl⟩,trivial,rfl⟩
   rw [hL,c1];rfl
  ·have c1:ea=false:=c1
   rw [c1] at hL
   refine .inr (.inr (.inl ⟨[],[_,_,_],[],_,[],P2,rfl,trivial,rfl,rfl,db.A_fits,fun c2=>?_,fun c2=>?_⟩))
   ·have c2:(!eb)=true:=c2
    have c2:eb=false:=by simpa using c2
    rw [c2] at hL
    have hL:LQ=none:=by rw [hL];simp
    refine ⟨_,rfl,(RQ.of 0 0).A_fits,[],[],⟨?_,rfl⟩,trivial,rfl⟩
    rw [hL];rfl
   ·have c2:(!eb)=false:=c2
    have c2:eb=true:=by simpa using c2
    rw [c2] at hL
    have hL:LQ=some (Ab df db).1:=by rw [hL];simp
    have hd:Leg db:=D2 c2
    refine .inl ⟨_,dK (n:=1) (by decide) (by decide),.inl ⟨_,MR wb hd.in_,RQ.A_fits _,by kernel_rfl,RQ.A_fits _,[],[],⟨?_,rfl⟩,trivial,rfl⟩⟩
    rw [hL];rfl
end Go.Proofs.YtklehfchdoikeaaGreatDoor
