/- The records of a book as marks: asof and its reference. The ; no condition. -/
import Derived.Sort.OwnSortedInts
import Derived.Test.YtklehfchdoikeaaGreatDoorP20
import Derived.Test.YtklehfchdoikeaaGreatDoorP9
import Derived.Test.YtklehfchdoikeaaGreatDoorP2
set_option maxRecDepth 100000
set_option maxHeartbeats 4000000
namespace Go.Proofs.YtklehfchdoikeaaGreatDoor
open Go Go.RowKit Go.SX
structure MK where
 key:List UInt8
 known:Int
 void:Bool
def MK.A (a:MK):Array Value:=#[.string (S a.key),.int .i64 a.known,.bool a.void]
theorem MK.size (a:MK):a.A.size=3:=rfl
theorem MK.fits (a:MK):Fits a.A 3:=⟨rfl,by simp [MK.A,Value.oneCell']⟩
theorem MK.one (a:MK):a.A.all (·.oneCell')=true:=a.fits.one
theorem MK.g0 (a:MK):a.A[0]? = some (.string (S a.key)):=rfl
theorem MK.g1 (a:MK):a.A[1]? = some (.int .i64 a.known):=rfl
theorem MK.g2 (a:MK):a.A[2]? = some (.bool a.void):=rfl
theorem Ef (a:MK) {pl:List (Nat×Nat)} (hpl:pl=[(0,1),(1,1),(2,1)]):Instr.fill (fun k=>pl[k]?) rf.zero [(0,.string (S a.key)),(1,.int .i64 a.known),(2,.bool a.void)]=some a.A:=by
 subst hpl;rfl
theorem AI (a:MK):Instr.fill (fun k=>some (k*rf.size,rf.size)) (madeCells rf.zero (1*rf.size)) [(0,.agg a.A)]=some a.A:=by kernel_rfl
def Va (key:Key) (e:TypeId) (sz n:Nat) (A:Array Value) (x:Value) (U:aA):Prop:=IsL x n/\U=[(key,Blk.own x e sz n A)]
theorem fE {P:Program} {t:TypeId} {b:Nat} (h:(P.info? t).map (·.bytes)=some b):∃ q,P.info? t=some q/\q.bytes=b:=by
 cases hq:P.info? t with
 | none=>rw [hq] at h;cases h
 | some q=>rw [hq] at h;exact ⟨q,rfl,by simpa using h⟩
theorem DY:∃ q,Tryz.prog.info? 208=some q/\q.bytes=32:=fE (by kernel_rfl)
theorem MK.ext3 (a:MK):a.A.extract 0 (0+1*3)=a.A:=by simp [MK.A]
theorem tU {α β:Type} (f:α->β) {l:List α} {i:Nat} {x:α} (h:l[i]? = some x):(l.take (i+1)).map f=(l.take i).map f++[f x]:=by
 rw [List.take_add_one,h];simp
theorem ax {i:Nat} (h:i<=4000000000000000000):IntKind.i64.wrap (((i:Nat):Int)+1)=((i+1:Nat):Int):=by rw [i64_in (by omega)];rfl
theorem bC {v:Value} {e:TypeId} {sz n:Nat} {A B:Array Value} (h:A=B):some (Blk.own v e sz n A)=some (Blk.own v e sz n B):=by rw [h]
theorem Iz {α β:Type} (f:α->β) (g:β->Array Value) {l:List α} {i:Nat} {x:α} (h:l[i]? = some x):cat g ((l.take i).map f)++g (f x)=cat g ((l.take (i+1)).map f):=by
 rw [tU f h,cat_append,lO]
def jQ (is:List Int):List Int:=is.mergeSort fun x y=>decide (x<=y)
end Go.Proofs.YtklehfchdoikeaaGreatDoor
namespace Go.Proofs.YtklehfchdoikeaaGreatDoor
open Go Go.RowKit Go.SX
def gZ (last:Int) (m:MK):Bool:=decide (1<=m.key.length) && (decide (m.key.length<=64) && (decide (last < m.known) && decide (m.known<=2147483647)))
def iQ:Int->List MK->Bool
 | _,[]=>true
 | last,m :: r=>gZ last m && iQ m.known r
def jL (l:List MK):Int:=if l.length > 4096 then 130 else if iQ 0 l then 0 else 130
theorem lN {α:Type} {l:List α} {i:Nat} {x:α} (h:l[i]? = some x):l.drop i=x :: l.drop (i+1):=by
 have hi:=(List.getElem?_eq_some_iff.1 h).1
 rw [List.drop_eq_getElem_cons hi]
 congr 1
 exact (List.getElem?_eq_some_iff.1 h).2
theorem zg {E:Env} (hE:E.P=Tryz.prog) {v:Value} {xs:List MK} (hv:Lst E v 3 xs.length (cat MK.A xs)):OwnC E 117 [SV.c v] [] (fun x U=>x=.int .i64 (jL xs)/\U=[]):=by
 refine aD [] ai ak Mj E hE [SV.c v] [] _ rfl rfl fun w X β hT=>?_
 obtain ⟨a,cap,rfl,hc,h4⟩:=(hv.of_old hT).shape
 refine ⟨_,fun w' _=>ao Tryz.underlying165 w',fun h=>?_,fun h=>?_⟩
 ·have h:xs.length > 4096:=by have:=af h;omega
  exact ⟨[],[],⟨by rw [jL,if_pos h];rfl,rfl⟩,trivial,rfl⟩
 have h:¬ xs.length > 4096:=by have:=ag h;omega
 have hE1:jL xs=if iQ 0 xs then 0 else 130:=by rw [jL,if_neg h]
 rw [hE1]
 refine ⟨_,fun w' _=>ao Tryz.underlying165 w',?_⟩
 refine ⟨fun q f m=>∃ (i:Nat) (last:Int),q=xs.length - i/\i<=xs.length/\iQ 0 xs=iQ last (xs.drop i)/\f=[(3,SV.c (.int .i64 last)),(9,SV.c (.slice a xs.length cap)),(10,SV.c (.int .i64 (xs.length:Nat))),(11,SV.c (.int .i64 (i:Nat)))]/\m=[],xs.length,⟨_,_,⟨0,0,by omega,by omega,rfl,rfl,rfl⟩,⟨rfl,rfl,rfl,rfl,trivial⟩,trivial,rfl⟩,?_⟩
 rintro q f m ⟨i,last,rfl,hi,hch,rfl,rfl⟩
 refine ⟨fun h=>?_,fun h=>?_⟩
 ·have h:i < xs.length:=by have:=af h;omega
  obtain ⟨b,o,rfl,h5⟩:=h4 (by omega)
  obtain ⟨y,hy⟩:∃ y,xs[i]? = some y:=⟨_,List.getElem?_eq_getElem h⟩
  have hE':VOk (aY Tryz.prog tt Tryz.f117.ntmps w X (aJ [] β)):=ai
  have L1:=bN hE' h5 MK.size hy (ty:=208) (ti:=rf) rfl rfl rfl (p:=o+(i:Int).toNat*3) rfl
  rw [lN hy] at hch
  have bad:gZ last y=false->(∃ U σ,(Value.int .i64 130=.int .i64 (if iQ 0 xs then 0 else 130)/\U=([]:aA))/\fZ [(5,Blk.row 208 3 y.A)] (dW σ U)/\uv [] σ U=true):=fun hb=>by
   have:iQ 0 xs=false:=by rw [hch,iQ,hb];rfl
   exact ⟨[],[],⟨by rw [this];rfl,rfl⟩,trivial,rfl⟩
  refine ⟨by omega,by omega,.inl ⟨_,L1,y.fits,?_⟩⟩
  refine ⟨_,y.g0,_,fun w' _=>aH Tryz.underlying9 w',fun c1=>⟨_,y.g0,_,fun w' _=>aH Tryz.underlying9 w',fun c2=>⟨_,y.g1,fun c3=>⟨_,y.g1,fun c4=>?_,fun c4=>⟨_,y.g1,?_⟩⟩,fun c3=>⟨fun _=>bad ?_,nofun⟩⟩,fun c2=>⟨nofun,fun _=>⟨fun _=>bad ?_,nofun⟩⟩⟩,fun c1=>⟨nofun,fun _=>⟨nofun,fun _=>⟨fun _=>bad ?_,nofun⟩⟩⟩⟩
  ·have c4:=af c4
   exact bad (by unfold gZ;rw [show decide (y.known<=2147483647)=false from decide_eq_false (by omega)];simp)
  ·have c1:(((y.key.length:Nat):Int) == 0)=false:=c1
   have c1:¬ ((y.key.length:Nat):Int)=0:=by simpa using c1
   have c2:=ag c2
   have c3:=ag c3
   have c4:=ag c4
   have hg:gZ last y=true:=by
    unfold gZ
    rw [decide_eq_true (show 1<=y.key.length by omega),decide_eq_true (show y.key.length<=64 by omega),decide_eq_true (show last < y.known by omega),decide_eq_true (show y.known<=2147483647 by omega)];rfl
   rw [iQ,hg,Bool.true_and] at hch
   exact ⟨xs.length - (i+1),_,_,by omega,⟨i+1,y.known,rfl,by omega,hch,rfl,rfl⟩,⟨rfl,rfl,rfl,ar (ax (by omega)),trivial⟩,trivial,rfl⟩
  ·have c3:=af (show decide (y.known<=last)=true from c3)
   unfold gZ;rw [show decide (last < y.known)=false from decide_eq_false (by omega)];simp
  ·have c2:=af (show decide (((y.key.length:Nat):Int) > 64)=true from c2)
   unfold gZ;rw [show decide (y.key.length<=64)=false from decide_eq_false (by omega)];simp
  ·have c1:(((y.key.length:Nat):Int) == 0)=true:=c1
   have c1:((y.key.length:Nat):Int)=0:=by simpa using c1
   unfold gZ;rw [show decide (1<=y.key.length)=false from decide_eq_false (by omega)];simp
 ·have h:i=xs.length:=by have:=ag h;omega
  subst h
  rw [List.drop_length] at hch
  exact ⟨[],[],⟨by rw [hch];rfl,rfl⟩,trivial,rfl⟩
end Go.Proofs.YtklehfchdoikeaaGreatDoor
namespace Go.Proofs.YtklehfchdoikeaaGreatDoor
open Go Go.RowKit Go.SX
/-! ### which records count: the plain law -/
def wD:DataW Unit->List (Lit×DataW Unit)
 | .map l=>l
 | _=>[]
theorem mr (s:List UInt8):WideAt.IsKeyLit (.string s):=by
 simp [WideAt.IsKeyLit]
theorem H6 {l:List (Lit×DataW Unit)} {kl:Lit} {d:DataW Unit} (hk:WideAt.IsKeyLit kl) (p:Lit×DataW Unit):p∈wD ((DataW.map l).put kl d)↔p=(kl,d)\/(p∈l/\p.1≠kl):=by
 rw [DataW.put_eq]
 show p∈ChangeMaps.putKey kl d l↔_
 unfold ChangeMaps.putKey
 rw [ChangeMaps.mem_insert_iff,List.mem_filter,Maps.notKey_iff hk]
theorem H7 {l:List (Lit×DataW Unit)} {kl:Lit} (hk:WideAt.IsKeyLit kl) (p:Lit×DataW Unit):p∈wD ((DataW.map l).del kl)↔p∈l/\p.1≠kl:=by
 rw [DataW.del_eq]
 show p∈ChangeMaps.delKey kl l↔_
 unfold ChangeMaps.delKey
 rw [List.mem_filter,Maps.notKey_iff hk]
def qc (m:MK) (i:Nat) (D:DataW Unit):DataW Unit:=if m.void then D.del (.string m.key) else D.put (.string m.key) (.lit (.int .i64 (i:Nat)))
def ro (k:Int):Nat->List MK->DataW Unit->DataW Unit
 | _,[],D=>D
 | i,m :: r,D=>if m.known > k then D else ro k (i+1) r (qc m i D)
def Bj (l:List MK) (j i:Nat) (m:MK):Prop:=i < j/\l[i]? = some m/\m.void=false/\∀ i' m',i < i'->i' < j->l[i']? = some m'->m'.key≠m.key
def tR (l:List MK) (j:Nat) (D:DataW Unit):Prop:=(∃ es,D=.map es)/\∀ kk d,(.string kk,d)∈wD D↔∃ i m,Bj l j i m/\m.key=kk/\d=.lit (.int .i64 (i:Nat))
theorem y3 (l:List MK):tR l 0 (.map []):=⟨⟨_,rfl⟩,fun kk d=>by
 constructor
 ·intro h;simp [wD] at h
 ·rintro ⟨i,m,⟨h,_⟩,_⟩;omega⟩
theorem Ba {l:List MK} {j:Nat} {D:DataW Unit} {m:MK} (h:tR l j D) (hm:l[j]? = some m):tR l (j+1) (qc m j D):=by
 obtain ⟨⟨es,rfl⟩,h⟩:=h
 have both:∀ (kk:List UInt8),kk≠m.key->∀ d:DataW Unit,(∃ i m',Bj l j i m'/\m'.key=kk/\d=DataW.lit (.int .i64 (i:Nat)))↔(∃ i m',Bj l (j+1) i m'/\m'.key=kk/\d=DataW.lit (.int .i64 (i:Nat))):=by
  intro kk hkk d
  constructor
  ·rintro ⟨i,m',⟨h1,h2,h3,h4⟩,h5,h6⟩
   refine ⟨i,m',⟨by omega,h2,h3,fun i' m2 h6 h7 h8=>?_⟩,h5,h6⟩
   rcases Nat.lt_or_ge i' j with h9 | h9
   ·exact h4 i' m2 h6 h9 h8
   ·have:i'=j:=by omega
    subst this
    rw [hm] at h8;cases h8
    rw [h5];exact Ne.symm hkk
  ·rintro ⟨i,m',⟨h1,h2,h3,h4⟩,h5,h6⟩
   refine ⟨i,m',⟨?_,h2,h3,fun i' m2 h6 h7 h8=>h4 i' m2 h6 (by omega) h8⟩,h5,h6⟩
   rcases Nat.lt_or_ge i j with h9 | h9
   ·exact h9
   ·have:i=j:=by omega
    subst this
    rw [hm] at h2;cases h2
    exact absurd h5.symm hkk
 unfold qc
 by_cases hv:m.void=true
 ·rw [if_pos hv]
  refine ⟨⟨_,DataW.del_eq _ _⟩,fun kk d=>?_⟩
  rw [H7 (mr _)]
  have h0:=h kk d
  simp only [wD] at h0
  rw [h0]
  by_cases hkk:kk=m.key
  ·subst hkk
   constructor
   ·rintro ⟨-,h1⟩;exact absurd rfl h1
   ·rintro ⟨i,m',⟨h1,h2,h3,h4⟩,h5,h6⟩
    exfalso
    rcases Nat.lt_or_ge i j with h9 | h9
    ·exact h4 j m h9 (by omega) hm h5.symm
    ·have:i=j:=by omega
     subst this
     rw [hm] at h2;cases h2
     rw [hv] at h3;cases h3
  ·rw [<- both kk hkk d]
   constructor
   ·rintro ⟨h1,-⟩;exact h1
   ·intro h1
    exact ⟨h1,by simpa using hkk⟩
 ·have hv:m.void=false:=by simpa using hv
  rw [if_neg (by rw [hv];simp)]
  refine ⟨⟨_,DataW.put_eq _ _ _⟩,fun kk d=>?_⟩
  rw [H6 (mr _)]
  have h0:=h kk d
  simp only [wD] at h0
  rw [h0]
  by_cases hkk:kk=m.key
  ·subst hkk
   constructor
   ·rintro (h1 | ⟨-,h1⟩)
    ·have h1:d=.lit (.int .i64 (j:Nat)):=by simpa using h1
     exact ⟨j,m,⟨by omega,hm,hv,fun i' m2 h6 h7=>by omega⟩,rfl,h1⟩
    ·exact absurd rfl h1
   ·rintro ⟨i,m',⟨h1,h2,h3,h4⟩,h5,h6⟩
    left
    rcases Nat.lt_or_ge i j with h9 | h9
    ·exact absurd h5.symm (h4 j m h9 (by omega) hm)
    ·have:i=j:=by omega
     subst this
     rw [h6]
  ·rw [<- both kk hkk d]
   constructor
   ·rintro (h1 | ⟨h1,-⟩)
    ·have h1:kk=m.key:=by
       have:=congrArg Prod.fst h1
       simpa using this
     exact absurd h1 hkk
    ·exact h1
   ·intro h1
    exact .inr ⟨h1,by simpa using hkk⟩
def vG (k:Int):List MK->Nat
 | []=>0
 | m :: r=>if m.known > k then 0 else vG k r+1
theorem y5 (k:Int) (l:List MK):∀ (r:List MK) (i:Nat) (D:DataW Unit),(∀ j,r[j]? = l[i+j]?)->tR l i D->tR l (i+vG k r) (ro k i r D)
 | [],i,D,_,h=>h
 | m :: r,i,D,hr,h=>by
  unfold ro vG
  split
  ·exact h
  ·have:=y5 k l r (i+1) (qc m i D) (fun j=>by have:=hr (j+1);simpa [Nat.add_assoc,Nat.add_comm 1 j] using this) (Ba h (by simpa using (hr 0).symm))
   rw [show i+(vG k r+1)=i+1+vG k r by omega]
   exact this
def jH (k:Int) (key:List UInt8):Nat->List MK->Int->Int
 | _,[],at_=>at_
 | i,m :: r,at_=>jH k key (i+1) r (if m.known<=k/\m.key=key then (i:Nat) else at_)
def Ci (k:Int) (key:List UInt8) (l:List MK):Int:=jH k key 0 l (-1)
def rr (l:List MK) (k:Int) (i:Nat):Bool:=match l[i]? with
 | some m=>!m.void && (decide (m.known<=k) && (Ci k m.key l == (i:Nat)))
 | none=>false
def rq (l:List MK) (k:Int):List Nat:=(List.range l.length).filter (rr l k)
theorem kX (k:Int) (key:List UInt8):∀ (r:List MK) (i:Nat) (a:Int),(∀ (j:Nat) (m:MK),r[j]? = some m->m.known<=k->m.key≠key)/\jH k key i r a=a\/∃ (j:Nat) (m:MK),r[j]? = some m/\m.known<=k/\m.key=key/\jH k key i r a=((i+j:Nat):Int)/\∀ (j':Nat) (m':MK),j < j'->r[j']? = some m'->m'.known<=k->m'.key≠key
 | [],i,a=>.inl ⟨fun j m h=>by simp at h,rfl⟩
 | m :: r,i,a=>by
  unfold jH
  rcases kX k key r (i+1) (if m.known<=k/\m.key=key then (i:Nat) else a) with ⟨h1,h2⟩ | ⟨j,m',h1,h2,h3,h4,h5⟩
  ·by_cases hm:m.known<=k/\m.key=key
   ·rw [if_pos hm] at h2 ⊢
    refine .inr ⟨0,m,rfl,hm.1,hm.2,by rw [h2];simp,fun j' m' hj h6 h7=>?_⟩
    obtain ⟨j2,rfl⟩:∃ j2,j'=j2+1:=⟨j' - 1,by omega⟩
    exact h1 j2 m' (by simpa using h6) h7
   ·rw [if_neg hm] at h2 ⊢
    refine .inl ⟨fun j m' h6 h7=>?_,h2⟩
    cases j with
    | zero=>simp at h6;subst h6;exact fun h=>hm ⟨h7,h⟩
    | succ j=>exact h1 j m' (by simpa using h6) h7
  ·refine .inr ⟨j+1,m',by simpa using h1,h2,h3,by rw [h4];omega,fun j' m2 hj h6 h7=>?_⟩
   obtain ⟨j2,rfl⟩:∃ j2,j'=j2+1:=⟨j' - 1,by omega⟩
   exact h5 j2 m2 (by omega) (by simpa using h6) h7
theorem u9 {last:Int}:∀ {l:List MK},iQ last l=true->∀ (j:Nat) (m:MK),l[j]? = some m->last < m.known
 | [],_,j,m,h=>by simp at h
 | m0 :: r,h,j,m,hj=>by
  simp only [iQ,gZ,Bool.and_eq_true,decide_eq_true_eq] at h
  cases j with
  | zero=>simp at hj;subst hj;exact h.1.2.2.1
  | succ j =>
   have:=u9 h.2 j m (by simpa using hj)
   omega
theorem iW {k last:Int}:∀ {l:List MK},iQ last l=true->∀ (j:Nat) (m:MK),l[j]? = some m->(m.known<=k↔j < vG k l)
 | [],_,j,m,h=>by simp at h
 | m0 :: r,h,j,m,hj=>by
  have hc:iQ m0.known r=true:=by
   simp only [iQ,Bool.and_eq_true] at h;exact h.2
  unfold vG
  cases j with
  | zero =>
   simp at hj;subst hj
   split<;>omega
  | succ j =>
   have hj:r[j]? = some m:=by simpa using hj
   have h1:=u9 hc j m hj
   have h2:=iW (k:=k) hc j m hj
   split<;>omega
theorem Bq {l:List MK} {k last:Int} (h:iQ last l=true) (i:Nat) (m:MK):Bj l (vG k l) i m↔(l[i]? = some m/\rr l k i=true):=by
 constructor
 ·rintro ⟨h1,h2,h3,h4⟩
  refine ⟨h2,?_⟩
  unfold rr
  rw [h2]
  have hk:m.known<=k:=(iW h i m h2).2 h1
  simp only [h3,Bool.not_false,Bool.true_and,hk,decide_true]
  rw [beq_iff_eq]
  rcases kX k m.key l 0 (-1) with ⟨h5,-⟩ | ⟨j,m',h5,h6,h7,h8,h9⟩
  ·exact absurd rfl (h5 i m h2 hk)
  ·unfold Ci
   rw [h8]
   have hij:j=i:=by
    rcases Nat.lt_trichotomy j i with h10 | h10 | h10
    ·exact absurd rfl (h9 i m h10 h2 hk)
    ·exact h10
    ·exact absurd h7 (h4 j m' h10 ((iW h j m' h5).1 h6) h5)
   subst hij
   simp
 ·rintro ⟨h2,h3⟩
  unfold rr at h3
  rw [h2] at h3
  simp only [Bool.and_eq_true,Bool.not_eq_true',decide_eq_true_eq,beq_iff_eq] at h3
  obtain ⟨h4,h5,h6⟩:=h3
  refine ⟨(iW h i m h2).1 h5,h2,h4,fun i' m' h7 h8 h9=>?_⟩
  rcases kX k m.key l 0 (-1) with ⟨h10,-⟩ | ⟨j,m2,h10,h11,h12,h13,h14⟩
  ·exact absurd rfl (h10 i m h2 h5)
  ·have e:j=i:=by
     unfold Ci at h6
     rw [h13] at h6
     omega
   subst e
   exact h14 i' m' h7 h9 ((iW h i' m' h9).2 h8)
theorem zS {l:List MK} {k last:Int} (h:iQ last l=true) {out:List Int} (hn:out.Nodup) (hm:∀ z,z∈out↔∃ i m,Bj l (vG k l) i m/\z=((i:Nat):Int)):jQ out=(rq l k).map (fun i:Nat=>(i:Int)):=by
 have hle:∀ a b:Int,(decide (a<=b) || decide (b<=a))=true:=fun a b=>by
  rw [Bool.or_eq_true,decide_eq_true_eq,decide_eq_true_eq];omega
 have htr:∀ a b c:Int,decide (a<=b)=true->decide (b<=c)=true->decide (a<=c)=true:=fun a b c h1 h2=>by
  rw [decide_eq_true_eq] at *;omega
 have hstr:((rq l k).map (fun i:Nat=>(i:Int))).Pairwise (fun a b=>a < b):=by
  rw [List.pairwise_map]
  refine (List.Pairwise.filter _ (List.pairwise_lt_range (n:=l.length))).imp fun {a b} hab=>?_
  exact Int.ofNat_lt.2 hab
 have hp:out.Perm ((rq l k).map (fun i:Nat=>(i:Int))):=by
  refine (List.perm_ext_iff_of_nodup hn (hstr.imp fun hab=>by omega)).2 fun z=>?_
  rw [hm z,List.mem_map]
  constructor
  ·rintro ⟨i,m,h1,rfl⟩
   obtain ⟨h2,h3⟩:=(Bq h i m).1 h1
   refine ⟨i,?_,rfl⟩
   rw [rq,List.mem_filter,List.mem_range]
   exact ⟨(List.getElem?_eq_some_iff.1 h2).1,h3⟩
  ·rintro ⟨i,h1,rfl⟩
   rw [rq,List.mem_filter,List.mem_range] at h1
   obtain ⟨m,h2⟩:∃ m,l[i]? = some m:=⟨_,List.getElem?_eq_getElem h1.1⟩
   exact ⟨i,m,(Bq h i m).2 ⟨h2,h1.2⟩,rfl⟩
 have h1:=List.pairwise_mergeSort (le:=fun x y:Int=>decide (x<=y)) htr hle out
 have h2:((rq l k).map (fun i:Nat=>(i:Int))).Pairwise (fun a b=>decide (a<=b)=true):=hstr.imp fun hab=>by rw [decide_eq_true_eq];omega
 exact List.Perm.eq_of_pairwise (le:=fun a b:Int=>decide (a<=b)=true) (fun a b _ _ h3 h4=>by rw [decide_eq_true_eq] at *;omega) h1 h2 ((List.mergeSort_perm out _).trans hp)
end Go.Proofs.YtklehfchdoikeaaGreatDoor
namespace Go.Proofs.YtklehfchdoikeaaGreatDoor
open Go Go.RowKit Go.SX
theorem yy {k:Key} {B B':Blk} {d:Key} (h:aw [(k,B)] d=some B'):d=k/\B'=B:=by
 simp only [aw] at h
 split at h
 ·rename_i e;cases h;exact ⟨e.symm,rfl⟩
 ·cases h
theorem MM {E:Env} (hE:E.P=Tryz.prog) {x:Value} {is:List Int} (hl:is.length < 4611686018427387904):OwnC E 250 [SV.c x] [(1000,Blk.own x 3 1 is.length (cd is))] (fun r U=>r=.tuple #[]/\U=[(1000,Blk.own x 3 1 is.length (cd (jQ is)))]):=by
 have hne:(cd is).toList=is.map (Value.int .i64):=by simp [cd]
 have hlen:(jQ is).length=is.length:=List.length_mergeSort _
 refine ⟨by rw [hE];exact QF.enters,fun ρ w xs hw hx=>?_⟩
 obtain ⟨rfl,hx2⟩:xs=[x]/\True:=by
  match xs,hx with
  | [y],⟨h,_⟩=>exact ⟨by rw [show y=x from h],trivial⟩
 have hrow:w.ownsRow 0 3 1 x is.length (cd is).toList:=(hw.loose 1000 (Blk.own x 3 1 is.length (cd is)) (by simp [aw]) rfl).2
 rcases hrow.2 with ⟨rfl,h0⟩ | ⟨g,cap,cur,rfl,hb,hg,hnc,hcm,hcs,htake⟩
 ·have his:is=[]:=List.eq_nil_of_length_eq_zero h0
  subst his
  rw [hE]
  have hc:Calls Tryz.prog 250 #[.slice none 0 0] w fun e w'=>e=.returned (.tuple #[])/\w'=w:=Any.slices_Sort_int_none Ch none 0 w
  refine hc.mono fun e w' ⟨h1,h2⟩=>?_
  subst h2
  refine ⟨_,_,h1,⟨rfl,by simp [jQ]⟩,hw,⟨Nat.le_refl _,fun _ _ _=>rfl,fun d B b hB hb=>?_⟩⟩
  obtain ⟨rfl,rfl⟩:=yy hB
  simp [Blk.num,Value.ownBlock] at hb
 ·rw [hne,Nat.mul_one] at htake
  have hgl:=(Array.getElem?_eq_some_iff.1 hg).1
  rw [hE]
  have hc:Calls Tryz.prog 250 #[.slice (some ⟨g,0,none⟩) is.length cap] w fun e w'=>e=.returned (.tuple #[])/\∃ n os,w'=Go.Sort.grow (Go.Sort.putRow (Value.int .i64) (Sort.ahead w n) g 0 (jQ is).toArray) os:=Any.slices_Sort_int Ch g 0 cap is w (holds_of_blockI hg htake) hgl hl
  refine hc.mono fun e w' ⟨h1,n,os,h2⟩=>?_
  have hgr:w.grownBy w' (some g):=by rw [h2];exact grownBy_sortedI _
  have hown:w'.ownsRow 0 3 1 (.slice (some ⟨g,0,none⟩) is.length cap) is.length (cd (jQ is)).toList:=by
   have:=ownsRow_sortedI (n:=n) (os:=os) (ts:=jQ is) hlen hb hg hnc hcm hcs
   rw [<- h2] at this
   have e1:(cd (jQ is)).toList=(jQ is).map (Value.int .i64):=by simp [cd]
   rw [e1];exact this
  refine ⟨_,_,h1,⟨rfl,rfl⟩,?_,⟨hgr.size,fun k hk hne'=>hgr.block k hk fun e=>?_,fun d B b hB hb=>?_⟩⟩
  ·have:=hw.set_loose (d:=1000) (no:=some g) (B':=Blk.own (.slice (some ⟨g,0,none⟩) is.length cap) 3 1 is.length (cd (jQ is))) (.inr ⟨Blk.own (.slice (some ⟨g,0,none⟩) is.length cap) 3 1 is.length (cd is),by simp [aw],rfl,rfl⟩) hgr.os hgr.tape hgr.output hgr.size (fun k hk hne'=>hgr.block k hk hne') rfl hown (fun b hb=>.inl hb.symm)
   refine this.congr fun d=>?_
   simp only [aS,lk,aw]
   by_cases e:(1000:Nat)=d<;>simp [e]
  ·have:=(hne' (1000,Blk.own (.slice (some ⟨g,0,none⟩) is.length cap) 3 1 is.length (cd is)) (by simp)).2
   exact this e.symm
  ·obtain ⟨rfl,rfl⟩:=yy hB
   exact .inr ⟨(1000,Blk.own (.slice (some ⟨g,0,none⟩) is.length cap) 3 1 is.length (cd is)),by simp,hb⟩
end Go.Proofs.YtklehfchdoikeaaGreatDoor
namespace Go.Proofs.YtklehfchdoikeaaGreatDoor
open Go Go.RowKit Go.SX
theorem kP {a b:List UInt8} (h:((S a).toList == (S b).toList)=true):a=b:=af ((eG a b).symm.trans h)
theorem kO {a b:List UInt8} (h:((S a).toList == (S b).toList)=false):a≠b:=ag ((eG a b).symm.trans h)
end Go.Proofs.YtklehfchdoikeaaGreatDoor
namespace Go.Proofs.YtklehfchdoikeaaGreatDoor
open Go Go.RowKit Go.SX
theorem Hn:∃ q,Tryz.prog.info? 3=some q/\q.bytes=8:=fE (by kernel_rfl)
def wZ (xs:List MK) (k:Int):List Int:=if jL xs=0 then (rq xs k).map (fun i:Nat=>(i:Int)) else []
def Tb (xs:List MK) (k:Int) (x:Value) (U:aA):Prop:=∃ s n,n=(wZ xs k).length/\x=.tuple #[s,.int .i64 (jL xs)]/\IsL s n/\U=[(1000,Blk.own s 3 1 n (cd (wZ xs k)))]
theorem Hi (l:List Int) (z:Int):cd l++#[.int .i64 z]=cd (l++[z]):=by simp [cd]
theorem Eg (z:Int):Instr.fill (fun k=>some (k*ti3.size,ti3.size)) (madeCells ti3.zero (1*ti3.size)) [(0,.int .i64 z)]=some #[.int .i64 z]:=by kernel_rfl
theorem H4 (z:Value):(#[z]:Array Value).extract 0 (0+1*1)=#[z]:=by simp
end Go.Proofs.YtklehfchdoikeaaGreatDoor
namespace Go.Proofs.YtklehfchdoikeaaGreatDoor
open Go Go.RowKit Go.SX
open Go.Maps (Keyed)
theorem Cj:Keyed Tryz.prog 9:=Go.Maps.string_keyed Tryz.underlying9
theorem Hf {s:List UInt8} (h:s.length<=64):Go.keyOf Tryz.prog 9 (.string (S s))=some (.string s):=Go.WideMaps.keyOf_string_mk Tryz.underlying9 (by rw [bm];unfold maxLen;omega)
theorem Ni {i:Nat} (h:i<=1000000000000):(Lit.int .i64 ((i:Nat):Int)).wf=true:=by
 have h1:IntKind.i64.min=-9223372036854775808:=rfl
 have h2:IntKind.i64.max=9223372036854775807:=rfl
 simp only [Lit.wf,h1,h2,Bool.and_eq_true,decide_eq_true_eq]
 omega
theorem H8 {i:Nat} (h:i<=1000000000000):plainElem (H:=Unit) Tryz.prog 3 (.int .i64 ((i:Nat):Int))=some (.lit (.int .i64 ((i:Nat):Int)),[]):=plainElem_int Tryz.underlying3 (Ni h)
def Vf (xs:List MK) (k:Int) (x:Value) (U:aA):Prop:=∃ b n,n<=xs.length/\x=.map (some b)/\U=[(500,Blk.res b (MapD Tryz.prog 9 3 (ro k 0 xs (.map [])) n))]
theorem KT {E:Env} (hE:E.P=Tryz.prog) {v:Value} {k:Int} {xs:List MK} (hv:Lst E v 3 xs.length (cat MK.A xs)) (hn:xs.length<=1000000000000) (hkl:∀ (i:Nat) (y:MK),xs[i]? = some y->y.key.length<=64):OwnC E 249 [SV.c v,SV.c (.int .i64 k)] [] (Vf xs k):=by
 refine aD [] ai ak QG E hE [SV.c v,SV.c (.int .i64 k)] [] _ rfl rfl fun w X β hT=>?_
 obtain ⟨a,cap,rfl,hc,h4⟩:=(hv.of_old hT).shape
 refine GY rfl rfl 9 3 500 rfl trivial fun b0=>?_
 refine ⟨_,fun w' _=>ao Tryz.underlying165 w',?_⟩
 refine ⟨fun q f m=>∃ (i n:Nat) (D:DataW Unit),q=xs.length - i/\i<=xs.length/\n<=i/\ro k 0 xs (.map [])=ro k i (xs.drop i) D/\f=[(1,SV.c (.int .i64 k)),(5,SV.c (.map (some b0))),(9,SV.c (.slice a xs.length cap)),(10,SV.c (.int .i64 (xs.length:Nat))),(11,SV.c (.int .i64 (i:Nat)))]/\m=[(500,Blk.res b0 (MapD Tryz.prog 9 3 D n))],xs.length,⟨_,_,⟨0,0,.map [],by omega,by omega,by omega,rfl,rfl,rfl⟩,⟨rfl,rfl,rfl,rfl,rfl,trivial⟩,⟨rfl,trivial⟩,rfl⟩,?_⟩
 rintro q f m ⟨i,n,D,rfl,hi,hni,hch,rfl,rfl⟩
 refine ⟨fun h=>?_,fun h=>?_⟩
 ·have h:i < xs.length:=by have:=af h;omega
  obtain ⟨b,o,rfl,h5⟩:=h4 (by omega)
  obtain ⟨y,hy⟩:∃ y,xs[i]? = some y:=⟨_,List.getElem?_eq_getElem h⟩
  have hE':VOk (aY Tryz.prog tt Tryz.f249.ntmps w X (aJ [] β)):=ai
  have L1:=bN hE' h5 MK.size hy (ty:=208) (ti:=rf) rfl rfl rfl (p:=o+(i:Int).toNat*3) rfl
  rw [lN hy,ro] at hch
  refine ⟨by omega,by omega,.inl ⟨_,L1,y.fits,?_⟩⟩
  refine ⟨_,y.g1,fun c1=>?_,fun c1=>?_⟩
  ·rw [if_pos (af c1)] at hch
   exact ⟨[(500,Blk.res b0 (MapD Tryz.prog 9 3 D n))],[],⟨b0,n,by omega,rfl,by rw [hch]⟩,⟨rfl,trivial⟩,rfl⟩
  rw [if_neg (ag c1),qc] at hch
  refine ⟨_,y.g2,fun c2=>?_,fun c2=>?_⟩
  ·rw [if_pos c2] at hch
   refine ⟨_,y.g0,?_⟩
   refine Am rfl rfl rfl rfl rfl Cj Tryz.underlying263 500 rfl rfl rfl (Hf (hkl i y hy)) ?_
   exact ⟨xs.length - (i+1),_,_,by omega,⟨i+1,n,_,rfl,by omega,by omega,hch,rfl,rfl⟩,⟨rfl,rfl,rfl,rfl,ar (ax (by omega)),trivial⟩,⟨rfl,trivial⟩,rfl⟩
  ·rw [if_neg (by rw [c2];simp)] at hch
   refine ⟨_,y.g0,?_⟩
   refine DN rfl rfl Cj Tryz.underlying263 500 rfl rfl rfl rfl (by unfold maxLen;omega) (Hf (hkl i y hy)) (H8 (by omega)) ?_
   exact ⟨xs.length - (i+1),_,_,by omega,⟨i+1,n+1,_,rfl,by omega,by omega,hch,rfl,rfl⟩,⟨rfl,rfl,rfl,rfl,ar (ax (by omega)),trivial⟩,⟨rfl,trivial⟩,rfl⟩
 ·have h:i=xs.length:=by have:=ag h;omega
  subst h
  rw [List.drop_length,ro] at hch
  exact ⟨[(500,Blk.res b0 (MapD Tryz.prog 9 3 D n))],[],⟨b0,n,by omega,rfl,by rw [hch]⟩,⟨rfl,trivial⟩,rfl⟩
end Go.Proofs.YtklehfchdoikeaaGreatDoor
namespace Go.Proofs.YtklehfchdoikeaaGreatDoor
open Go Go.RowKit Go.SX
open Go.WideElems (Fit rd rg pl rd_key rd_val rg_of)
def ru (e:MapEntry):Int:=match e.val with
 | .int _ z=>z
 | _=>0
theorem Kc {key:Value} {kl:Lit} (h:Go.keyOf Tryz.prog 9 key=some kl):∃ s:List UInt8,key=.string (S s)/\kl=.string s:=by
 have hk:=Tryz.underlying9
 cases key<;>simp [Go.keyOf,hk,mapKey] at h
 rename_i s
 exact ⟨s.data.toList,by rw [U8 s];rfl,h.2.symm⟩
theorem wE {l:List MK} {j:Nat} {es:Array MapEntry} {clock:Nat} (F:Fit Tryz.prog 9 (plainElem (H:=Unit) Tryz.prog 3) es clock)
    (hC:tR l j (.map ((es.toList.map (rg Tryz.prog 9 (plainElem (H:=Unit) Tryz.prog 3))).foldr DataW.insert []))) {e:MapEntry} (he:e∈es.toList) :
    ∃ (i:Nat) (m:MK),e.key=.string (S m.key)/\e.val=.int .i64 (i:Nat)/\Bj l j i m:=by
 obtain ⟨y,hy⟩:=F.reads e he
 obtain ⟨s,hs,hs2⟩:=Kc (rd_key hy)
 obtain ⟨z,hz,hz2⟩:=rd_val hy
 obtain ⟨a,ha,rfl,-⟩:=plainElem_int_inv Tryz.underlying3 hz
 have hm:(Lit.string s,(DataW.lit (.int .i64 a):DataW Unit))∈wD (.map ((es.toList.map (rg Tryz.prog 9 (plainElem (H:=Unit) Tryz.prog 3))).foldr DataW.insert [])):=by
  simp only [wD]
  rw [mem_sorted,List.mem_map]
  refine ⟨e,he,?_⟩
  rw [rg_of hy,<- hs2]
  have:y.2=DataW.lit (.int .i64 a):=hz2
  rw [<- this]
 obtain ⟨i,m,h1,h2,h3⟩:=(hC.2 _ _).1 hm
 have h3:a=((i:Nat):Int):=by simpa using h3
 exact ⟨i,m,by rw [hs,h2],by rw [ha,h3],h1⟩
theorem Af {es:Array MapEntry} (h:(es.toList.map (·.key)).Nodup) {x y:MapEntry} (hx:x∈es.toList) (hy:y∈es.toList) (hk:x.key=y.key):x=y :=
 entry_eq_of_key (List.pairwise_map.1 h) hx hy hk
theorem CQ:∀ {l:List MapEntry},l.Pairwise (fun x y=>x.born≠y.born)->∀ {x y:MapEntry},x∈l->y∈l->x.born=y.born->x=y
 | [],_,_,_,hx,_,_=>by simp at hx
 | a :: r,hp,x,y,hx,hy,h=>by
  obtain ⟨h1,h2⟩:=List.pairwise_cons.1 hp
  rcases List.mem_cons.1 hx with ex | hx'
  ·rcases List.mem_cons.1 hy with ey | hy'
   ·rw [ex,ey]
   ·exact absurd (ex ▸ h) (h1 y hy')
  ·rcases List.mem_cons.1 hy with ey | hy'
   ·exact absurd (ey ▸ h).symm (h1 x hx')
   ·exact CQ h2 hx' hy' h
theorem Aa {l:List MK} {j:Nat} {es:Array MapEntry} {clock:Nat} (F:Fit Tryz.prog 9 (plainElem (H:=Unit) Tryz.prog 3) es clock)
    (hC:tR l j (.map ((es.toList.map (rg Tryz.prog 9 (plainElem (H:=Unit) Tryz.prog 3))).foldr DataW.insert [])))
    {vis:List MapEntry} (h1:∀ e∈vis,e∈es.toList) (h2:(vis.map (·.born)).Nodup) (h3:∀ e∈es.toList,e.born∈vis.map (·.born)) :
    (vis.map ru).Nodup/\∀ z,z∈vis.map ru↔∃ i m,Bj l j i m/\z=((i:Nat):Int):=by
 have hval:∀ e i,e.val=Value.int .i64 ((i:Nat):Int)->ru e=((i:Nat):Int):=fun e i h=>by unfold ru;rw [h]
 constructor
 ·rw [List.Nodup,List.pairwise_map] at h2 ⊢
  refine List.Pairwise.imp_of_mem (fun {x y} hx hy hne he=>?_) h2
  obtain ⟨i,m,k1,v1,p1⟩:=wE F hC (h1 x hx)
  obtain ⟨i',m',k2,v2,p2⟩:=wE F hC (h1 y hy)
  rw [hval _ _ v1,hval _ _ v2] at he
  have hi:i=i':=by omega
  subst hi
  have hm:m=m':=by have:=p1.2.1.symm.trans p2.2.1;simpa using this
  subst hm
  exact hne (by rw [Af F.stamped.2.2 (h1 x hx) (h1 y hy) (k1.trans k2.symm)])
 ·intro z
  rw [List.mem_map]
  constructor
  ·rintro ⟨e,he,rfl⟩
   obtain ⟨i,m,k1,v1,p1⟩:=wE F hC (h1 e he)
   exact ⟨i,m,p1,hval _ _ v1⟩
  ·rintro ⟨i,m,hp,rfl⟩
   have hm:=(hC.2 m.key (.lit (.int .i64 ((i:Nat):Int)))).2 ⟨i,m,hp,rfl,rfl⟩
   simp only [wD] at hm
   rw [mem_sorted,List.mem_map] at hm
   obtain ⟨e,he,hee⟩:=hm
   obtain ⟨e',he',hb⟩:=List.mem_map.1 (h3 e he)
   have hb:e'.born=e.born:=hb
   have:e'=e:=by
    have hn:=F.stamped.2.1
    rw [List.Nodup,List.pairwise_map] at hn
    exact CQ hn (h1 e' he') he hb
   subst this
   obtain ⟨y,hy⟩:=F.reads e' he
   rw [rg_of hy] at hee
   subst hee
   obtain ⟨z,hz,hz2⟩:=rd_val hy
   obtain ⟨a,ha,rfl,-⟩:=plainElem_int_inv Tryz.underlying3 hz
   have hz2:a=((i:Nat):Int):=by
    have:(DataW.lit (.int .i64 ((i:Nat):Int)):DataW Unit)=.lit (.int .i64 a):=hz2
    simpa using this.symm
   exact ⟨e',he',hval _ _ (by rw [ha,hz2])⟩
end Go.Proofs.YtklehfchdoikeaaGreatDoor
namespace Go.Proofs.YtklehfchdoikeaaGreatDoor
open Go Go.RowKit Go.SX
theorem ze {last:Int}:∀ {l:List MK},iQ last l=true->∀ (i:Nat) (m:MK),l[i]? = some m->m.key.length<=64
 | [],_,i,m,h=>by simp at h
 | m0 :: r,h,i,m,hi=>by
  simp only [iQ,gZ,Bool.and_eq_true,decide_eq_true_eq] at h
  cases i with
  | zero=>simp at hi;subst hi;exact h.1.2.1
  | succ i=>exact ze h.2 i m (by simpa using hi)
theorem ED {xs:List MK} (h:jL xs=0):iQ 0 xs=true/\∀ (i:Nat) (m:MK),xs[i]? = some m->m.key.length<=64:=by
 unfold jL at h
 split at h
 ·simp at h
 ·split at h
  ·rename_i hf;exact ⟨hf,ze hf⟩
  ·simp at h
theorem N7 {E:Env} (hE:E.P=Tryz.prog) {v:Value} {k:Int} {xs:List MK} (hv:Lst E v 3 xs.length (cat MK.A xs)) (hn:xs.length<=1000000000000):OwnC E 205 [SV.c v,SV.c (.int .i64 k)] [] (Tb xs k):=by
 refine aD [] ai ak Me E hE [SV.c v,SV.c (.int .i64 k)] [] _ rfl rfl fun w X β hT=>?_
 have hv':=hv.of_old hT
 have C1:=zg rfl hv'
 refine .inr (.inr (.inl ⟨[],[_],[],_,[],C1,rfl,trivial,rfl,rfl,fun h=>?_,fun h=>?_⟩))
 ·have h:(jL xs != 0)=true:=h
  have h:jL xs≠0:=by simpa using h
  have e1:wZ xs k=[]:=by rw [wZ,if_neg h]
  exact ⟨[(1000,Blk.own (.slice none 0 0) 3 1 0 #[])],[],⟨_,0,by rw [e1];rfl,rfl,.nil,by rw [e1];rfl⟩,⟨.inr ⟨rfl,rfl,rfl⟩,trivial⟩,rfl⟩
 have h:(jL xs != 0)=false:=h
 have h0':jL xs=0:=by simpa using h
 obtain ⟨hf,hk64⟩:=ED h0'
 refine .inr (.inr (.inr ⟨[],[500],[_,_],[],_,KT rfl hv' hn hk64,rfl,trivial,rfl,trivial,?_⟩))
 rintro x U ⟨b,n,hnx,rfl,rfl⟩
 refine ⟨rfl,?_⟩
 refine DO rfl rfl Tryz.underlying263 500 501 (by decide) rfl rfl rfl trivial fun r es clock F hes hD=>?_
 have hC:=y5 k xs xs 0 (.map []) (fun j=>by simp) (y3 xs)
 rw [hD,Nat.zero_add] at hC
 refine ⟨fun q f m=>∃ (vis:List MapEntry) (seen:Array Nat) (c0:Nat) (x:Value) (N:Nat),q=(leftOf es seen).size/\(∀ e∈vis,e∈es.toList)/\seen.toList=vis.map (·.born)/\(vis.map (·.born)).Nodup/\vis.length+q<=xs.length/\clock<=c0/\N=(vis.map ru).length/\IsL x N/\f=[(7,SV.c x),(18,SV.c (.pointer (some ⟨r,0,none⟩)))]/\m=[(1000,Blk.own x 3 1 N (cd (vis.map ru))),(500,Blk.res b (fun o=>o=Obj.map es clock)),(501,Blk.res r (fun o=>o=Obj.mapIter (some b) clock seen c0))],(leftOf es #[]).size,⟨_,_,⟨[],#[],clock,.slice none 0 0,0,rfl,fun e h=>by simp at h,rfl,by simp,?_,Nat.le_refl _,rfl,.nil,rfl,rfl⟩,⟨rfl,rfl,trivial⟩,⟨.inr ⟨rfl,rfl,rfl⟩,rfl,rfl,trivial⟩,rfl⟩,?_⟩
 ·have:(leftOf es #[]).size<=es.size:=by unfold leftOf;exact Array.size_filter_le ..
  simp only [List.length_nil];omega
 rintro q f m ⟨vis,seen,c0,x,N,rfl,hv1,hv2,hv3,hv4,hc0,hN,hx,rfl,rfl⟩
 refine GX rfl 500 501 rfl rfl rfl F.stamped.1 hc0 trivial (fun h0=>?_) (fun e he=>?_)
 ·refine ⟨fun h=>absurd h (by decide),fun _=>?_⟩
  obtain ⟨hnd,hmem⟩:=Aa F hC hv1 hv3 (fun e he=>by
   have:=all_seen es seen h0 e he
   rw [<- hv2]
   simpa using this)
  have hs:=zS (k:=k) hf hnd hmem
  have e1:wZ xs k=jQ (vis.map ru):=by rw [wZ,if_pos h0',hs]
  subst hN
  refine .inr (.inr (.inl ⟨[],[_],[_],_,[_],MM (x:=x) (is:=vis.map ru) rfl (by rw [List.length_map];omega),rfl,⟨.inl rfl,trivial⟩,rfl,rfl,?_⟩))
  exact ⟨[(1000,Blk.own x 3 1 (vis.map ru).length (cd (jQ (vis.map ru))))],[],⟨x,(vis.map ru).length,by rw [e1];exact (List.length_mergeSort _).symm,by rw [h0'];rfl,hx,by rw [e1]⟩,⟨.inl rfl,trivial⟩,rfl⟩
 ·obtain ⟨m1,m2⟩:=mem_left he
  have m3:=left_shrinks es seen e he
  refine ⟨fun _=>?_,fun h=>absurd h (by decide)⟩
  have m1':e∈es.toList:=m1
  obtain ⟨i,mm,ek,ev,-⟩:=wE F hC m1
  obtain ⟨key,val,born⟩:=e
  have ev:val=.int .i64 ((i:Nat):Int):=ev
  subst ev
  refine DP rfl 500 501 rfl rfl rfl m1' F.stamped.2.1 ?_
  have hle:(vis.map ru).length+1<=xs.length:=by rw [List.length_map];omega
  refine .inl ⟨by decide,by decide,_,Eg _,rfl,by decide,1000,N,_,.inl rfl,by decide,by simp [Value.oneCell'],rfl,_,H4 _,?_⟩
  obtain ⟨q,hq,hbb⟩:=Hn
  refine ⟨by omega,by unfold maxLen;omega,⟨q,hq,by rw [hbb];omega⟩,trivial,fun g2 cap2=>?_⟩
  refine ⟨_,_,_,m3,⟨vis++[⟨key,.int .i64 ((i:Nat):Int),born⟩],seen.push born,clock,_,N+1,rfl,?_,by simp [hv2],?_,?_,Nat.le_refl _,by simp [hN],.some,rfl,rfl⟩,⟨rfl,rfl,trivial⟩,⟨.inl (bC ?_),rfl,rfl,trivial⟩,rfl⟩
  ·intro e he
   rcases List.mem_append.1 he with h | h
   ·exact hv1 e h
   ·have:e=⟨key,.int .i64 ((i:Nat):Int),born⟩:=by simpa using h
    rw [this];exact m1'
  ·have h:¬ born∈vis.map (·.born):=by
     rw [<- hv2]
     have:seen.contains born=false:=m2
     simpa using this
   rw [List.map_append,List.nodup_append]
   refine ⟨hv3,by simp,fun a ha b hb=>?_⟩
   have hb:b=born:=by simpa using hb
   subst hb
   intro e;subst e
   exact h ha
  ·have m3:(leftOf es (seen.push born)).size < (leftOf es seen).size:=m3
   rw [List.length_append]
   simp only [List.length_cons,List.length_nil]
   omega
  ·rw [Hi,List.map_append]
   rfl
end Go.Proofs.YtklehfchdoikeaaGreatDoor
namespace Go.Proofs.YtklehfchdoikeaaGreatDoor
open Go Go.RowKit Go.SX
theorem EE {E:Env} (hE:E.P=Tryz.prog) {x:Value} {xs:List MK} {n:Nat} (hn:n=xs.length):OwnC E 117 [SV.c x] [(2000,Blk.own x 208 3 n (cat MK.A xs))] (fun y U=>y=.int .i64 (jL xs)/\U=[(2000,Blk.own x 208 3 n (cat MK.A xs))]):=by
 subst hn
 refine (OwnC.with_own (k:=2000) (v:=x) (e:=208) (sz:=3) (n:=xs.length) (A:=cat MK.A xs) (pre:=[]) rfl rfl (cat_all MK.one xs) (by rw [hE];exact Mj.enters) (fun E0 h hl=>zg (h.trans hE) hl) (fun x U h=>by rw [h.2];rfl)).mono ?_
 rintro y U ⟨U0,⟨h1,h2⟩,h3⟩
 exact ⟨h1,by rw [h3,h2]⟩
def U5 (x:Value) (n:Nat) (xs:List MK) (k:Int) (y:Value) (U:aA):Prop:=∃ U0,Tb xs k y U0/\U=(2000,Blk.own x 208 3 n (cat MK.A xs)) :: U0
theorem I9 {E:Env} (hE:E.P=Tryz.prog) {x:Value} {xs:List MK} {n:Nat} {k:Int} (hn:n=xs.length) (hb:n<=1000000000000):OwnC E 205 [SV.c x,SV.c (.int .i64 k)] [(2000,Blk.own x 208 3 n (cat MK.A xs))] (U5 x n xs k):=by
 subst hn
 exact OwnC.with_own (k:=2000) (v:=x) (e:=208) (sz:=3) (n:=xs.length) (A:=cat MK.A xs) (pre:=[]) rfl rfl (cat_all MK.one xs) (by rw [hE];exact Me.enters) (fun E0 h hl=>N7 (h.trans hE) hl hb) (fun x U h=>by obtain ⟨s,n,-,-,-,rfl⟩:=h;rfl)
end Go.Proofs.YtklehfchdoikeaaGreatDoor
namespace Go.Proofs.YtklehfchdoikeaaGreatDoor
open Go Go.RowKit Go.SX
end Go.Proofs.YtklehfchdoikeaaGreatDoor
namespace Go.Proofs.YtklehfchdoikeaaGreatDoor
open Go Go.RowKit Go.SX
end Go.Proofs.YtklehfchdoikeaaGreatDoor
namespace Go.Proofs.YtklehfchdoikeaaGreatDoor
open Go Go.RowKit Go.SX
end Go.Proofs.YtklehfchdoikeaaGreatDoor
namespace Go.Proofs.YtklehfchdoikeaaGreatDoor
open Go Go.RowKit Go.SX
end Go.Proofs.YtklehfchdoikeaaGreatDoor
namespace Go.Proofs.YtklehfchdoikeaaGreatDoor
open Go Go.RowKit Go.SX
end Go.Proofs.YtklehfchdoikeaaGreatDoor
namespace Go.Proofs.YtklehfchdoikeaaGreatDoor
open Go Go.RowKit Go.SX
theorem AC.beq_self (a:AC):a.beq a=true:=by simp [AC.beq,RQ.beq_self]
theorem AC.all1 (a:AC):a.A.all (·.oneCell')=true:=a.fits.one
end Go.Proofs.YtklehfchdoikeaaGreatDoor
namespace Go.Proofs.YtklehfchdoikeaaGreatDoor
open Go Go.RowKit Go.SX
end Go.Proofs.YtklehfchdoikeaaGreatDoor
namespace Go.Proofs.YtklehfchdoikeaaGreatDoor
open Go Go.RowKit Go.SX
structure EC where
 kind:Int
 key:List UInt8
 day:Int
 settle:Int
 ins:List UInt8
 qty:Int
 amt:Int
 cur:List UInt8
 known:Int
 void:Bool
def EC.A (a:EC):Array Value:=#[.int .i64 a.kind,.string (S a.key),.int .i64 a.day,.int .i64 a.settle,.string (S a.ins),.int .i64 a.qty,.int .i64 a.amt,.string (S a.cur),.int .i64 a.known,.bool a.void]
structure EC.In (a:EC):Prop where
 key:a.key.length<=9223372036854775807
 ins:a.ins.length<=9223372036854775807
 cur:a.cur.length<=9223372036854775807
theorem EC.size (a:EC):a.A.size=10:=rfl
theorem EC.fits (a:EC):Fits a.A 10:=⟨rfl,by simp [EC.A,Value.oneCell']⟩
theorem EC.one (a:EC):a.A.all (·.oneCell')=true:=a.fits.one
theorem EC.g0 (a:EC):a.A[0]? = some (.int .i64 a.kind):=rfl
theorem EC.g1 (a:EC):a.A[1]? = some (.string (S a.key)):=rfl
theorem EC.g2 (a:EC):a.A[2]? = some (.int .i64 a.day):=rfl
theorem EC.g3 (a:EC):a.A[3]? = some (.int .i64 a.settle):=rfl
theorem EC.g4 (a:EC):a.A[4]? = some (.string (S a.ins)):=rfl
def EC.beq (a b:EC):Bool:=(a.kind == b.kind) && (decide (a.key=b.key) && ((a.day == b.day) && ((a.settle == b.settle) && (decide (a.ins=b.ins) && ((a.qty == b.qty) && ((a.amt == b.amt) && (decide (a.cur=b.cur) && ((a.known == b.known) && ((a.void == b.void) && true)))))))))
def EC.nil (key:List UInt8) (known:Int):EC:=⟨0,key,0,0,[],0,0,[],known,true⟩
def EC.zero:EC:=⟨0,[],0,0,[],0,0,[],0,false⟩
def inB (n lo hi:Int):Bool:=decide (lo<=n) && decide (n<=hi)
def TW (a:EC):Bool:=inB a.key.length 1 64 && inB a.known 1 2147483647
def L9 (a:EC):Bool:=inB a.day 0 a.settle && (decide (a.settle<=73048) && (inB a.amt (-1000000000000000) 1000000000000000 && aF a.cur))
def LU (a:EC):Bool :=
 if a.kind=1 then cB a.ins && (!(a.qty == 0) && inB a.qty (-1000000000000000) 1000000000000000)
 else if a.kind=2 then decide (a.ins=[]) && (a.qty == 0)
 else false
def Fm (a:EC):Bool:=TW a && (if a.void then a.beq (.nil a.key a.known) else L9 a && LU a)
/-! ### what a fund has, by plain functions -/
abbrev Bs:=List UInt8
abbrev Ky:=Bs×Int
def ltB:Bs->Bs->Bool
 | [],[]=>false
 | [],_ :: _=>true
 | _ :: _,[]=>false
 | a :: x,b :: y=>if a < b then true else if b < a then false else ltB x y
def kU (a b:Ky):Bool:=if ltB a.1 b.1 then true else if ltB b.1 a.1 then false else decide (a.2 < b.2)
theorem lI:∀ a,ltB a a=false
 | []=>rfl
 | a :: x=>by rw [ltB,if_neg (UInt8.lt_irrefl a),if_neg (UInt8.lt_irrefl a),lI x]
theorem GZ:∀ a b c,ltB a b=true->ltB b c=true->ltB a c=true
 | [],[],_,h,_=>by cases h
 | [],_ :: _,[],_,h=>by cases h
 | [],_ :: _,_ :: _,_,_=>rfl
 | _ :: _,[],_,h,_=>by cases h
 | _ :: _,_ :: _,[],_,h=>by cases h
 | a :: x,b :: y,c :: z,h1,h2=>by
  rw [ltB] at h1 h2 ⊢
  by_cases q1:a < b
  ·by_cases q2:b < c
   ·rw [if_pos (UInt8.lt_trans q1 q2)]
   ·rw [if_neg q2] at h2
    by_cases q3:c < b
    ·rw [if_pos q3] at h2;cases h2
    ·have:b=c:=by
       have e1:=UInt8.not_lt.1 q2
       have e2:=UInt8.not_lt.1 q3
       exact UInt8.le_antisymm e2 e1
     subst this
     rw [if_pos q1]
  ·rw [if_neg q1] at h1
   by_cases q4:b < a
   ·rw [if_pos q4] at h1;cases h1
   ·rw [if_neg q4] at h1
    have hab:a=b:=UInt8.le_antisymm (UInt8.not_lt.1 q4) (UInt8.not_lt.1 q1)
    subst hab
    by_cases q2:a < c
    ·rw [if_pos q2]
    ·rw [if_neg q2] at h2 ⊢
     by_cases q3:c < a
     ·rw [if_pos q3] at h2;cases h2
     ·rw [if_neg q3] at h2 ⊢
      exact GZ x y z h1 h2
theorem pO:∀ a b,ltB a b=false->ltB b a=false->a=b
 | [],[],_,_=>rfl
 | [],_ :: _,h,_=>by cases h
 | _ :: _,[],_,h=>by cases h
 | a :: x,b :: y,h1,h2=>by
  rw [ltB] at h1 h2
  by_cases q1:a < b
  ·rw [if_pos q1] at h1;cases h1
  ·by_cases q2:b < a
   ·rw [if_pos q2] at h2;cases h2
   ·rw [if_neg q1,if_neg q2] at h1
    rw [if_neg q2,if_neg q1] at h2
    rw [UInt8.le_antisymm (UInt8.not_lt.1 q2) (UInt8.not_lt.1 q1),pO x y h1 h2]
theorem wj:StrictO ltB:=⟨lI,GZ,pO⟩
structure Led where
 h:List (Bs×Int)
 c:List (Ky×Int)
 p:List (Ky×Int)
def Led.zero:Led:=⟨[],[],[]⟩
def w64 (n:Int):Int:=IntKind.i64.wrap n
structure LedOk (g:Led):Prop where
 h:SrtA ltB g.h/\NzA g.h
 c:SrtA kU g.c/\NzA g.c
 p:SrtA kU g.p/\NzA g.p
 b:∀ x∈g.h,0<=x.2/\x.2<=1000000000000000
theorem LedOk.zero:LedOk .zero:=⟨⟨.nil,fun _ h=>by cases h⟩,⟨.nil,fun _ h=>by cases h⟩,⟨.nil,fun _ h=>by cases h⟩,fun _ h=>by cases h⟩
def fnW (g:FuncId):Value:=.func (.func g) #[] #[]

end Go.Proofs.YtklehfchdoikeaaGreatDoor
namespace Go.Proofs.YtklehfchdoikeaaGreatDoor
open Go Go.RowKit Go.SX
section
variable {α:Type}
variable (key:α->Int)
end

end Go.Proofs.YtklehfchdoikeaaGreatDoor
namespace Go.Proofs.YtklehfchdoikeaaGreatDoor
open Go Go.RowKit Go.SX


end Go.Proofs.YtklehfchdoikeaaGreatDoor
