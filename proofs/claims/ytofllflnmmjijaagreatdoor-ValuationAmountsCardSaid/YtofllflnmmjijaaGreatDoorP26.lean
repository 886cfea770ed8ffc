/- The records of a book as marks: asof and its reference. The books of actions: marks, Check, Visible, sameBooks, ActionBooks. entries, what a fund has, and the order in which it is carried out: plain law. the sort of entries: ranges swapped, turned, sorted by insertion. the sort of entries: merged, in blocks; no condition. -/
import Derived.Sort.OwnSortedInts
import Derived.Test.YtofllflnmmjijaaGreatDoorP23
import Derived.Test.YtofllflnmmjijaaGreatDoorP11
import Derived.Test.YtofllflnmmjijaaGreatDoorP2
set_option maxRecDepth 100000
set_option maxHeartbeats 4000000
namespace Go.Proofs.YtofllflnmmjijaaGreatDoor
open Go Go.RowKit Go.SX
structure MK where
 key:List UInt8
 known:Int
 void:Bool
def MK.A (a:MK):Array Value:=#[.string (S a.key),.int .i64 a.known,.bool a.void]
theorem MK.size (a:MK):a.A.size=3:=rfl
theorem MK.fits (a:MK):Fits a.A 3:=⟨rfl,by simp [MK.A,Value.oneCell']⟩
theorem MK.one (a:MK):a.A.all (·.oneCell')=true:=a.fits.one
theorem MK.g0 (a:MK):a.A[0]? = some (.string (S a.key)):=rfl
theorem MK.g1 (a:MK):a.A[1]? = some (.int .i64 a.known):=rfl
theorem MK.g2 (a:MK):a.A[2]? = some (.bool a.void):=rfl
theorem fill_mark (a:MK) {pl:List (Nat×Nat)} (hpl:pl=[(0,1),(1,1),(2,1)]):Instr.fill (fun k=>pl[k]?) ti169.zero [(0,.string (S a.key)),(1,.int .i64 a.known),(2,.bool a.void)]=some a.A:=by
 subst hpl;rfl
theorem fill_mark1 (a:MK):Instr.fill (fun k=>some (k*ti169.size,ti169.size)) (madeCells ti169.zero (1*ti169.size)) [(0,.agg a.A)]=some a.A:=by kernel_rfl
def OwnL (key:Key) (e:TypeId) (sz n:Nat) (A:Array Value) (x:Value) (U:MemL):Prop:=IsL x n∧U=[(key,Blk.own x e sz n A)]
theorem info_of {P:Program} {t:TypeId} {b:Nat} (h:(P.info? t).map (·.bytes)=some b):∃ q,P.info? t=some q∧q.bytes=b:=by
 cases hq:P.info? t with
 | none=>rw [hq] at h;cases h
 | some q=>rw [hq] at h;exact ⟨q,rfl,by simpa using h⟩
theorem info_mark:∃ q,Tryz.prog.info? 169=some q∧q.bytes=32:=info_of (by kernel_rfl)
theorem MK.ext3 (a:MK):a.A.extract 0 (0+1*3)=a.A:=by simp [MK.A]
theorem take_succ_map {α β:Type} (f:α→β) {l:List α} {i:Nat} {x:α} (h:l[i]? = some x):(l.take (i+1)).map f=(l.take i).map f++[f x]:=by
 rw [List.take_add_one,h];simp
theorem i64_succ {i:Nat} (h:i≤4000000000000000000):IntKind.i64.wrap (((i:Nat):Int)+1)=((i+1:Nat):Int):=by rw [i64_in (by omega)];rfl
theorem own_eq {v:Value} {e:TypeId} {sz n:Nat} {A B:Array Value} (h:A=B):some (Blk.own v e sz n A)=some (Blk.own v e sz n B):=by rw [h]
theorem cat_step {α β:Type} (f:α→β) (g:β→Array Value) {l:List α} {i:Nat} {x:α} (h:l[i]? = some x):cat g ((l.take i).map f)++g (f x)=cat g ((l.take (i+1)).map f):=by
 rw [take_succ_map f h,cat_append,cat_one]
def sortI (is:List Int):List Int:=is.mergeSort fun x y=>decide (x≤y)
end Go.Proofs.YtofllflnmmjijaaGreatDoor
namespace Go.Proofs.YtofllflnmmjijaaGreatDoor
open Go Go.RowKit Go.SX
def mkGood (last:Int) (m:MK):Bool:=decide (1≤m.key.length) && (decide (m.key.length≤64) && (decide (last < m.known) && decide (m.known≤2147483647)))
def chkF:Int→List MK→Bool
 | _,[]=>true
 | last,m :: r=>mkGood last m && chkF m.known r
def chkE (l:List MK):Int:=if l.length > 4096 then 130 else if chkF 0 l then 0 else 130
theorem drop_at {α:Type} {l:List α} {i:Nat} {x:α} (h:l[i]? = some x):l.drop i=x :: l.drop (i+1):=by
 have hi:=(List.getElem?_eq_some_iff.1 h).1
 rw [List.drop_eq_getElem_cons hi]
 congr 1
 exact (List.getElem?_eq_some_iff.1 h).2
theorem check_zm {E:Env} (hE:E.P=Tryz.prog) {v:Value} {xs:List MK} (hv:Lst E v 3 xs.length (cat MK.A xs)):OwnC E 68 [SV.c v] [] (fun x U=>x=.int .i64 (chkE xs)∧U=[]):=by
 refine sx_ownC [] tt_ok mixed at68 E hE [SV.c v] [] _ rfl rfl fun w X β hT=>?_
 obtain ⟨a,cap,rfl,hc,h4⟩:=(hv.of_old hT).shape
 refine ⟨_,fun w' _=>run_len_sl Tryz.underlying120 w',fun h=>?_,fun h=>?_⟩
 ·have h:xs.length > 4096:=by have:=of_decide_eq_true h;omega
  exact ⟨[],[],⟨by rw [chkE,if_pos h];rfl,rfl⟩,trivial,rfl⟩
 have h:¬ xs.length > 4096:=by have:=of_decide_eq_false h;omega
 have hE1:chkE xs=if chkF 0 xs then 0 else 130:=by rw [chkE,if_neg h]
 rw [hE1]
 refine ⟨_,fun w' _=>run_len_sl Tryz.underlying120 w',?_⟩
 refine ⟨fun q f m=>∃ (i:Nat) (last:Int),q=xs.length - i∧i≤xs.length∧chkF 0 xs=chkF last (xs.drop i)∧f=[(3,SV.c (.int .i64 last)),(9,SV.c (.slice a xs.length cap)),(10,SV.c (.int .i64 (xs.length:Nat))),(11,SV.c (.int .i64 (i:Nat)))]∧m=[],xs.length,⟨_,_,⟨0,0,by omega,by omega,rfl,rfl,rfl⟩,⟨rfl,rfl,rfl,rfl,trivial⟩,trivial,rfl⟩,?_⟩
 rintro q f m ⟨i,last,rfl,hi,hch,rfl,rfl⟩
 refine ⟨fun h=>?_,fun h=>?_⟩
 ·have h:i < xs.length:=by have:=of_decide_eq_true h;omega
  obtain ⟨b,o,rfl,h5⟩:=h4 (by omega)
  obtain ⟨y,hy⟩:∃ y,xs[i]? = some y:=⟨_,List.getElem?_eq_getElem h⟩
  have hE':VOk (envC Tryz.prog tt Tryz.f68.ntmps w X (tiedK [] β)):=tt_ok
  have L1:=lst_elem hE' h5 MK.size hy (ty:=169) (ti:=ti169) rfl rfl rfl (p:=o+(i:Int).toNat*3) rfl
  rw [drop_at hy] at hch
  have bad:mkGood last y=false→(∃ U σ,(Value.int .i64 130=.int .i64 (if chkF 0 xs then 0 else 130)∧U=([]:MemL))∧weakM [(5,Blk.row 169 3 y.A)] (renM σ U)∧retOk [] σ U=true):=fun hb=>by
   have:chkF 0 xs=false:=by rw [hch,chkF,hb];rfl
   exact ⟨[],[],⟨by rw [this];rfl,rfl⟩,trivial,rfl⟩
  refine ⟨by omega,by omega,.inl ⟨_,L1,y.fits,?_⟩⟩
  refine ⟨_,y.g0,_,fun w' _=>run_len_S Tryz.underlying9 w',fun c1=>⟨_,y.g0,_,fun w' _=>run_len_S Tryz.underlying9 w',fun c2=>⟨_,y.g1,fun c3=>⟨_,y.g1,fun c4=>?_,fun c4=>⟨_,y.g1,?_⟩⟩,fun c3=>⟨fun _=>bad ?_,nofun⟩⟩,fun c2=>⟨nofun,fun _=>⟨fun _=>bad ?_,nofun⟩⟩⟩,fun c1=>⟨nofun,fun _=>⟨nofun,fun _=>⟨fun _=>bad ?_,nofun⟩⟩⟩⟩
  ·have c4:=of_decide_eq_true c4
   exact bad (by unfold mkGood;rw [show decide (y.known≤2147483647)=false from decide_eq_false (by omega)];simp)
  ·have c1:(((y.key.length:Nat):Int) == 0)=false:=c1
   have c1:¬ ((y.key.length:Nat):Int)=0:=by simpa using c1
   have c2:=of_decide_eq_false c2
   have c3:=of_decide_eq_false c3
   have c4:=of_decide_eq_false c4
   have hg:mkGood last y=true:=by
    unfold mkGood
    rw [decide_eq_true (show 1≤y.key.length by omega),decide_eq_true (show y.key.length≤64 by omega),decide_eq_true (show last < y.known by omega),decide_eq_true (show y.known≤2147483647 by omega)];rfl
   rw [chkF,hg,Bool.true_and] at hch
   exact ⟨xs.length - (i+1),_,_,by omega,⟨i+1,y.known,rfl,by omega,hch,rfl,rfl⟩,⟨rfl,rfl,rfl,c_int (i64_succ (by omega)),trivial⟩,trivial,rfl⟩
  ·have c3:=of_decide_eq_true (show decide (y.known≤last)=true from c3)
   unfold mkGood;rw [show decide (last < y.known)=false from decide_eq_false (by omega)];simp
  ·have c2:=of_decide_eq_true (show decide (((y.key.length:Nat):Int) > 64)=true from c2)
   unfold mkGood;rw [show decide (y.key.length≤64)=false from decide_eq_false (by omega)];simp
  ·have c1:(((y.key.length:Nat):Int) == 0)=true:=c1
   have c1:((y.key.length:Nat):Int)=0:=by simpa using c1
   unfold mkGood;rw [show decide (1≤y.key.length)=false from decide_eq_false (by omega)];simp
 ·have h:i=xs.length:=by have:=of_decide_eq_false h;omega
  subst h
  rw [List.drop_length] at hch
  exact ⟨[],[],⟨by rw [hch];rfl,rfl⟩,trivial,rfl⟩
end Go.Proofs.YtofllflnmmjijaaGreatDoor
namespace Go.Proofs.YtofllflnmmjijaaGreatDoor
open Go Go.RowKit Go.SX
/-! ### which records count: the plain law -/
def ents:DataW Unit→List (Lit×DataW Unit)
 | .map l=>l
 | _=>[]
theorem keyLit_string (s:List UInt8):WideAt.IsKeyLit (.string s):=by
 simp [WideAt.IsKeyLit]
theorem ents_put {l:List (Lit×DataW Unit)} {kl:Lit} {d:DataW Unit} (hk:WideAt.IsKeyLit kl) (p:Lit×DataW Unit):p∈ents ((DataW.map l).put kl d)↔p=(kl,d)∨(p∈l∧p.1≠kl):=by
 rw [DataW.put_eq]
 show p∈ChangeMaps.putKey kl d l↔_
 unfold ChangeMaps.putKey
 rw [ChangeMaps.mem_insert_iff,List.mem_filter,Maps.notKey_iff hk]
theorem ents_del {l:List (Lit×DataW Unit)} {kl:Lit} (hk:WideAt.IsKeyLit kl) (p:Lit×DataW Unit):p∈ents ((DataW.map l).del kl)↔p∈l∧p.1≠kl:=by
 rw [DataW.del_eq]
 show p∈ChangeMaps.delKey kl l↔_
 unfold ChangeMaps.delKey
 rw [List.mem_filter,Maps.notKey_iff hk]
def cntStep (m:MK) (i:Nat) (D:DataW Unit):DataW Unit:=if m.void then D.del (.string m.key) else D.put (.string m.key) (.lit (.int .i64 (i:Nat)))
def cntGo (k:Int):Nat→List MK→DataW Unit→DataW Unit
 | _,[],D=>D
 | i,m :: r,D=>if m.known > k then D else cntGo k (i+1) r (cntStep m i D)
def VisP (l:List MK) (j i:Nat) (m:MK):Prop:=i < j∧l[i]? = some m∧m.void=false∧∀ i' m',i < i'→i' < j→l[i']? = some m'→m'.key≠m.key
def CntIs (l:List MK) (j:Nat) (D:DataW Unit):Prop:=(∃ es,D=.map es)∧∀ kk d,(.string kk,d)∈ents D↔∃ i m,VisP l j i m∧m.key=kk∧d=.lit (.int .i64 (i:Nat))
theorem cntIs_start (l:List MK):CntIs l 0 (.map []):=⟨⟨_,rfl⟩,fun kk d=>by
 constructor
 ·intro h;simp [ents] at h
 ·rintro ⟨i,m,⟨h,_⟩,_⟩;omega⟩
theorem cntIs_step {l:List MK} {j:Nat} {D:DataW Unit} {m:MK} (h:CntIs l j D) (hm:l[j]? = some m):CntIs l (j+1) (cntStep m j D):=by
 obtain ⟨⟨es,rfl⟩,h⟩:=h
 have both:∀ (kk:List UInt8),kk≠m.key→∀ d:DataW Unit,(∃ i m',VisP l j i m'∧m'.key=kk∧d=DataW.lit (.int .i64 (i:Nat)))↔(∃ i m',VisP l (j+1) i m'∧m'.key=kk∧d=DataW.lit (.int .i64 (i:Nat))):=by
  intro kk hkk d
  constructor
  ·rintro ⟨i,m',⟨h1,h2,h3,h4⟩,h5,h6⟩
   refine ⟨i,m',⟨by omega,h2,h3,fun i' m2 h6 h7 h8=>?_⟩,h5,h6⟩
   rcases Nat.lt_or_ge i' j with h9 | h9
   ·exact h4 i' m2 h6 h9 h8
   ·have:i'=j:=by omega
    subst this
    rw [hm] at h8;cases h8
    rw [h5];exact Ne.symm hkk
  ·rintro ⟨i,m',⟨h1,h2,h3,h4⟩,h5,h6⟩
   refine ⟨i,m',⟨?_,h2,h3,fun i' m2 h6 h7 h8=>h4 i' m2 h6 (by omega) h8⟩,h5,h6⟩
   rcases Nat.lt_or_ge i j with h9 | h9
   ·exact h9
   ·have:i=j:=by omega
    subst this
    rw [hm] at h2;cases h2
    exact absurd h5.symm hkk
 unfold cntStep
 by_cases hv:m.void=true
 ·rw [if_pos hv]
  refine ⟨⟨_,DataW.del_eq _ _⟩,fun kk d=>?_⟩
  rw [ents_del (keyLit_string _)]
  have h0:=h kk d
  simp only [ents] at h0
  rw [h0]
  by_cases hkk:kk=m.key
  ·subst hkk
   constructor
   ·rintro ⟨-,h1⟩;exact absurd rfl h1
   ·rintro ⟨i,m',⟨h1,h2,h3,h4⟩,h5,h6⟩
    exfalso
    rcases Nat.lt_or_ge i j with h9 | h9
    ·exact h4 j m h9 (by omega) hm h5.symm
    ·have:i=j:=by omega
     subst this
     rw [hm] at h2;cases h2
     rw [hv] at h3;cases h3
  ·rw [← both kk hkk d]
   constructor
   ·rintro ⟨h1,-⟩;exact h1
   ·intro h1
    exact ⟨h1,by simpa using hkk⟩
 ·have hv:m.void=false:=by simpa using hv
  rw [if_neg (by rw [hv];simp)]
  refine ⟨⟨_,DataW.put_eq _ _ _⟩,fun kk d=>?_⟩
  rw [ents_put (keyLit_string _)]
  have h0:=h kk d
  simp only [ents] at h0
  rw [h0]
  by_cases hkk:kk=m.key
  ·subst hkk
   constructor
   ·rintro (h1 | ⟨-,h1⟩)
    ·have h1:d=.lit (.int .i64 (j:Nat)):=by simpa using h1
     exact ⟨j,m,⟨by omega,hm,hv,fun i' m2 h6 h7=>by omega⟩,rfl,h1⟩
    ·exact absurd rfl h1
   ·rintro ⟨i,m',⟨h1,h2,h3,h4⟩,h5,h6⟩
    left
    rcases Nat.lt_or_ge i j with h9 | h9
    ·exact absurd h5.symm (h4 j m h9 (by omega) hm)
    ·have:i=j:=by omega
     subst this
     rw [h6]
  ·rw [← both kk hkk d]
   constructor
   ·rintro (h1 | ⟨h1,-⟩)
    ·have h1:kk=m.key:=by
       have:=congrArg Prod.fst h1
       simpa using this
     exact absurd h1 hkk
    ·exact h1
   ·intro h1
    exact .inr ⟨h1,by simpa using hkk⟩
def upto (k:Int):List MK→Nat
 | []=>0
 | m :: r=>if m.known > k then 0 else upto k r+1
theorem cntGo_is (k:Int) (l:List MK):∀ (r:List MK) (i:Nat) (D:DataW Unit),(∀ j,r[j]? = l[i+j]?)→CntIs l i D→CntIs l (i+upto k r) (cntGo k i r D)
 | [],i,D,_,h=>h
 | m :: r,i,D,hr,h=>by
  unfold cntGo upto
  split
  ·exact h
  ·have:=cntGo_is k l r (i+1) (cntStep m i D) (fun j=>by have:=hr (j+1);simpa [Nat.add_assoc,Nat.add_comm 1 j] using this) (cntIs_step h (by simpa using (hr 0).symm))
   rw [show i+(upto k r+1)=i+1+upto k r by omega]
   exact this
def lastGo (k:Int) (key:List UInt8):Nat→List MK→Int→Int
 | _,[],at_=>at_
 | i,m :: r,at_=>lastGo k key (i+1) r (if m.known≤k∧m.key=key then (i:Nat) else at_)
def lastI (k:Int) (key:List UInt8) (l:List MK):Int:=lastGo k key 0 l (-1)
def visB (l:List MK) (k:Int) (i:Nat):Bool:=match l[i]? with
 | some m=>!m.void && (decide (m.known≤k) && (lastI k m.key l == (i:Nat)))
 | none=>false
def visI (l:List MK) (k:Int):List Nat:=(List.range l.length).filter (visB l k)
theorem lastGo_spec (k:Int) (key:List UInt8):∀ (r:List MK) (i:Nat) (a:Int),(∀ (j:Nat) (m:MK),r[j]? = some m→m.known≤k→m.key≠key)∧lastGo k key i r a=a∨∃ (j:Nat) (m:MK),r[j]? = some m∧m.known≤k∧m.key=key∧lastGo k key i r a=((i+j:Nat):Int)∧∀ (j':Nat) (m':MK),j < j'→r[j']? = some m'→m'.known≤k→m'.key≠key
 | [],i,a=>.inl ⟨fun j m h=>by simp at h,rfl⟩
 | m :: r,i,a=>by
  unfold lastGo
  rcases lastGo_spec k key r (i+1) (if m.known≤k∧m.key=key then (i:Nat) else a) with ⟨h1,h2⟩ | ⟨j,m',h1,h2,h3,h4,h5⟩
  ·by_cases hm:m.known≤k∧m.key=key
   ·rw [if_pos hm] at h2 ⊢
    refine .inr ⟨0,m,rfl,hm.1,hm.2,by rw [h2];simp,fun j' m' hj h6 h7=>?_⟩
    obtain ⟨j2,rfl⟩:∃ j2,j'=j2+1:=⟨j' - 1,by omega⟩
    exact h1 j2 m' (by simpa using h6) h7
   ·rw [if_neg hm] at h2 ⊢
    refine .inl ⟨fun j m' h6 h7=>?_,h2⟩
    cases j with
    | zero=>simp at h6;subst h6;exact fun h=>hm ⟨h7,h⟩
    | succ j=>exact h1 j m' (by simpa using h6) h7
  ·refine .inr ⟨j+1,m',by simpa using h1,h2,h3,by rw [h4];omega,fun j' m2 hj h6 h7=>?_⟩
   obtain ⟨j2,rfl⟩:∃ j2,j'=j2+1:=⟨j' - 1,by omega⟩
   exact h5 j2 m2 (by omega) (by simpa using h6) h7
theorem chkF_mono {last:Int}:∀ {l:List MK},chkF last l=true→∀ (j:Nat) (m:MK),l[j]? = some m→last < m.known
 | [],_,j,m,h=>by simp at h
 | m0 :: r,h,j,m,hj=>by
  simp only [chkF,mkGood,Bool.and_eq_true,decide_eq_true_eq] at h
  cases j with
  | zero=>simp at hj;subst hj;exact h.1.2.2.1
  | succ j =>
   have:=chkF_mono h.2 j m (by simpa using hj)
   omega
theorem upto_spec {k last:Int}:∀ {l:List MK},chkF last l=true→∀ (j:Nat) (m:MK),l[j]? = some m→(m.known≤k↔j < upto k l)
 | [],_,j,m,h=>by simp at h
 | m0 :: r,h,j,m,hj=>by
  have hc:chkF m0.known r=true:=by
   simp only [chkF,Bool.and_eq_true] at h;exact h.2
  unfold upto
  cases j with
  | zero =>
   simp at hj;subst hj
   split<;>omega
  | succ j =>
   have hj:r[j]? = some m:=by simpa using hj
   have h1:=chkF_mono hc j m hj
   have h2:=upto_spec (k:=k) hc j m hj
   split<;>omega
theorem vis_iff {l:List MK} {k last:Int} (h:chkF last l=true) (i:Nat) (m:MK):VisP l (upto k l) i m↔(l[i]? = some m∧visB l k i=true):=by
 constructor
 ·rintro ⟨h1,h2,h3,h4⟩
  refine ⟨h2,?_⟩
  unfold visB
  rw [h2]
  have hk:m.known≤k:=(upto_spec h i m h2).2 h1
  simp only [h3,Bool.not_false,Bool.true_and,hk,decide_true]
  rw [beq_iff_eq]
  rcases lastGo_spec k m.key l 0 (-1) with ⟨h5,-⟩ | ⟨j,m',h5,h6,h7,h8,h9⟩
  ·exact absurd rfl (h5 i m h2 hk)
  ·unfold lastI
   rw [h8]
   have hij:j=i:=by
    rcases Nat.lt_trichotomy j i with h10 | h10 | h10
    ·exact absurd rfl (h9 i m h10 h2 hk)
    ·exact h10
    ·exact absurd h7 (h4 j m' h10 ((upto_spec h j m' h5).1 h6) h5)
   subst hij
   simp
 ·rintro ⟨h2,h3⟩
  unfold visB at h3
  rw [h2] at h3
  simp only [Bool.and_eq_true,Bool.not_eq_true',decide_eq_true_eq,beq_iff_eq] at h3
  obtain ⟨h4,h5,h6⟩:=h3
  refine ⟨(upto_spec h i m h2).1 h5,h2,h4,fun i' m' h7 h8 h9=>?_⟩
  rcases lastGo_spec k m.key l 0 (-1) with ⟨h10,-⟩ | ⟨j,m2,h10,h11,h12,h13,h14⟩
  ·exact absurd rfl (h10 i m h2 h5)
  ·have e:j=i:=by
     unfold lastI at h6
     rw [h13] at h6
     omega
   subst e
   exact h14 i' m' h7 h9 ((upto_spec h i' m' h9).2 h8)
theorem sorted_vis {l:List MK} {k last:Int} (h:chkF last l=true) {out:List Int} (hn:out.Nodup) (hm:∀ z,z∈out↔∃ i m,VisP l (upto k l) i m∧z=((i:Nat):Int)):sortI out=(visI l k).map (fun i:Nat=>(i:Int)):=by
 have hle:∀ a b:Int,(decide (a≤b) || decide (b≤a))=true:=fun a b=>by
  rw [Bool.or_eq_true,decide_eq_true_eq,decide_eq_true_eq];omega
 have htr:∀ a b c:Int,decide (a≤b)=true→decide (b≤c)=true→decide (a≤c)=true:=fun a b c h1 h2=>by
  rw [decide_eq_true_eq] at *;omega
 have hstr:((visI l k).map (fun i:Nat=>(i:Int))).Pairwise (fun a b=>a < b):=by
  rw [List.pairwise_map]
  refine (List.Pairwise.filter _ (List.pairwise_lt_range (n:=l.length))).imp fun {a b} hab=>?_
  exact Int.ofNat_lt.2 hab
 have hp:out.Perm ((visI l k).map (fun i:Nat=>(i:Int))):=by
  refine (List.perm_ext_iff_of_nodup hn (hstr.imp fun hab=>by omega)).2 fun z=>?_
  rw [hm z,List.mem_map]
  constructor
  ·rintro ⟨i,m,h1,rfl⟩
   obtain ⟨h2,h3⟩:=(vis_iff h i m).1 h1
   refine ⟨i,?_,rfl⟩
   rw [visI,List.mem_filter,List.mem_range]
   exact ⟨(List.getElem?_eq_some_iff.1 h2).1,h3⟩
  ·rintro ⟨i,h1,rfl⟩
   rw [visI,List.mem_filter,List.mem_range] at h1
   obtain ⟨m,h2⟩:∃ m,l[i]? = some m:=⟨_,List.getElem?_eq_getElem h1.1⟩
   exact ⟨i,m,(vis_iff h i m).2 ⟨h2,h1.2⟩,rfl⟩
 have h1:=List.pairwise_mergeSort (le:=fun x y:Int=>decide (x≤y)) htr hle out
 have h2:((visI l k).map (fun i:Nat=>(i:Int))).Pairwise (fun a b=>decide (a≤b)=true):=hstr.imp fun hab=>by rw [decide_eq_true_eq];omega
 exact List.Perm.eq_of_pairwise (le:=fun a b:Int=>decide (a≤b)=true) (fun a b _ _ h3 h4=>by rw [decide_eq_true_eq] at *;omega) h1 h2 ((List.mergeSort_perm out _).trans hp)
end Go.Proofs.YtofllflnmmjijaaGreatDoor
namespace Go.Proofs.YtofllflnmmjijaaGreatDoor
open Go Go.RowKit Go.SX
theorem getM_one {k:Key} {B B':Blk} {d:Key} (h:getM [(k,B)] d=some B'):d=k∧B'=B:=by
 simp only [getM] at h
 split at h
 ·rename_i e;cases h;exact ⟨e.symm,rfl⟩
 ·cases h
theorem sort_z {E:Env} (hE:E.P=Tryz.prog) {x:Value} {is:List Int} (hl:is.length < 4611686018427387904):OwnC E 281 [SV.c x] [(1000,Blk.own x 3 1 is.length (ints is))] (fun r U=>r=.tuple #[]∧U=[(1000,Blk.own x 3 1 is.length (ints (sortI is)))]):=by
 have hne:(ints is).toList=is.map (Value.int .i64):=by simp [ints]
 have hlen:(sortI is).length=is.length:=List.length_mergeSort _
 refine ⟨by rw [hE];exact at281.enters,fun ρ w xs hw hx=>?_⟩
 obtain ⟨rfl,hx2⟩:xs=[x]∧True:=by
  match xs,hx with
  | [y],⟨h,_⟩=>exact ⟨by rw [show y=x from h],trivial⟩
 have hrow:w.ownsRow 0 3 1 x is.length (ints is).toList:=(hw.loose 1000 (Blk.own x 3 1 is.length (ints is)) (by simp [getM]) rfl).2
 rcases hrow.2 with ⟨rfl,h0⟩ | ⟨g,cap,cur,rfl,hb,hg,hnc,hcm,hcs,htake⟩
 ·have his:is=[]:=List.eq_nil_of_length_eq_zero h0
  subst his
  rw [hE]
  have hc:Calls Tryz.prog 281 #[.slice none 0 0] w fun e w'=>e=.returned (.tuple #[])∧w'=w:=Any.slices_Sort_int_none lays189 none 0 w
  refine hc.mono fun e w' ⟨h1,h2⟩=>?_
  subst h2
  refine ⟨_,_,h1,⟨rfl,by simp [sortI]⟩,hw,⟨Nat.le_refl _,fun _ _ _=>rfl,fun d B b hB hb=>?_⟩⟩
  obtain ⟨rfl,rfl⟩:=getM_one hB
  simp [Blk.num,Value.ownBlock] at hb
 ·rw [hne,Nat.mul_one] at htake
  have hgl:=(Array.getElem?_eq_some_iff.1 hg).1
  rw [hE]
  have hc:Calls Tryz.prog 281 #[.slice (some ⟨g,0,none⟩) is.length cap] w fun e w'=>e=.returned (.tuple #[])∧∃ n os,w'=Go.Sort.grow (Go.Sort.putRow (Value.int .i64) (Sort.ahead w n) g 0 (sortI is).toArray) os:=Any.slices_Sort_int lays189 g 0 cap is w (holds_of_blockI hg htake) hgl hl
  refine hc.mono fun e w' ⟨h1,n,os,h2⟩=>?_
  have hgr:w.grownBy w' (some g):=by rw [h2];exact grownBy_sortedI _
  have hown:w'.ownsRow 0 3 1 (.slice (some ⟨g,0,none⟩) is.length cap) is.length (ints (sortI is)).toList:=by
   have:=ownsRow_sortedI (n:=n) (os:=os) (ts:=sortI is) hlen hb hg hnc hcm hcs
   rw [← h2] at this
   have e1:(ints (sortI is)).toList=(sortI is).map (Value.int .i64):=by simp [ints]
   rw [e1];exact this
  refine ⟨_,_,h1,⟨rfl,rfl⟩,?_,⟨hgr.size,fun k hk hne'=>hgr.block k hk fun e=>?_,fun d B b hB hb=>?_⟩⟩
  ·have:=hw.set_loose (d:=1000) (no:=some g) (B':=Blk.own (.slice (some ⟨g,0,none⟩) is.length cap) 3 1 is.length (ints (sortI is))) (.inr ⟨Blk.own (.slice (some ⟨g,0,none⟩) is.length cap) 3 1 is.length (ints is),by simp [getM],rfl,rfl⟩) hgr.os hgr.tape hgr.output hgr.size (fun k hk hne'=>hgr.block k hk hne') rfl hown (fun b hb=>.inl hb.symm)
   refine this.congr fun d=>?_
   simp only [updM,lk,getM]
   by_cases e:(1000:Nat)=d<;>simp [e]
  ·have:=(hne' (1000,Blk.own (.slice (some ⟨g,0,none⟩) is.length cap) 3 1 is.length (ints is)) (by simp)).2
   exact this e.symm
  ·obtain ⟨rfl,rfl⟩:=getM_one hB
   exact .inr ⟨(1000,Blk.own (.slice (some ⟨g,0,none⟩) is.length cap) 3 1 is.length (ints is)),by simp,hb⟩
end Go.Proofs.YtofllflnmmjijaaGreatDoor
namespace Go.Proofs.YtofllflnmmjijaaGreatDoor
open Go Go.RowKit Go.SX
theorem str_eq {a b:List UInt8} (h:((S a).toList == (S b).toList)=true):a=b:=of_decide_eq_true ((S_beq a b).symm.trans h)
theorem str_ne {a b:List UInt8} (h:((S a).toList == (S b).toList)=false):a≠b:=of_decide_eq_false ((S_beq a b).symm.trans h)
end Go.Proofs.YtofllflnmmjijaaGreatDoor
namespace Go.Proofs.YtofllflnmmjijaaGreatDoor
open Go Go.RowKit Go.SX
theorem info_int:∃ q,Tryz.prog.info? 3=some q∧q.bytes=8:=info_of (by kernel_rfl)
def visL (xs:List MK) (k:Int):List Int:=if chkE xs=0 then (visI xs k).map (fun i:Nat=>(i:Int)) else []
def VisQ (xs:List MK) (k:Int) (x:Value) (U:MemL):Prop:=∃ s n,n=(visL xs k).length∧x=.tuple #[s,.int .i64 (chkE xs)]∧IsL s n∧U=[(1000,Blk.own s 3 1 n (ints (visL xs k)))]
theorem ints_add (l:List Int) (z:Int):ints l++#[.int .i64 z]=ints (l++[z]):=by simp [ints]
theorem fill_int1 (z:Int):Instr.fill (fun k=>some (k*ti3.size,ti3.size)) (madeCells ti3.zero (1*ti3.size)) [(0,.int .i64 z)]=some #[.int .i64 z]:=by kernel_rfl
theorem ext_int1 (z:Value):(#[z]:Array Value).extract 0 (0+1*1)=#[z]:=by simp
end Go.Proofs.YtofllflnmmjijaaGreatDoor
namespace Go.Proofs.YtofllflnmmjijaaGreatDoor
open Go Go.RowKit Go.SX
open Go.Maps (Keyed)
theorem key_str:Keyed Tryz.prog 9:=Go.Maps.string_keyed Tryz.underlying9
theorem key_of {s:List UInt8} (h:s.length≤64):Go.keyOf Tryz.prog 9 (.string (S s))=some (.string s):=Go.WideMaps.keyOf_string_mk Tryz.underlying9 (by rw [S_size];unfold maxLen;omega)
theorem int_wf {i:Nat} (h:i≤1000000000000):(Lit.int .i64 ((i:Nat):Int)).wf=true:=by
 have h1:IntKind.i64.min=-9223372036854775808:=rfl
 have h2:IntKind.i64.max=9223372036854775807:=rfl
 simp only [Lit.wf,h1,h2,Bool.and_eq_true,decide_eq_true_eq]
 omega
theorem elem_int {i:Nat} (h:i≤1000000000000):plainElem (H:=Unit) Tryz.prog 3 (.int .i64 ((i:Nat):Int))=some (.lit (.int .i64 ((i:Nat):Int)),[]):=plainElem_int Tryz.underlying3 (int_wf h)
def CntQ (xs:List MK) (k:Int) (x:Value) (U:MemL):Prop:=∃ b n,n≤xs.length∧x=.map (some b)∧U=[(500,Blk.res b (MapD Tryz.prog 9 3 (cntGo k 0 xs (.map [])) n))]
theorem count_z {E:Env} (hE:E.P=Tryz.prog) {v:Value} {k:Int} {xs:List MK} (hv:Lst E v 3 xs.length (cat MK.A xs)) (hn:xs.length≤1000000000000) (hkl:∀ (i:Nat) (y:MK),xs[i]? = some y→y.key.length≤64):OwnC E 280 [SV.c v,SV.c (.int .i64 k)] [] (CntQ xs k):=by
 refine sx_ownC [] tt_ok mixed at280 E hE [SV.c v,SV.c (.int .i64 k)] [] _ rfl rfl fun w X β hT=>?_
 obtain ⟨a,cap,rfl,hc,h4⟩:=(hv.of_old hT).shape
 refine map_make rfl rfl 9 3 500 rfl trivial fun b0=>?_
 refine ⟨_,fun w' _=>run_len_sl Tryz.underlying120 w',?_⟩
 refine ⟨fun q f m=>∃ (i n:Nat) (D:DataW Unit),q=xs.length - i∧i≤xs.length∧n≤i∧cntGo k 0 xs (.map [])=cntGo k i (xs.drop i) D∧f=[(1,SV.c (.int .i64 k)),(5,SV.c (.map (some b0))),(9,SV.c (.slice a xs.length cap)),(10,SV.c (.int .i64 (xs.length:Nat))),(11,SV.c (.int .i64 (i:Nat)))]∧m=[(500,Blk.res b0 (MapD Tryz.prog 9 3 D n))],xs.length,⟨_,_,⟨0,0,.map [],by omega,by omega,by omega,rfl,rfl,rfl⟩,⟨rfl,rfl,rfl,rfl,rfl,trivial⟩,⟨rfl,trivial⟩,rfl⟩,?_⟩
 rintro q f m ⟨i,n,D,rfl,hi,hni,hch,rfl,rfl⟩
 refine ⟨fun h=>?_,fun h=>?_⟩
 ·have h:i < xs.length:=by have:=of_decide_eq_true h;omega
  obtain ⟨b,o,rfl,h5⟩:=h4 (by omega)
  obtain ⟨y,hy⟩:∃ y,xs[i]? = some y:=⟨_,List.getElem?_eq_getElem h⟩
  have hE':VOk (envC Tryz.prog tt Tryz.f280.ntmps w X (tiedK [] β)):=tt_ok
  have L1:=lst_elem hE' h5 MK.size hy (ty:=169) (ti:=ti169) rfl rfl rfl (p:=o+(i:Int).toNat*3) rfl
  rw [drop_at hy,cntGo] at hch
  refine ⟨by omega,by omega,.inl ⟨_,L1,y.fits,?_⟩⟩
  refine ⟨_,y.g1,fun c1=>?_,fun c1=>?_⟩
  ·rw [if_pos (of_decide_eq_true c1)] at hch
   exact ⟨[(500,Blk.res b0 (MapD Tryz.prog 9 3 D n))],[],⟨b0,n,by omega,rfl,by rw [hch]⟩,⟨rfl,trivial⟩,rfl⟩
  rw [if_neg (of_decide_eq_false c1),cntStep] at hch
  refine ⟨_,y.g2,fun c2=>?_,fun c2=>?_⟩
  ·rw [if_pos c2] at hch
   refine ⟨_,y.g0,?_⟩
   refine map_delete rfl rfl rfl rfl rfl key_str Tryz.underlying293 500 rfl rfl rfl (key_of (hkl i y hy)) ?_
   exact ⟨xs.length - (i+1),_,_,by omega,⟨i+1,n,_,rfl,by omega,by omega,hch,rfl,rfl⟩,⟨rfl,rfl,rfl,rfl,c_int (i64_succ (by omega)),trivial⟩,⟨rfl,trivial⟩,rfl⟩
  ·rw [if_neg (by rw [c2];simp)] at hch
   refine ⟨_,y.g0,?_⟩
   refine map_store rfl rfl key_str Tryz.underlying293 500 rfl rfl rfl rfl (by unfold maxLen;omega) (key_of (hkl i y hy)) (elem_int (by omega)) ?_
   exact ⟨xs.length - (i+1),_,_,by omega,⟨i+1,n+1,_,rfl,by omega,by omega,hch,rfl,rfl⟩,⟨rfl,rfl,rfl,rfl,c_int (i64_succ (by omega)),trivial⟩,⟨rfl,trivial⟩,rfl⟩
 ·have h:i=xs.length:=by have:=of_decide_eq_false h;omega
  subst h
  rw [List.drop_length,cntGo] at hch
  exact ⟨[(500,Blk.res b0 (MapD Tryz.prog 9 3 D n))],[],⟨b0,n,by omega,rfl,by rw [hch]⟩,⟨rfl,trivial⟩,rfl⟩
end Go.Proofs.YtofllflnmmjijaaGreatDoor
namespace Go.Proofs.YtofllflnmmjijaaGreatDoor
open Go Go.RowKit Go.SX
open Go.WideElems (Fit rd rg pl rd_key rd_val rg_of)
def valI (e:MapEntry):Int:=match e.val with
 | .int _ z=>z
 | _=>0
theorem key_inv {key:Value} {kl:Lit} (h:Go.keyOf Tryz.prog 9 key=some kl):∃ s:List UInt8,key=.string (S s)∧kl=.string s:=by
 have hk:=Tryz.underlying9
 cases key<;>simp [Go.keyOf,hk,mapKey] at h
 rename_i s
 exact ⟨s.data.toList,by rw [S_of s];rfl,h.2.symm⟩
theorem ent_of {l:List MK} {j:Nat} {es:Array MapEntry} {clock:Nat} (F:Fit Tryz.prog 9 (plainElem (H:=Unit) Tryz.prog 3) es clock)
    (hC:CntIs l j (.map ((es.toList.map (rg Tryz.prog 9 (plainElem (H:=Unit) Tryz.prog 3))).foldr DataW.insert []))) {e:MapEntry} (he:e∈es.toList) :
    ∃ (i:Nat) (m:MK),e.key=.string (S m.key)∧e.val=.int .i64 (i:Nat)∧VisP l j i m:=by
 obtain ⟨y,hy⟩:=F.reads e he
 obtain ⟨s,hs,hs2⟩:=key_inv (rd_key hy)
 obtain ⟨z,hz,hz2⟩:=rd_val hy
 obtain ⟨a,ha,rfl,-⟩:=plainElem_int_inv Tryz.underlying3 hz
 have hm:(Lit.string s,(DataW.lit (.int .i64 a):DataW Unit))∈ents (.map ((es.toList.map (rg Tryz.prog 9 (plainElem (H:=Unit) Tryz.prog 3))).foldr DataW.insert [])):=by
  simp only [ents]
  rw [mem_sorted,List.mem_map]
  refine ⟨e,he,?_⟩
  rw [rg_of hy,← hs2]
  have:y.2=DataW.lit (.int .i64 a):=hz2
  rw [← this]
 obtain ⟨i,m,h1,h2,h3⟩:=(hC.2 _ _).1 hm
 have h3:a=((i:Nat):Int):=by simpa using h3
 exact ⟨i,m,by rw [hs,h2],by rw [ha,h3],h1⟩
theorem nodup_born {es:Array MapEntry} (h:(es.toList.map (·.key)).Nodup) {x y:MapEntry} (hx:x∈es.toList) (hy:y∈es.toList) (hk:x.key=y.key):x=y :=
 entry_eq_of_key (List.pairwise_map.1 h) hx hy hk
theorem born_eq:∀ {l:List MapEntry},l.Pairwise (fun x y=>x.born≠y.born)→∀ {x y:MapEntry},x∈l→y∈l→x.born=y.born→x=y
 | [],_,_,_,hx,_,_=>by simp at hx
 | a :: r,hp,x,y,hx,hy,h=>by
  obtain ⟨h1,h2⟩:=List.pairwise_cons.1 hp
  rcases List.mem_cons.1 hx with ex | hx'
  ·rcases List.mem_cons.1 hy with ey | hy'
   ·rw [ex,ey]
   ·exact absurd (ex ▸ h) (h1 y hy')
  ·rcases List.mem_cons.1 hy with ey | hy'
   ·exact absurd (ey ▸ h).symm (h1 x hx')
   ·exact born_eq h2 hx' hy' h
theorem range_done {l:List MK} {j:Nat} {es:Array MapEntry} {clock:Nat} (F:Fit Tryz.prog 9 (plainElem (H:=Unit) Tryz.prog 3) es clock)
    (hC:CntIs l j (.map ((es.toList.map (rg Tryz.prog 9 (plainElem (H:=Unit) Tryz.prog 3))).foldr DataW.insert [])))
    {vis:List MapEntry} (h1:∀ e∈vis,e∈es.toList) (h2:(vis.map (·.born)).Nodup) (h3:∀ e∈es.toList,e.born∈vis.map (·.born)) :
    (vis.map valI).Nodup∧∀ z,z∈vis.map valI↔∃ i m,VisP l j i m∧z=((i:Nat):Int):=by
 have hval:∀ e i,e.val=Value.int .i64 ((i:Nat):Int)→valI e=((i:Nat):Int):=fun e i h=>by unfold valI;rw [h]
 constructor
 ·rw [List.Nodup,List.pairwise_map] at h2 ⊢
  refine List.Pairwise.imp_of_mem (fun {x y} hx hy hne he=>?_) h2
  obtain ⟨i,m,k1,v1,p1⟩:=ent_of F hC (h1 x hx)
  obtain ⟨i',m',k2,v2,p2⟩:=ent_of F hC (h1 y hy)
  rw [hval _ _ v1,hval _ _ v2] at he
  have hi:i=i':=by omega
  subst hi
  have hm:m=m':=by have:=p1.2.1.symm.trans p2.2.1;simpa using this
  subst hm
  exact hne (by rw [nodup_born F.stamped.2.2 (h1 x hx) (h1 y hy) (k1.trans k2.symm)])
 ·intro z
  rw [List.mem_map]
  constructor
  ·rintro ⟨e,he,rfl⟩
   obtain ⟨i,m,k1,v1,p1⟩:=ent_of F hC (h1 e he)
   exact ⟨i,m,p1,hval _ _ v1⟩
  ·rintro ⟨i,m,hp,rfl⟩
   have hm:=(hC.2 m.key (.lit (.int .i64 ((i:Nat):Int)))).2 ⟨i,m,hp,rfl,rfl⟩
   simp only [ents] at hm
   rw [mem_sorted,List.mem_map] at hm
   obtain ⟨e,he,hee⟩:=hm
   obtain ⟨e',he',hb⟩:=List.mem_map.1 (h3 e he)
   have hb:e'.born=e.born:=hb
   have:e'=e:=by
    have hn:=F.stamped.2.1
    rw [List.Nodup,List.pairwise_map] at hn
    exact born_eq hn (h1 e' he') he hb
   subst this
   obtain ⟨y,hy⟩:=F.reads e' he
   rw [rg_of hy] at hee
   subst hee
   obtain ⟨z,hz,hz2⟩:=rd_val hy
   obtain ⟨a,ha,rfl,-⟩:=plainElem_int_inv Tryz.underlying3 hz
   have hz2:a=((i:Nat):Int):=by
    have:(DataW.lit (.int .i64 ((i:Nat):Int)):DataW Unit)=.lit (.int .i64 a):=hz2
    simpa using this.symm
   exact ⟨e',he',hval _ _ (by rw [ha,hz2])⟩
end Go.Proofs.YtofllflnmmjijaaGreatDoor
namespace Go.Proofs.YtofllflnmmjijaaGreatDoor
open Go Go.RowKit Go.SX
theorem chkF_key {last:Int}:∀ {l:List MK},chkF last l=true→∀ (i:Nat) (m:MK),l[i]? = some m→m.key.length≤64
 | [],_,i,m,h=>by simp at h
 | m0 :: r,h,i,m,hi=>by
  simp only [chkF,mkGood,Bool.and_eq_true,decide_eq_true_eq] at h
  cases i with
  | zero=>simp at hi;subst hi;exact h.1.2.1
  | succ i=>exact chkF_key h.2 i m (by simpa using hi)
theorem chkE_zero {xs:List MK} (h:chkE xs=0):chkF 0 xs=true∧∀ (i:Nat) (m:MK),xs[i]? = some m→m.key.length≤64:=by
 unfold chkE at h
 split at h
 ·simp at h
 ·split at h
  ·rename_i hf;exact ⟨hf,chkF_key hf⟩
  ·simp at h
theorem vis_z {E:Env} (hE:E.P=Tryz.prog) {v:Value} {k:Int} {xs:List MK} (hv:Lst E v 3 xs.length (cat MK.A xs)) (hn:xs.length≤1000000000000):OwnC E 270 [SV.c v,SV.c (.int .i64 k)] [] (VisQ xs k):=by
 refine sx_ownC [] tt_ok mixed at270 E hE [SV.c v,SV.c (.int .i64 k)] [] _ rfl rfl fun w X β hT=>?_
 have hv':=hv.of_old hT
 have C1:=check_zm rfl hv'
 refine .inr (.inr (.inl ⟨[],[_],[],_,[],C1,rfl,trivial,rfl,rfl,fun h=>?_,fun h=>?_⟩))
 ·have h:(chkE xs != 0)=true:=h
  have h:chkE xs≠0:=by simpa using h
  have e1:visL xs k=[]:=by rw [visL,if_neg h]
  exact ⟨[(1000,Blk.own (.slice none 0 0) 3 1 0 #[])],[],⟨_,0,by rw [e1];rfl,rfl,.nil,by rw [e1];rfl⟩,⟨.inr ⟨rfl,rfl,rfl⟩,trivial⟩,rfl⟩
 have h:(chkE xs != 0)=false:=h
 have h0':chkE xs=0:=by simpa using h
 obtain ⟨hf,hk64⟩:=chkE_zero h0'
 refine .inr (.inr (.inr ⟨[],[500],[_,_],[],_,count_z rfl hv' hn hk64,rfl,trivial,rfl,trivial,?_⟩))
 rintro x U ⟨b,n,hnx,rfl,rfl⟩
 refine ⟨rfl,?_⟩
 refine map_range rfl rfl Tryz.underlying293 500 501 (by decide) rfl rfl rfl trivial fun r es clock F hes hD=>?_
 have hC:=cntGo_is k xs xs 0 (.map []) (fun j=>by simp) (cntIs_start xs)
 rw [hD,Nat.zero_add] at hC
 refine ⟨fun q f m=>∃ (vis:List MapEntry) (seen:Array Nat) (c0:Nat) (x:Value) (N:Nat),q=(leftOf es seen).size∧(∀ e∈vis,e∈es.toList)∧seen.toList=vis.map (·.born)∧(vis.map (·.born)).Nodup∧vis.length+q≤xs.length∧clock≤c0∧N=(vis.map valI).length∧IsL x N∧f=[(7,SV.c x),(18,SV.c (.pointer (some ⟨r,0,none⟩)))]∧m=[(1000,Blk.own x 3 1 N (ints (vis.map valI))),(500,Blk.res b (fun o=>o=Obj.map es clock)),(501,Blk.res r (fun o=>o=Obj.mapIter (some b) clock seen c0))],(leftOf es #[]).size,⟨_,_,⟨[],#[],clock,.slice none 0 0,0,rfl,fun e h=>by simp at h,rfl,by simp,?_,Nat.le_refl _,rfl,.nil,rfl,rfl⟩,⟨rfl,rfl,trivial⟩,⟨.inr ⟨rfl,rfl,rfl⟩,rfl,rfl,trivial⟩,rfl⟩,?_⟩
 ·have:(leftOf es #[]).size≤es.size:=by unfold leftOf;exact Array.size_filter_le ..
  simp only [List.length_nil];omega
 rintro q f m ⟨vis,seen,c0,x,N,rfl,hv1,hv2,hv3,hv4,hc0,hN,hx,rfl,rfl⟩
 refine map_next rfl 500 501 rfl rfl rfl F.stamped.1 hc0 trivial (fun h0=>?_) (fun e he=>?_)
 ·refine ⟨fun h=>absurd h (by decide),fun _=>?_⟩
  obtain ⟨hnd,hmem⟩:=range_done F hC hv1 hv3 (fun e he=>by
   have:=all_seen es seen h0 e he
   rw [← hv2]
   simpa using this)
  have hs:=sorted_vis (k:=k) hf hnd hmem
  have e1:visL xs k=sortI (vis.map valI):=by rw [visL,if_pos h0',hs]
  subst hN
  refine .inr (.inr (.inl ⟨[],[_],[_],_,[_],sort_z (x:=x) (is:=vis.map valI) rfl (by rw [List.length_map];omega),rfl,⟨.inl rfl,trivial⟩,rfl,rfl,?_⟩))
  exact ⟨[(1000,Blk.own x 3 1 (vis.map valI).length (ints (sortI (vis.map valI))))],[],⟨x,(vis.map valI).length,by rw [e1];exact (List.length_mergeSort _).symm,by rw [h0'];rfl,hx,by rw [e1]⟩,⟨.inl rfl,trivial⟩,rfl⟩
 ·obtain ⟨m1,m2⟩:=mem_left he
  have m3:=left_shrinks es seen e he
  refine ⟨fun _=>?_,fun h=>absurd h (by decide)⟩
  have m1':e∈es.toList:=m1
  obtain ⟨i,mm,ek,ev,-⟩:=ent_of F hC m1
  obtain ⟨key,val,born⟩:=e
  have ev:val=.int .i64 ((i:Nat):Int):=ev
  subst ev
  refine map_entry rfl 500 501 rfl rfl rfl m1' F.stamped.2.1 ?_
  have hle:(vis.map valI).length+1≤xs.length:=by rw [List.length_map];omega
  refine .inl ⟨by decide,by decide,_,fill_int1 _,rfl,by decide,1000,N,_,.inl rfl,by decide,by simp [Value.oneCell'],rfl,_,ext_int1 _,?_⟩
  obtain ⟨q,hq,hbb⟩:=info_int
  refine ⟨by omega,by unfold maxLen;omega,⟨q,hq,by rw [hbb];omega⟩,trivial,fun g2 cap2=>?_⟩
  refine ⟨_,_,_,m3,⟨vis++[⟨key,.int .i64 ((i:Nat):Int),born⟩],seen.push born,clock,_,N+1,rfl,?_,by simp [hv2],?_,?_,Nat.le_refl _,by simp [hN],.some,rfl,rfl⟩,⟨rfl,rfl,trivial⟩,⟨.inl (own_eq ?_),rfl,rfl,trivial⟩,rfl⟩
  ·intro e he
   rcases List.mem_append.1 he with h | h
   ·exact hv1 e h
   ·have:e=⟨key,.int .i64 ((i:Nat):Int),born⟩:=by simpa using h
    rw [this];exact m1'
  ·have h:¬ born∈vis.map (·.born):=by
     rw [← hv2]
     have:seen.contains born=false:=m2
     simpa using this
   rw [List.map_append,List.nodup_append]
   refine ⟨hv3,by simp,fun a ha b hb=>?_⟩
   have hb:b=born:=by simpa using hb
   subst hb
   intro e;subst e
   exact h ha
  ·have m3:(leftOf es (seen.push born)).size < (leftOf es seen).size:=m3
   rw [List.length_append]
   simp only [List.length_cons,List.length_nil]
   omega
  ·rw [ints_add,List.map_append]
   rfl
end Go.Proofs.YtofllflnmmjijaaGreatDoor
namespace Go.Proofs.YtofllflnmmjijaaGreatDoor
open Go Go.RowKit Go.SX
theorem check_own {E:Env} (hE:E.P=Tryz.prog) {x:Value} {xs:List MK} {n:Nat} (hn:n=xs.length):OwnC E 68 [SV.c x] [(2000,Blk.own x 169 3 n (cat MK.A xs))] (fun y U=>y=.int .i64 (chkE xs)∧U=[(2000,Blk.own x 169 3 n (cat MK.A xs))]):=by
 subst hn
 refine (OwnC.with_own (k:=2000) (v:=x) (e:=169) (sz:=3) (n:=xs.length) (A:=cat MK.A xs) (pre:=[]) rfl rfl (cat_all MK.one xs) (by rw [hE];exact at68.enters) (fun E0 h hl=>check_zm (h.trans hE) hl) (fun x U h=>by rw [h.2];rfl)).mono ?_
 rintro y U ⟨U0,⟨h1,h2⟩,h3⟩
 exact ⟨h1,by rw [h3,h2]⟩
def VisO (x:Value) (n:Nat) (xs:List MK) (k:Int) (y:Value) (U:MemL):Prop:=∃ U0,VisQ xs k y U0∧U=(2000,Blk.own x 169 3 n (cat MK.A xs)) :: U0
theorem vis_own {E:Env} (hE:E.P=Tryz.prog) {x:Value} {xs:List MK} {n:Nat} {k:Int} (hn:n=xs.length) (hb:n≤1000000000000):OwnC E 270 [SV.c x,SV.c (.int .i64 k)] [(2000,Blk.own x 169 3 n (cat MK.A xs))] (VisO x n xs k):=by
 subst hn
 exact OwnC.with_own (k:=2000) (v:=x) (e:=169) (sz:=3) (n:=xs.length) (A:=cat MK.A xs) (pre:=[]) rfl rfl (cat_all MK.one xs) (by rw [hE];exact at270.enters) (fun E0 h hl=>vis_z (h.trans hE) hl hb) (fun x U h=>by obtain ⟨s,n,-,-,-,rfl⟩:=h;rfl)
end Go.Proofs.YtofllflnmmjijaaGreatDoor
namespace Go.Proofs.YtofllflnmmjijaaGreatDoor
open Go Go.RowKit Go.SX
end Go.Proofs.YtofllflnmmjijaaGreatDoor
namespace Go.Proofs.YtofllflnmmjijaaGreatDoor
open Go Go.RowKit Go.SX
end Go.Proofs.YtofllflnmmjijaaGreatDoor
namespace Go.Proofs.YtofllflnmmjijaaGreatDoor
open Go Go.RowKit Go.SX
end Go.Proofs.YtofllflnmmjijaaGreatDoor
namespace Go.Proofs.YtofllflnmmjijaaGreatDoor
open Go Go.RowKit Go.SX
end Go.Proofs.YtofllflnmmjijaaGreatDoor
namespace Go.Proofs.YtofllflnmmjijaaGreatDoor
open Go Go.RowKit Go.SX
end Go.Proofs.YtofllflnmmjijaaGreatDoor
namespace Go.Proofs.YtofllflnmmjijaaGreatDoor
open Go Go.RowKit Go.SX
theorem AC.beq_self (a:AC):a.beq a=true:=by simp [AC.beq,RQ.beq_self]
theorem AC.all1 (a:AC):a.A.all (·.oneCell')=true:=a.fits.one
end Go.Proofs.YtofllflnmmjijaaGreatDoor
namespace Go.Proofs.YtofllflnmmjijaaGreatDoor
open Go Go.RowKit Go.SX
theorem ownC_at8 {f:FuncId} {vs:List Value} {Q:Value→MemL→Prop} (w:World) (h:OwnC (E:={ P:=Tryz.prog,n:=0,w0:=w,X:=[],pk:=[] }) f (vs.map SV.c) [] Q):Calls Tryz.prog f vs.toArray w fun e w'=>∃ x U,e=.returned x∧Q x U∧Below w.heap.size w w':=by
 have hx':rels (fun _=>none) (vs.map SV.c) vs:=by
  clear h
  induction vs with
  | nil=>trivial
  | cons s vs ih=>exact ⟨rfl,ih⟩
 refine (h.2 (fun _=>none) w vs ⟨rfl,rfl,rfl,Nat.le_refl _,fun _ _ _=>rfl,fun d B hd=>by simp [getM] at hd,fun _ _=>rfl,fun d B hd=>by simp [getM] at hd,fun d B b hd=>by simp [getM] at hd,fun d e k hd=>(by cases hd),fun d k B hp=>by simp [Env.np] at hp⟩ hx').mono ?_
 rintro e w' ⟨x,U,h1,h2,h3,-⟩
 exact ⟨x,U,h1,h2,h3.os,h3.tape,h3.output,h3.size,fun k hk=>h3.old k hk (by simp [Env.np])⟩
end Go.Proofs.YtofllflnmmjijaaGreatDoor
namespace Go.Proofs.YtofllflnmmjijaaGreatDoor
open Go Go.RowKit Go.SX
structure EC where
 kind:Int
 key:List UInt8
 day:Int
 settle:Int
 ins:List UInt8
 qty:Int
 amt:Int
 cur:List UInt8
 known:Int
 void:Bool
def EC.A (a:EC):Array Value:=#[.int .i64 a.kind,.string (S a.key),.int .i64 a.day,.int .i64 a.settle,.string (S a.ins),.int .i64 a.qty,.int .i64 a.amt,.string (S a.cur),.int .i64 a.known,.bool a.void]
structure EC.In (a:EC):Prop where
 key:a.key.length≤9223372036854775807
 ins:a.ins.length≤9223372036854775807
 cur:a.cur.length≤9223372036854775807
theorem EC.size (a:EC):a.A.size=10:=rfl
theorem EC.fits (a:EC):Fits a.A 10:=⟨rfl,by simp [EC.A,Value.oneCell']⟩
theorem EC.one (a:EC):a.A.all (·.oneCell')=true:=a.fits.one
theorem EC.g0 (a:EC):a.A[0]? = some (.int .i64 a.kind):=rfl
theorem EC.g1 (a:EC):a.A[1]? = some (.string (S a.key)):=rfl
theorem EC.g2 (a:EC):a.A[2]? = some (.int .i64 a.day):=rfl
theorem EC.g3 (a:EC):a.A[3]? = some (.int .i64 a.settle):=rfl
theorem EC.g4 (a:EC):a.A[4]? = some (.string (S a.ins)):=rfl
def EC.beq (a b:EC):Bool:=(a.kind == b.kind) && (decide (a.key=b.key) && ((a.day == b.day) && ((a.settle == b.settle) && (decide (a.ins=b.ins) && ((a.qty == b.qty) && ((a.amt == b.amt) && (decide (a.cur=b.cur) && ((a.known == b.known) && ((a.void == b.void) && true)))))))))
def EC.nil (key:List UInt8) (known:Int):EC:=⟨0,key,0,0,[],0,0,[],known,true⟩
def EC.zero:EC:=⟨0,[],0,0,[],0,0,[],0,false⟩
def inB (n lo hi:Int):Bool:=decide (lo≤n) && decide (n≤hi)
def hdrE (a:EC):Bool:=inB a.key.length 1 64 && inB a.known 1 2147483647
def bodyE (a:EC):Bool:=inB a.day 0 a.settle && (decide (a.settle≤73048) && (inB a.amt (-1000000000000000) 1000000000000000 && curOk a.cur))
def kindE (a:EC):Bool :=
 if a.kind=1 then insOk a.ins && (!(a.qty == 0) && inB a.qty (-1000000000000000) 1000000000000000)
 else if a.kind=2 then decide (a.ins=[]) && (a.qty == 0)
 else false
def validE (a:EC):Bool:=hdrE a && (if a.void then a.beq (.nil a.key a.known) else bodyE a && kindE a)
/-! ### what a fund has, by plain functions -/
abbrev Bs:=List UInt8
abbrev Ky:=Bs×Int
def ltB:Bs→Bs→Bool
 | [],[]=>false
 | [],_ :: _=>true
 | _ :: _,[]=>false
 | a :: x,b :: y=>if a < b then true else if b < a then false else ltB x y
def ltK2 (a b:Ky):Bool:=if ltB a.1 b.1 then true else if ltB b.1 a.1 then false else decide (a.2 < b.2)
theorem ltB_irr:∀ a,ltB a a=false
 | []=>rfl
 | a :: x=>by rw [ltB,if_neg (UInt8.lt_irrefl a),if_neg (UInt8.lt_irrefl a),ltB_irr x]
theorem ltB_tr:∀ a b c,ltB a b=true→ltB b c=true→ltB a c=true
 | [],[],_,h,_=>by cases h
 | [],_ :: _,[],_,h=>by cases h
 | [],_ :: _,_ :: _,_,_=>rfl
 | _ :: _,[],_,h,_=>by cases h
 | _ :: _,_ :: _,[],_,h=>by cases h
 | a :: x,b :: y,c :: z,h1,h2=>by
  rw [ltB] at h1 h2 ⊢
  by_cases q1:a < b
  ·by_cases q2:b < c
   ·rw [if_pos (UInt8.lt_trans q1 q2)]
   ·rw [if_neg q2] at h2
    by_cases q3:c < b
    ·rw [if_pos q3] at h2;cases h2
    ·have:b=c:=by
       have e1:=UInt8.not_lt.1 q2
       have e2:=UInt8.not_lt.1 q3
       exact UInt8.le_antisymm e2 e1
     subst this
     rw [if_pos q1]
  ·rw [if_neg q1] at h1
   by_cases q4:b < a
   ·rw [if_pos q4] at h1;cases h1
   ·rw [if_neg q4] at h1
    have hab:a=b:=UInt8.le_antisymm (UInt8.not_lt.1 q4) (UInt8.not_lt.1 q1)
    subst hab
    by_cases q2:a < c
    ·rw [if_pos q2]
    ·rw [if_neg q2] at h2 ⊢
     by_cases q3:c < a
     ·rw [if_pos q3] at h2;cases h2
     ·rw [if_neg q3] at h2 ⊢
      exact ltB_tr x y z h1 h2
theorem ltB_tri:∀ a b,ltB a b=false→ltB b a=false→a=b
 | [],[],_,_=>rfl
 | [],_ :: _,h,_=>by cases h
 | _ :: _,[],_,h=>by cases h
 | a :: x,b :: y,h1,h2=>by
  rw [ltB] at h1 h2
  by_cases q1:a < b
  ·rw [if_pos q1] at h1;cases h1
  ·by_cases q2:b < a
   ·rw [if_pos q2] at h2;cases h2
   ·rw [if_neg q1,if_neg q2] at h1
    rw [if_neg q2,if_neg q1] at h2
    rw [UInt8.le_antisymm (UInt8.not_lt.1 q2) (UInt8.not_lt.1 q1),ltB_tri x y h1 h2]
theorem ltB_ok:StrictO ltB:=⟨ltB_irr,ltB_tr,ltB_tri⟩
structure Led where
 h:List (Bs×Int)
 c:List (Ky×Int)
 p:List (Ky×Int)
def Led.zero:Led:=⟨[],[],[]⟩
def w64 (n:Int):Int:=IntKind.i64.wrap n
structure LedOk (g:Led):Prop where
 h:SrtA ltB g.h∧NzA g.h
 c:SrtA ltK2 g.c∧NzA g.c
 p:SrtA ltK2 g.p∧NzA g.p
 b:∀ x∈g.h,0≤x.2∧x.2≤1000000000000000
theorem LedOk.zero:LedOk .zero:=⟨⟨.nil,fun _ h=>by cases h⟩,⟨.nil,fun _ h=>by cases h⟩,⟨.nil,fun _ h=>by cases h⟩,fun _ h=>by cases h⟩
def fnW (g:FuncId):Value:=.func (.func g) #[] #[]

end Go.Proofs.YtofllflnmmjijaaGreatDoor
namespace Go.Proofs.YtofllflnmmjijaaGreatDoor
open Go Go.RowKit Go.SX
section
variable {α:Type}
variable (key:α→Int)
end

end Go.Proofs.YtofllflnmmjijaaGreatDoor
