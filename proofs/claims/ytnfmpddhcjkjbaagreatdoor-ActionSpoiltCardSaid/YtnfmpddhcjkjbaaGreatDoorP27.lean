/- The books of actions: marks, Check, Visible, sameBooks, ActionBooks; no condition. -/
import Derived.Test.YtnfmpddhcjkjbaaGreatDoorP26
import Derived.Test.YtnfmpddhcjkjbaaGreatDoorP6
set_option maxRecDepth 100000
set_option maxHeartbeats 4000000
namespace Go.Proofs.YtnfmpddhcjkjbaaGreatDoor
open Go Go.RowKit Go.SX
def mkOf (a:AC):MK:=⟨a.key,a.known,a.void⟩
theorem marks_z {E:Env} (hE:E.P=Tryz.prog) {v:Value} {xs:List AC} (hv:Lst E v 76 xs.length (cat AC.A xs)) (hn:xs.length≤1000000000000):OwnC E 79 [SV.c v] [] (OwnL 2000 140 3 xs.length (cat MK.A (xs.map mkOf))):=by
 refine sx_ownC [] tt_ok mixed at79 E hE [SV.c v] [] _ rfl rfl fun w X β hT=>?_
 obtain ⟨a,cap,rfl,hc,h4⟩:=(hv.of_old hT).shape
 refine ⟨_,fun w' _=>run_len_sl Tryz.underlying66 w',?_⟩
 refine ⟨fun q f m=>∃ (i:Nat) (x:Value),q=xs.length - i∧i≤xs.length∧IsL x i∧f=[(3,SV.c x),(6,SV.c (.slice a xs.length cap)),(7,SV.c (.int .i64 (xs.length:Nat))),(8,SV.c (.int .i64 (i:Nat)))]∧m=[(2000,Blk.own x 140 3 i (cat MK.A ((xs.take i).map mkOf)))],xs.length,⟨_,_,⟨0,.slice none 0 0,by omega,by omega,.nil,rfl,rfl⟩,⟨rfl,rfl,rfl,rfl,trivial⟩,⟨.inr ⟨rfl,rfl,rfl⟩,trivial⟩,rfl⟩,?_⟩
 rintro q f m ⟨i,x,rfl,hi,hx,rfl,rfl⟩
 refine ⟨fun h=>?_,fun h=>?_⟩
 ·have h:i < xs.length:=by have:=of_decide_eq_true h;omega
  obtain ⟨b,o,rfl,h5⟩:=h4 (by omega)
  obtain ⟨y,hy⟩:∃ y,xs[i]? = some y:=⟨_,List.getElem?_eq_getElem h⟩
  have hE':VOk (envC Tryz.prog tt Tryz.f79.ntmps w X (tiedK [] β)):=tt_ok
  have L1:=lst_elem hE' h5 AC.size hy (ty:=29) (ti:=ti29) rfl rfl rfl (p:=o+(i:Int).toNat*76) rfl
  refine ⟨by omega,by omega,.inl ⟨_,L1,y.fits,?_⟩⟩
  refine ⟨_,y.g1,_,y.g74,_,y.g75,_,fill_mark (mkOf y) rfl,?_⟩
  refine .inl ⟨by decide,by decide,_,fill_mark1 (mkOf y),rfl,by decide,2000,i,_,.inl rfl,by decide,(mkOf y).one,rfl,_,(mkOf y).ext3,?_⟩
  obtain ⟨q,hq,hb⟩:=info_mark
  refine ⟨by omega,by unfold maxLen;omega,⟨q,hq,by rw [hb];omega⟩,trivial,fun g2 cap2=>?_⟩
  exact ⟨xs.length - (i+1),_,_,by omega,⟨i+1,_,rfl,by omega,.some,rfl,rfl⟩,⟨rfl,rfl,rfl,c_int (i64_succ (by omega)),trivial⟩,⟨.inl (own_eq (cat_step mkOf MK.A hy)),trivial⟩,rfl⟩
 ·have h:i=xs.length:=by have:=of_decide_eq_false h;omega
  subst h
  rw [List.take_length]
  exact ⟨[(2000,Blk.own x 140 3 xs.length (cat MK.A (xs.map mkOf)))],[],⟨hx,rfl⟩,⟨.inl rfl,trivial⟩,rfl⟩
end Go.Proofs.YtnfmpddhcjkjbaaGreatDoor
namespace Go.Proofs.YtnfmpddhcjkjbaaGreatDoor
open Go Go.RowKit Go.SX
theorem marks_zr {E:Env} (hE:E.P=Tryz.prog) {v:Value} {xs:List AC} (hv:Lst E v 76 xs.length (cat AC.A xs)) (hn:xs.length≤1000000000000):OwnC E 81 [SV.c v] [] (OwnL 2000 140 3 xs.length (cat MK.A (xs.map mkOf))):=by
 refine sx_ownC [] tt_ok mixed at81 E hE [SV.c v] [] _ rfl rfl fun w X β hT=>?_
 obtain ⟨a,cap,rfl,hc,h4⟩:=(hv.of_old hT).shape
 refine ⟨fun q f m=>∃ (i:Nat) (x:Value),q=xs.length - i∧i≤xs.length∧IsL x i∧f=[(0,SV.c (.slice a xs.length cap)),(3,SV.c x),(4,SV.c (.int .i64 (i:Nat)))]∧m=[(2000,Blk.own x 140 3 i (cat MK.A ((xs.take i).map mkOf)))],xs.length,⟨_,_,⟨0,.slice none 0 0,by omega,by omega,.nil,rfl,rfl⟩,⟨rfl,rfl,rfl,trivial⟩,⟨.inr ⟨rfl,rfl,rfl⟩,trivial⟩,rfl⟩,?_⟩
 rintro q f m ⟨i,x,rfl,hi,hx,rfl,rfl⟩
 refine ⟨_,fun w' _=>run_len_sl Tryz.underlying66 w',fun h=>?_,fun h=>?_⟩
 ·have h:i < xs.length:=by have:=of_decide_eq_true h;omega
  obtain ⟨b,o,rfl,h5⟩:=h4 (by omega)
  obtain ⟨y,hy⟩:∃ y,xs[i]? = some y:=⟨_,List.getElem?_eq_getElem h⟩
  have hE':VOk (envC Tryz.prog tt Tryz.f81.ntmps w X (tiedK [] β)):=tt_ok
  have L1:=lst_at hE' h5 AC.size hy y.g1 (ty:=9) (ti:=ti9) rfl rfl (p:=o+(i:Int).toNat*76+1) rfl
  have L2:=lst_at hE' h5 AC.size hy y.g74 (ty:=3) (ti:=ti3) rfl rfl (p:=o+(i:Int).toNat*76+74) rfl
  have L3:=lst_at hE' h5 AC.size hy y.g75 (ty:=4) (ti:=ti4) rfl rfl (p:=o+(i:Int).toNat*76+75) rfl
  refine ⟨by omega,by omega,.inl ⟨_,L1,by omega,by omega,.inl ⟨_,L2,by omega,by omega,.inl ⟨_,L3,_,fill_mark (mkOf y) rfl,?_⟩⟩⟩⟩
  refine .inl ⟨by decide,by decide,_,fill_mark1 (mkOf y),rfl,by decide,2000,i,_,.inl rfl,by decide,(mkOf y).one,rfl,_,(mkOf y).ext3,?_⟩
  obtain ⟨q,hq,hb⟩:=info_mark
  refine ⟨by omega,by unfold maxLen;omega,⟨q,hq,by rw [hb];omega⟩,by change _=true;kernel_rfl,fun g2 cap2=>⟨by kernel_rfl,?_⟩⟩
  exact ⟨xs.length - (i+1),_,_,by omega,⟨i+1,_,rfl,by omega,.some,rfl,rfl⟩,⟨rfl,rfl,c_int (i64_succ (by omega)),trivial⟩,⟨.inl (own_eq (cat_step mkOf MK.A hy)),trivial⟩,rfl⟩
 ·have h:i=xs.length:=by have:=of_decide_eq_false h;omega
  subst h
  rw [List.take_length]
  exact ⟨[(2000,Blk.own x 140 3 xs.length (cat MK.A (xs.map mkOf)))],[],⟨hx,rfl⟩,⟨.inl rfl,trivial⟩,rfl⟩
end Go.Proofs.YtnfmpddhcjkjbaaGreatDoor
namespace Go.Proofs.YtnfmpddhcjkjbaaGreatDoor
open Go Go.RowKit Go.SX
def chkA (xs:List AC):Int:=if xs.all validA then chkE (xs.map mkOf) else 170
theorem chkA_bad {xs:List AC} {i:Nat} {y:AC} (hy:xs[i]? = some y) (h:validA y=false):chkA xs=170:=by
 unfold chkA
 rw [if_neg]
 intro h2
 rw [List.all_eq_true] at h2
 have:=h2 y (List.mem_of_getElem? hy)
 rw [h] at this;cases this
theorem chkA_good {xs:List AC} (h:∀ (i:Nat) (y:AC),xs[i]? = some y→validA y=true):chkA xs=chkE (xs.map mkOf):=by
 unfold chkA
 rw [if_pos]
 rw [List.all_eq_true]
 intro y hy
 obtain ⟨i,hi⟩:=List.getElem?_of_mem hy
 exact h i y hi
theorem fill_ch (a:AC):Instr.fill (fun k=>[(0,ti29.size)][k]?) ti77.zero [(0,.agg a.A)]=some a.A:=by kernel_rfl
theorem check_za {E:Env} (hE:E.P=Tryz.prog) {v:Value} {xs:List AC} (hv:Lst E v 76 xs.length (cat AC.A xs)) (hn:xs.length≤1000000000000) (hin:∀ y∈xs,y.In):OwnC E 41 [SV.c v] [] (fun x U=>x=.int .i64 (chkA xs)∧U=[]):=by
 refine sx_ownC [] tt_ok mixed at41 E hE [SV.c v] [] _ rfl rfl fun w X β hT=>?_
 have hv':=hv.of_old hT
 have M1:=marks_z rfl hv' hn
 obtain ⟨a,cap,rfl,hc,h4⟩:=hv'.shape
 refine ⟨_,fun w' _=>run_len_sl Tryz.underlying66 w',?_⟩
 refine ⟨fun q f m=>∃ (i:Nat),q=xs.length - i∧i≤xs.length∧(∀ (j:Nat) (y:AC),j < i→xs[j]? = some y→validA y=true)∧f=[(0,SV.c (.slice a xs.length cap)),(5,SV.c (.slice a xs.length cap)),(6,SV.c (.int .i64 (xs.length:Nat))),(7,SV.c (.int .i64 (i:Nat)))]∧m=[],xs.length,⟨_,_,⟨0,by omega,by omega,fun j y h=>by omega,rfl,rfl⟩,⟨rfl,rfl,rfl,rfl,trivial⟩,trivial,rfl⟩,?_⟩
 rintro q f m ⟨i,rfl,hi,hok,rfl,rfl⟩
 refine ⟨fun h=>?_,fun h=>?_⟩
 ·have h:i < xs.length:=by have:=of_decide_eq_true h;omega
  obtain ⟨b,o,rfl,h5⟩:=h4 (by omega)
  obtain ⟨y,hy⟩:∃ y,xs[i]? = some y:=⟨_,List.getElem?_eq_getElem h⟩
  have hE':VOk (envC Tryz.prog tt Tryz.f41.ntmps w X (tiedK [] β)):=tt_ok
  have L1:=lst_elem hE' h5 AC.size hy (ty:=29) (ti:=ti29) rfl rfl rfl (p:=o+(i:Int).toNat*76) rfl
  have V1:=valid_z (hin y (List.mem_of_getElem? hy))
  have F1:=y.fits
  have F2:=fill_ch y
  generalize hY:y.A=YA at L1 V1 F1 F2
  refine ⟨by omega,by omega,.inl ⟨_,L1,F1,_,F2,.inl ⟨_,V1,fun c1=>?_,fun c1=>?_⟩⟩⟩
  ·have c1:(!validA y)=true:=c1
   have c1:validA y=false:=by simpa using c1
   exact ⟨[],[],⟨by rw [chkA_bad hy c1];rfl,rfl⟩,trivial,rfl⟩
  ·have c1:(!validA y)=false:=c1
   have c1:validA y=true:=by simpa using c1
   refine ⟨xs.length - (i+1),_,_,by omega,⟨i+1,rfl,by omega,fun j z hj hz=>?_,rfl,rfl⟩,⟨rfl,rfl,rfl,c_int (i64_succ (by omega)),trivial⟩,trivial,rfl⟩
   rcases Nat.lt_or_ge j i with h9 | h9
   ·exact hok j z h9 hz
   ·have:j=i:=by omega
    subst this
    rw [hy] at hz;cases hz
    exact c1
 ·have h:i=xs.length:=by have:=of_decide_eq_false h;omega
  subst h
  refine .inr (.inr (.inr ⟨[],[2000],[_],[],_,M1,rfl,trivial,rfl,trivial,?_⟩))
  rintro x U ⟨hx,rfl⟩
  refine ⟨rfl,?_⟩
  have C1:=check_own (E:=(envC Tryz.prog tt Tryz.f41.ntmps w X (tiedK [] β)).toEnv) rfl (x:=x) (xs:=xs.map mkOf) (n:=xs.length) (by simp)
  refine .inr (.inr (.inl ⟨[],[_],[_],_,[_],C1,rfl,⟨.inl rfl,trivial⟩,rfl,rfl,?_⟩))
  have e1:chkA xs=chkE (xs.map mkOf):=chkA_good fun j y hy=>hok j y (List.getElem?_eq_some_iff.1 hy).1 hy
  exact ⟨[],[],⟨by rw [e1];rfl,rfl⟩,trivial,rfl⟩
theorem check_zra {E:Env} (hE:E.P=Tryz.prog) {v:Value} {xs:List AC} (hv:Lst E v 76 xs.length (cat AC.A xs)) (hn:xs.length≤1000000000000) (hin:∀ y∈xs,y.In):OwnC E 42 [SV.c v] [] (fun x U=>x=.int .i64 (chkA xs)∧U=[]):=by
 refine sx_ownC [] tt_ok mixed at42 E hE [SV.c v] [] _ rfl rfl fun w X β hT=>?_
 have hv':=hv.of_old hT
 have M1:=marks_zr rfl hv' hn
 obtain ⟨a,cap,rfl,hc,h4⟩:=hv'.shape
 refine ⟨fun q f m=>∃ (i:Nat),q=xs.length - i∧i≤xs.length∧(∀ (j:Nat) (y:AC),j < i→xs[j]? = some y→validA y=true)∧f=[(0,SV.c (.slice a xs.length cap)),(3,SV.c (.int .i64 (i:Nat)))]∧m=[],xs.length,⟨_,_,⟨0,by omega,by omega,fun j y h=>by omega,rfl,rfl⟩,⟨rfl,rfl,trivial⟩,trivial,rfl⟩,?_⟩
 rintro q f m ⟨i,rfl,hi,hok,rfl,rfl⟩
 refine ⟨_,fun w' _=>run_len_sl Tryz.underlying66 w',fun h=>?_,fun h=>?_⟩
 ·have h:i < xs.length:=by have:=of_decide_eq_true h;omega
  obtain ⟨b,o,rfl,h5⟩:=h4 (by omega)
  obtain ⟨y,hy⟩:∃ y,xs[i]? = some y:=⟨_,List.getElem?_eq_getElem h⟩
  have hE':VOk (envC Tryz.prog tt Tryz.f42.ntmps w X (tiedK [] β)):=tt_ok
  have L1:=lst_elem hE' h5 AC.size hy (ty:=29) (ti:=ti29) rfl rfl rfl (p:=o+(i:Int).toNat*76) rfl
  have V1:=valid_ra (hin y (List.mem_of_getElem? hy))
  generalize hY:y.A=YA at L1 V1
  refine ⟨by omega,by omega,.inl ⟨_,L1,.inl ⟨_,V1,fun c1=>?_,fun c1=>?_⟩⟩⟩
  ·have c1:(!validA y)=true:=c1
   have c1:validA y=false:=by simpa using c1
   exact ⟨[],[],⟨by rw [chkA_bad hy c1];rfl,rfl⟩,trivial,rfl⟩
  ·have c1:(!validA y)=false:=c1
   have c1:validA y=true:=by simpa using c1
   refine ⟨xs.length - (i+1),_,_,by omega,⟨i+1,rfl,by omega,fun j z hj hz=>?_,rfl,rfl⟩,⟨rfl,c_int (i64_succ (by omega)),trivial⟩,trivial,rfl⟩
   rcases Nat.lt_or_ge j i with h9 | h9
   ·exact hok j z h9 hz
   ·have:j=i:=by omega
    subst this
    rw [hy] at hz;cases hz
    exact c1
 ·have h:i=xs.length:=by have:=of_decide_eq_false h;omega
  subst h
  refine .inr (.inr (.inr ⟨[],[2000],[_],[],_,M1,rfl,trivial,rfl,trivial,?_⟩))
  rintro x U ⟨hx,rfl⟩
  refine ⟨rfl,?_⟩
  have C1:=check_ownr (E:=(envC Tryz.prog tt Tryz.f42.ntmps w X (tiedK [] β)).toEnv) rfl (x:=x) (xs:=xs.map mkOf) (n:=xs.length) (by simp)
  refine .inr (.inr (.inl ⟨[],[_],[_],_,[_],C1,rfl,⟨.inl rfl,trivial⟩,rfl,rfl,?_⟩))
  have e1:chkA xs=chkE (xs.map mkOf):=chkA_good fun j y hy=>hok j y (List.getElem?_eq_some_iff.1 hy).1 hy
  exact ⟨[],[],⟨by rw [e1];rfl,rfl⟩,trivial,rfl⟩
end Go.Proofs.YtnfmpddhcjkjbaaGreatDoor
namespace Go.Proofs.YtnfmpddhcjkjbaaGreatDoor
open Go Go.RowKit Go.SX
theorem info_act:∃ q,Tryz.prog.info? 29=some q∧q.bytes=376:=info_of (by kernel_rfl)
def visN (xs:List AC) (k:Int):List Nat:=visI (xs.map mkOf) k
def visA (xs:List AC) (k:Int):List AC:=if chkA xs=0 then (visN xs k).filterMap (fun i=>xs[i]?) else []
def VisAQ (xs:List AC) (k:Int) (x:Value) (U:MemL):Prop:=∃ s n,n=(visA xs k).length∧x=.tuple #[s,.int .i64 (chkA xs)]∧IsL s n∧U=[(3000,Blk.own s 29 76 n (cat AC.A (visA xs k)))]
theorem visN_mem {xs:List AC} {k:Int} {i:Nat} (h:i∈visN xs k):i < xs.length:=by
 unfold visN visI at h
 rw [List.mem_filter,List.mem_range,List.length_map] at h
 exact h.1
theorem visN_len (xs:List AC) (k:Int):(visN xs k).length≤xs.length:=by
 unfold visN visI
 have:=List.length_filter_le (visB (xs.map mkOf) k) (List.range (xs.map mkOf).length)
 simpa using this
theorem chkA_zero {xs:List AC} (h:chkA xs=0):chkE (xs.map mkOf)=0∧xs.length≤4096:=by
 unfold chkA at h
 split at h
 ·refine ⟨h,?_⟩
  unfold chkE at h
  split at h
  ·simp at h
  ·rename_i h2;simpa using h2
 ·simp at h
theorem take_fm {xs:List AC} {l:List Nat} {j i:Nat} {y:AC} (h:l[j]? = some i) (hy:xs[i]? = some y):(l.take (j+1)).filterMap (fun i=>xs[i]?)=(l.take j).filterMap (fun i=>xs[i]?)++[y]:=by
 rw [List.take_add_one,h,List.filterMap_append]
 simp [hy]
theorem fm_len {xs:List AC}:∀ {l:List Nat},(∀ i∈l,i < xs.length)→(l.filterMap (fun i=>xs[i]?)).length=l.length
 | [],_=>rfl
 | i :: r,h=>by
  rw [List.filterMap_cons,List.getElem?_eq_getElem (h i (by simp))]
  simp [fm_len (l:=r) fun j hj=>h j (by simp [hj])]
theorem fill_act1 (a:AC):Instr.fill (fun k=>some (k*ti29.size,ti29.size)) (madeCells ti29.zero (1*ti29.size)) [(0,.agg a.A)]=some a.A:=by kernel_rfl
theorem AC.ext76 (a:AC):a.A.extract 0 (0+1*76)=a.A:=by
 have:a.A.size=76:=a.size
 simp [this]
theorem ints_at8 {l:List Nat} {j i:Nat} (h:l[j]? = some i):(ints (l.map fun i:Nat=>(i:Int)))[j]? = some (.int .i64 ((i:Nat):Int)):=by
 simp [ints,h]
theorem off18 (j:Nat):offAt 0 ((j:Nat):Int) ti3.size=j:=by
 show offAt 0 ((j:Nat):Int) 1=j
 simp [offAt]
theorem vis_za {E:Env} (hE:E.P=Tryz.prog) {v:Value} {k:Int} {xs:List AC} (hv:Lst E v 76 xs.length (cat AC.A xs)) (hn:xs.length≤1000000000000) (hin:∀ y∈xs,y.In):OwnC E 39 [SV.c v,SV.c (.int .i64 k)] [] (VisAQ xs k):=by
 refine sx_ownC [] tt_ok mixed at39 E hE [SV.c v,SV.c (.int .i64 k)] [] _ rfl rfl fun w X β hT=>?_
 have hv':=hv.of_old hT
 have C1:=check_za rfl hv' hn hin
 have M1:=marks_z rfl hv' hn
 refine .inr (.inr (.inl ⟨[],[_],[],_,[],C1,rfl,trivial,rfl,rfl,fun h=>?_,fun h=>?_⟩))
 ·have h:(chkA xs != 0)=true:=h
  have h:chkA xs≠0:=by simpa using h
  have e1:visA xs k=[]:=by rw [visA,if_neg h]
  exact ⟨[(3000,Blk.own (.slice none 0 0) 29 76 0 #[])],[],⟨_,0,by rw [e1];rfl,rfl,.nil,by rw [e1];rfl⟩,⟨.inr ⟨rfl,rfl,rfl⟩,trivial⟩,rfl⟩
 have h:(chkA xs != 0)=false:=h
 have h0:chkA xs=0:=by simpa using h
 obtain ⟨h1,h4k⟩:=chkA_zero h0
 have e1:visL (xs.map mkOf) k=(visN xs k).map (fun i:Nat=>(i:Int)):=by rw [visL,if_pos h1];rfl
 have e2:visA xs k=(visN xs k).filterMap (fun i=>xs[i]?):=by rw [visA,if_pos h0]
 have hmem:∀ i∈visN xs k,i < xs.length:=fun i h=>visN_mem h
 have hlen:=visN_len xs k
 generalize visN xs k=l at e1 e2 hmem hlen
 refine .inr (.inr (.inr ⟨[],[2000],[_],[],_,M1,rfl,trivial,rfl,trivial,?_⟩))
 rintro x U ⟨hx,rfl⟩
 refine ⟨rfl,?_⟩
 have C2:=vis_own (E:=(envC Tryz.prog tt Tryz.f39.ntmps w X (tiedK [] β)).toEnv) rfl (x:=x) (xs:=xs.map mkOf) (n:=xs.length) (k:=k) (by simp) hn
 refine .inr (.inr (.inr ⟨[],[1000],[_,_],[_],_,C2,rfl,⟨.inl rfl,trivial⟩,rfl,trivial,?_⟩))
 rintro r U ⟨U0,⟨s,n,hsn,rfl,hs,rfl⟩,rfl⟩
 rw [e1] at hsn ⊢
 rw [h1]
 refine ⟨rfl,?_⟩
 obtain ⟨sa,sc,rfl⟩:=hs.len
 refine ⟨_,fun w' _=>run_len_sl Tryz.underlying39 w',?_⟩
 have hnl:n=l.length:=by rw [hsn,List.length_map]
 obtain ⟨a,cap,rfl,hc,h4⟩:=hv'.shape
 refine ⟨fun q f m=>∃ (j:Nat) (y:Value) (N:Nat),q=l.length - j∧j≤l.length∧N=j∧IsL y N∧f=[(0,SV.c (.slice a xs.length cap)),(8,SV.c (.int .i64 0)),(9,SV.c y),(24,SV.c (.slice sa n sc)),(25,SV.c (.int .i64 (n:Nat))),(26,SV.c (.int .i64 (j:Nat)))]∧m=[(3000,Blk.own y 29 76 N (cat AC.A ((l.take j).filterMap (fun i=>xs[i]?)))),(1000,Blk.own (.slice sa n sc) 3 1 n (ints (l.map fun i:Nat=>(i:Int))))],l.length,⟨_,_,⟨0,.slice none 0 0,0,by omega,by omega,rfl,.nil,rfl,rfl⟩,⟨rfl,rfl,rfl,rfl,rfl,rfl,trivial⟩,⟨.inr ⟨rfl,rfl,rfl⟩,.inl rfl,trivial⟩,rfl⟩,?_⟩
 rintro q f m ⟨j,y,N,rfl,hj,hN,hy,rfl,rfl⟩
 refine ⟨fun h=>?_,fun h=>?_⟩
 ·have h:j < n:=by have:=of_decide_eq_true h;omega
  obtain ⟨i,hi⟩:∃ i,l[j]? = some i:=⟨_,List.getElem?_eq_getElem (show j < l.length by omega)⟩
  have hil:=hmem i (List.mem_of_getElem? hi)
  obtain ⟨z,hz⟩:∃ z,xs[i]? = some z:=⟨_,List.getElem?_eq_getElem hil⟩
  obtain ⟨b,o,rfl,h5⟩:=h4 (by omega)
  have hE':VOk (envC Tryz.prog tt Tryz.f39.ntmps w X (tiedK [] β)):=tt_ok
  have L1:=lst_elem hE' h5 AC.size hz (ty:=29) (ti:=ti29) rfl rfl rfl (p:=o+((i:Nat):Int).toNat*76) rfl
  rcases hs with ⟨hs1,hs2⟩ | ⟨g0,c0,hs1⟩
  ·omega
  cases hs1
  refine ⟨by omega,by omega,.inr ⟨1000,g0,_,n,_,_,_,_,rfl,rfl,_,(by rw [off18];exact ints_at8 hi),?_⟩⟩
  have F1:=fill_act1 z
  have F2:=z.fits.one
  have F3:=z.ext76
  have F4:z.A.size=1*76:=z.size
  have F5:cat AC.A ((l.take j).filterMap (fun i=>xs[i]?))++z.A=cat AC.A ((l.take (j+1)).filterMap (fun i=>xs[i]?)):=by rw [take_fm hi hz,cat_append,cat_one]
  generalize hY:z.A=ZA at L1 F1 F2 F3 F4 F5
  refine ⟨by omega,by omega,.inl ⟨_,L1,.inl ⟨by decide,by decide,_,F1,F4,by decide,3000,N,_,.inl rfl,by decide,F2,F4,_,F3,?_⟩⟩⟩
  obtain ⟨q,hq,hb⟩:=info_act
  refine ⟨by omega,by unfold maxLen;omega,⟨q,hq,by rw [hb];omega⟩,trivial,fun g2 cap2=>?_⟩
  exact ⟨l.length - (j+1),_,_,by omega,⟨j+1,_,N+1,rfl,by omega,by omega,.some,rfl,rfl⟩,⟨rfl,rfl,rfl,rfl,rfl,c_int (i64_succ (by omega)),trivial⟩,⟨.inl (own_eq F5),.inl rfl,trivial⟩,rfl⟩
 ·have h:j=l.length:=by have:=of_decide_eq_false h;omega
  subst h
  rw [List.take_length]
  have e3:=fm_len hmem
  exact ⟨[(3000,Blk.own y 29 76 N (cat AC.A (l.filterMap (fun i=>xs[i]?))))],[],⟨y,N,by rw [e2,e3];exact hN,by rw [h0];rfl,hy,by rw [e2]⟩,⟨.inl rfl,trivial⟩,rfl⟩
end Go.Proofs.YtnfmpddhcjkjbaaGreatDoor
namespace Go.Proofs.YtnfmpddhcjkjbaaGreatDoor
open Go Go.RowKit Go.SX
theorem vis_zra {E:Env} (hE:E.P=Tryz.prog) {v:Value} {k:Int} {xs:List AC} (hv:Lst E v 76 xs.length (cat AC.A xs)) (hn:xs.length≤1000000000000) (hin:∀ y∈xs,y.In):OwnC E 40 [SV.c v,SV.c (.int .i64 k)] [] (VisAQ xs k):=by
 refine sx_ownC [] tt_ok mixed at40 E hE [SV.c v,SV.c (.int .i64 k)] [] _ rfl rfl fun w X β hT=>?_
 have hv':=hv.of_old hT
 have C1:=check_zra rfl hv' hn hin
 have M1:=marks_zr rfl hv' hn
 refine .inr (.inr (.inl ⟨[],[_],[],_,[],C1,rfl,trivial,rfl,rfl,fun h=>?_,fun h=>?_⟩))
 ·have h:(chkA xs != 0)=true:=h
  have h:chkA xs≠0:=by simpa using h
  have e1:visA xs k=[]:=by rw [visA,if_neg h]
  exact ⟨[(3000,Blk.own (.slice none 0 0) 29 76 0 #[])],[],⟨_,0,by rw [e1];rfl,rfl,.nil,by rw [e1];rfl⟩,⟨.inr ⟨rfl,rfl,rfl⟩,trivial⟩,rfl⟩
 have h:(chkA xs != 0)=false:=h
 have h0:chkA xs=0:=by simpa using h
 obtain ⟨h1,h4k⟩:=chkA_zero h0
 have e1:visL (xs.map mkOf) k=(visN xs k).map (fun i:Nat=>(i:Int)):=by rw [visL,if_pos h1];rfl
 have e2:visA xs k=(visN xs k).filterMap (fun i=>xs[i]?):=by rw [visA,if_pos h0]
 have hmem:∀ i∈visN xs k,i < xs.length:=fun i h=>visN_mem h
 have hlen:=visN_len xs k
 generalize visN xs k=l at e1 e2 hmem hlen
 refine .inr (.inr (.inr ⟨[],[2000],[_],[],_,M1,rfl,trivial,rfl,trivial,?_⟩))
 rintro x U ⟨hx,rfl⟩
 refine ⟨rfl,?_⟩
 have C2:=vis_ownr (E:=(envC Tryz.prog tt Tryz.f40.ntmps w X (tiedK [] β)).toEnv) rfl (x:=x) (xs:=xs.map mkOf) (n:=xs.length) (k:=k) (by simp) hn
 refine .inr (.inr (.inr ⟨[],[1000],[_,_],[_],_,C2,rfl,⟨.inl rfl,trivial⟩,rfl,trivial,?_⟩))
 rintro r U ⟨U0,⟨s,n,hsn,rfl,hs,rfl⟩,rfl⟩
 rw [e1] at hsn ⊢
 rw [h1]
 refine ⟨rfl,?_⟩
 obtain ⟨sa,sc,rfl⟩:=hs.len
 have hnl:n=l.length:=by rw [hsn,List.length_map]
 obtain ⟨a,cap,rfl,hc,h4⟩:=hv'.shape
 refine ⟨fun q f m=>∃ (j:Nat) (y:Value) (N:Nat),q=l.length - j∧j≤l.length∧N=j∧IsL y N∧f=[(0,SV.c (.slice a xs.length cap)),(7,SV.c (.slice sa n sc)),(9,SV.c y),(10,SV.c (.int .i64 (j:Nat)))]∧m=[(3000,Blk.own y 29 76 N (cat AC.A ((l.take j).filterMap (fun i=>xs[i]?)))),(1000,Blk.own (.slice sa n sc) 3 1 n (ints (l.map fun i:Nat=>(i:Int))))],l.length,⟨_,_,⟨0,.slice none 0 0,0,by omega,by omega,rfl,.nil,rfl,rfl⟩,⟨rfl,rfl,rfl,rfl,trivial⟩,⟨.inr ⟨rfl,rfl,rfl⟩,.inl rfl,trivial⟩,rfl⟩,?_⟩
 rintro q f m ⟨j,y,N,rfl,hj,hN,hy,rfl,rfl⟩
 refine ⟨_,fun w' _=>run_len_sl Tryz.underlying39 w',fun h=>?_,fun h=>?_⟩
 ·have h:j < n:=by have:=of_decide_eq_true h;omega
  obtain ⟨i,hi⟩:∃ i,l[j]? = some i:=⟨_,List.getElem?_eq_getElem (show j < l.length by omega)⟩
  have hil:=hmem i (List.mem_of_getElem? hi)
  obtain ⟨z,hz⟩:∃ z,xs[i]? = some z:=⟨_,List.getElem?_eq_getElem hil⟩
  obtain ⟨b,o,rfl,h5⟩:=h4 (by omega)
  have hE':VOk (envC Tryz.prog tt Tryz.f40.ntmps w X (tiedK [] β)):=tt_ok
  have L1:=lst_elem hE' h5 AC.size hz (ty:=29) (ti:=ti29) rfl rfl rfl (p:=o+((i:Nat):Int).toNat*76) rfl
  rcases hs with ⟨hs1,hs2⟩ | ⟨g0,c0,hs1⟩
  ·omega
  cases hs1
  refine ⟨by omega,by omega,.inr ⟨1000,g0,_,n,_,_,_,_,rfl,rfl,_,(by rw [off18];exact ints_at8 hi),?_⟩⟩
  have F1:=fill_act1 z
  have F2:=z.fits.one
  have F3:=z.ext76
  have F4:z.A.size=1*76:=z.size
  have F5:cat AC.A ((l.take j).filterMap (fun i=>xs[i]?))++z.A=cat AC.A ((l.take (j+1)).filterMap (fun i=>xs[i]?)):=by rw [take_fm hi hz,cat_append,cat_one]
  generalize hY:z.A=ZA at L1 F1 F2 F3 F4 F5
  refine ⟨by omega,by omega,.inl ⟨_,L1,.inl ⟨by decide,by decide,_,F1,F4,by decide,3000,N,_,.inl rfl,by decide,F2,F4,_,F3,?_⟩⟩⟩
  obtain ⟨q,hq,hb⟩:=info_act
  refine ⟨by omega,by unfold maxLen;omega,⟨q,hq,by rw [hb];omega⟩,trivial,fun g2 cap2=>?_⟩
  exact ⟨l.length - (j+1),_,_,by omega,⟨j+1,_,N+1,rfl,by omega,by omega,.some,rfl,rfl⟩,⟨rfl,rfl,rfl,c_int (i64_succ (by omega)),trivial⟩,⟨.inl (own_eq F5),.inl rfl,trivial⟩,rfl⟩
 ·have h:j=l.length:=by have:=of_decide_eq_false h;omega
  subst h
  rw [List.take_length]
  have e3:=fm_len hmem
  exact ⟨[(3000,Blk.own y 29 76 N (cat AC.A (l.filterMap (fun i=>xs[i]?))))],[],⟨y,N,by rw [e2,e3];exact hN,by rw [h0];rfl,hy,by rw [e2]⟩,⟨.inl rfl,trivial⟩,rfl⟩
end Go.Proofs.YtnfmpddhcjkjbaaGreatDoor
namespace Go.Proofs.YtnfmpddhcjkjbaaGreatDoor
open Go Go.RowKit Go.SX
theorem AC.beq_self (a:AC):a.beq a=true:=by simp [AC.beq,RQ.beq_self]
theorem neqs_action {E:Env} (hE:E.P=Tryz.prog) {a:AC} (ha:a.cash.In) {u v:Operand}:Runs E (do eqGuard .neq 29 u v (.agg a.A) (.agg a.A);binOp .neq 29 (.agg a.A) (.agg a.A)) (.bool false):=by
 have:=neq_action hE ha ha (u:=u) (v:=v)
 rwa [AC.beq_self] at this
theorem same_z {E:Env} (hE:E.P=Tryz.prog) {v v':Value} {xs:List AC} (hv:Lst E v 76 xs.length (cat AC.A xs)) (hv':Lst E v' 76 xs.length (cat AC.A xs)) (hn:xs.length≤1000000000000) (hin:∀ y∈xs,y.In):OwnC E 43 [SV.c v,SV.c v'] [] (fun x U=>x=.bool true∧U=[]):=by
 refine sx_ownC [] tt_ok mixed at43 E hE [SV.c v,SV.c v'] [] _ rfl rfl fun w X β hT=>?_
 obtain ⟨a,cap,rfl,hc,h4⟩:=(hv.of_old hT).shape
 obtain ⟨a',cap',rfl,hc',h4'⟩:=(hv'.of_old hT).shape
 refine ⟨_,fun w' _=>run_len_sl Tryz.underlying66 w',_,fun w' _=>run_len_sl Tryz.underlying66 w',fun h=>?_,fun _=>?_⟩
 ·have h:(((xs.length:Nat):Int) != ((xs.length:Nat):Int))=true:=h
  simp at h
 refine ⟨fun q f m=>∃ (i:Nat),q=xs.length - i∧i≤xs.length∧f=[(0,SV.c (.slice a xs.length cap)),(1,SV.c (.slice a' xs.length cap')),(5,SV.c (.int .i64 (i:Nat)))]∧m=[],xs.length,⟨_,_,⟨0,by omega,by omega,rfl,rfl⟩,⟨rfl,rfl,rfl,trivial⟩,trivial,rfl⟩,?_⟩
 rintro q f m ⟨i,rfl,hi,rfl,rfl⟩
 refine ⟨_,fun w' _=>run_len_sl Tryz.underlying66 w',fun h=>?_,fun h=>?_⟩
 ·have h:i < xs.length:=by have:=of_decide_eq_true h;omega
  obtain ⟨b,o,rfl,h5⟩:=h4 (by omega)
  obtain ⟨b',o',rfl,h5'⟩:=h4' (by omega)
  obtain ⟨y,hy⟩:∃ y,xs[i]? = some y:=⟨_,List.getElem?_eq_getElem h⟩
  have hE':VOk (envC Tryz.prog tt Tryz.f43.ntmps w X (tiedK [] β)):=tt_ok
  have L1:=lst_elem hE' h5 AC.size hy (ty:=29) (ti:=ti29) rfl rfl rfl (p:=o+(i:Int).toNat*76) rfl
  have L2:=lst_elem hE' h5' AC.size hy (ty:=29) (ti:=ti29) rfl rfl rfl (p:=o'+(i:Int).toNat*76) rfl
  have N1:=fun u v=>neqs_action (E:=(envC Tryz.prog tt Tryz.f43.ntmps w X (tiedK [] β)).toEnv) rfl (hin y (List.mem_of_getElem? hy)).cash (u:=u) (v:=v)
  generalize hY:y.A=YA at L1 L2 N1
  refine ⟨by omega,by omega,.inl ⟨_,L1,by omega,by omega,.inl ⟨_,L2,_,N1 _ _,?_⟩⟩⟩
  exact ⟨by kernel_rfl,fun h=>absurd h (by decide),fun _=>⟨xs.length - (i+1),_,_,by omega,⟨i+1,rfl,by omega,rfl,rfl⟩,⟨rfl,rfl,c_int (i64_succ (by omega)),trivial⟩,trivial,rfl⟩⟩
 ·have h:i=xs.length:=by have:=of_decide_eq_false h;omega
  subst h
  exact ⟨[],[],⟨rfl,rfl⟩,trivial,rfl⟩
theorem AC.all1 (a:AC):a.A.all (·.oneCell')=true:=a.fits.one
theorem same_own8 {E:Env} (hE:E.P=Tryz.prog) {x y:Value} {xs:List AC} {n:Nat} (hn:n=xs.length) (hb:n≤1000000000000) (hin:∀ y∈xs,y.In):OwnC E 43 [SV.c x,SV.c y] [(4000,Blk.own x 29 76 n (cat AC.A xs)),(4001,Blk.own y 29 76 n (cat AC.A xs))] (fun r U=>r=.bool true∧U=[(4000,Blk.own x 29 76 n (cat AC.A xs)),(4001,Blk.own y 29 76 n (cat AC.A xs))]):=by
 subst hn
 have h2:∀ E0:Env,E0.P=E.P→(∀ w,OldW E0 w→OldW E w)→Lst E0 x 76 xs.length (cat AC.A xs)→OwnC E0 43 [SV.c x,SV.c y] [(4001,Blk.own y 29 76 xs.length (cat AC.A xs))] (fun r U=>r=.bool true∧U=[(4001,Blk.own y 29 76 xs.length (cat AC.A xs))]):=fun E0 h0 ho hl=>by
  refine (OwnC.with_own2 (k:=4001) (v:=y) (e:=29) (sz:=76) (n:=xs.length) (A:=cat AC.A xs) (pre:=[]) (Q:=fun r U=>r=.bool true∧U=[]) rfl rfl (cat_all AC.all1 xs) (by rw [h0,hE];exact at43.enters) (fun E1 h1 ho1 hl1=>same_z ((h1.trans h0).trans hE) (hl.of_old ho1) hl1 hb hin) (fun x U h=>by rw [h.2];rfl)).mono ?_
  rintro y U ⟨U0,⟨h1,h2⟩,h3⟩
  exact ⟨h1,by rw [h3,h2]⟩
 refine (OwnC.with_own2 (k:=4000) (v:=x) (e:=29) (sz:=76) (n:=xs.length) (A:=cat AC.A xs) rfl rfl (cat_all AC.all1 xs) (by rw [hE];exact at43.enters) h2 (fun x U h=>by rw [h.2];rfl)).mono ?_
 rintro y U ⟨U0,⟨h1,h2⟩,h3⟩
 exact ⟨h1,by rw [h3,h2]⟩
end Go.Proofs.YtnfmpddhcjkjbaaGreatDoor
namespace Go.Proofs.YtnfmpddhcjkjbaaGreatDoor
open Go Go.RowKit Go.SX
theorem books_z {E:Env} (hE:E.P=Tryz.prog) {v:Value} {k:Int} {xs:List AC} (hv:Lst E v 76 xs.length (cat AC.A xs)) (hn:xs.length≤1000000000000) (hin:∀ y∈xs,y.In):OwnC E 9 [SV.c v,SV.c (.int .i64 k)] [] (fun x U=>x=.bool true∧U=[]):=by
 refine sx_ownC [] tt_ok mixed at9 E hE [SV.c v,SV.c (.int .i64 k)] [] _ rfl rfl fun w X β hT=>?_
 have hv':=hv.of_old hT
 have V1:=vis_za (k:=k) rfl hv' hn hin
 have V2:=vis_zra (k:=k) rfl hv' hn hin
 have C1:=check_za rfl hv' hn hin
 have C2:=check_zra rfl hv' hn hin
 have hin2:∀ y∈visA xs k,y.In:=fun y hy=>by
  unfold visA at hy
  split at hy
  ·rw [List.mem_filterMap] at hy
   obtain ⟨i,-,hi⟩:=hy
   exact hin y (List.mem_of_getElem? hi)
  ·simp at hy
 have hlen:(visA xs k).length≤1000000000000:=by
  unfold visA
  split
  ·exact Nat.le_trans (List.length_filterMap_le _ _) (Nat.le_trans (visN_len xs k) hn)
  ·simp
 refine .inr (.inr (.inr ⟨[],[3000],[_,_],[],_,V1,rfl,trivial,rfl,trivial,?_⟩))
 rintro r1 U1 ⟨s1,n1,hn1,rfl,hs1,rfl⟩
 refine ⟨rfl,?_⟩
 refine .inr (.inr (.inr ⟨[(3000,3001)],[3001],[_,_],[],_,V2,rfl,trivial,rfl,trivial,?_⟩))
 rintro r2 U2 ⟨s2,n2,hn2,rfl,hs2,rfl⟩
 refine ⟨rfl,?_⟩
 have hnn:n2=n1:=hn2.trans hn1.symm
 subst hnn
 have S1:=same_own8 (E:=(envC Tryz.prog tt Tryz.f9.ntmps w X (tiedK [] β)).toEnv) rfl (x:=s1) (y:=s2) (xs:=visA xs k) (n:=n2) hn2 (by omega) hin2
 generalize visA xs k=l at *
 refine .inl ⟨_,known_f,fun _=>?_,fun h=>absurd h (by decide)⟩
 refine .inr (.inr (.inl ⟨[],[_],[],_,[],C1,rfl,trivial,rfl,rfl,?_⟩))
 refine .inr (.inr (.inl ⟨[],[_],[],_,[],C2,rfl,trivial,rfl,rfl,?_⟩))
 generalize chkA xs=c
 have hcc:(c == c)=true:=by simp
 refine ⟨fun _=>?_,fun h=>absurd (hcc.symm.trans h) (by decide)⟩
 refine .inr (.inr (.inl ⟨[(4000,3000),(4001,3001)],[_,_],[_,_],_,[_,_],S1,rfl,⟨.inl rfl,.inl rfl,trivial⟩,rfl,rfl,?_⟩))
 refine ⟨fun _=>?_,fun h=>absurd h (by decide)⟩
 exact ⟨[],[],⟨by show mkRes [.bool (c == c)]=_;rw [hcc];rfl,rfl⟩,trivial,rfl⟩
theorem ownC_at8 {f:FuncId} {vs:List Value} {Q:Value→MemL→Prop} (w:World) (h:OwnC (E:={ P:=Tryz.prog,n:=0,w0:=w,X:=[],pk:=[] }) f (vs.map SV.c) [] Q):Calls Tryz.prog f vs.toArray w fun e w'=>∃ x U,e=.returned x∧Q x U∧Below w.heap.size w w':=by
 have hx':rels (fun _=>none) (vs.map SV.c) vs:=by
  clear h
  induction vs with
  | nil=>trivial
  | cons s vs ih=>exact ⟨rfl,ih⟩
 refine (h.2 (fun _=>none) w vs ⟨rfl,rfl,rfl,Nat.le_refl _,fun _ _ _=>rfl,fun d B hd=>by simp [getM] at hd,fun _ _=>rfl,fun d B hd=>by simp [getM] at hd,fun d B b hd=>by simp [getM] at hd,fun d e k hd=>(by cases hd),fun d k B hp=>by simp [Env.np] at hp⟩ hx').mono ?_
 rintro e w' ⟨x,U,h1,h2,h3,-⟩
 exact ⟨x,U,h1,h2,h3.os,h3.tape,h3.output,h3.size,fun k hk=>h3.old k hk (by simp [Env.np])⟩
end Go.Proofs.YtnfmpddhcjkjbaaGreatDoor
