/- books of entries: marks, Check, Visible. books of entries, the reference: valid, marks, Check, Visible. the ledger: the portfolio. the reference: Held, before, put.; no condition. -/
import Derived.Test.YtkaakbpeegpnkaaGreatDoorP27
set_option maxRecDepth 100000
set_option maxHeartbeats 4000000
namespace Go.Proofs.YtkaakbpeegpnkaaGreatDoor
open Go Go.RowKit Go.SX
theorem check1_e {a:EC} (ha:a.In):Pure Tryz.prog 41 [SV.c (.agg a.A)] (.bool (!validE a)):=by
 refine sx_pure tt_ok mixed at41 _ _ rfl rfl fun w=>?_
 exact ⟨rfl,.inl ⟨_,valid_e ha,rfl,trivial⟩⟩
theorem all_bad' {xs:List EC} {i:Nat} {y:EC} (hy:xs[i]? = some y) (h:validE y=false):xs.all validE=false:=by
 rw [List.all_eq_false]
 exact ⟨y,List.mem_of_getElem? hy,by rw [h];simp⟩
theorem all_good' {xs:List EC} (h:∀ (j:Nat) y,xs[j]? = some y→validE y=true):xs.all validE=true:=by
 rw [List.all_eq_true]
 intro x hx
 obtain ⟨j,hj⟩:=List.getElem?_of_mem hx
 exact h j x hj
theorem indexF_e {E:Env} (hE:E.P=Tryz.prog) {v:Value} {xs:List EC} (hv:Lst E v 10 xs.length (cat EC.A xs)) (hn:xs.length≤2000000000000) (hin:∀ y∈xs,y.In):OwnC E 77 [SV.c v,SV.c (fnW 41)] [] (fun r U=>(∃ n:Int,r=.int .i64 n∧decide (n ≥ 0)=!(xs.all validE))∧U=[]):=by
 refine sx_ownC [] tt_ok mixed at77 E hE [SV.c v,SV.c (fnW 41)] [] _ rfl rfl fun w X β hT=>?_
 obtain ⟨a,cap,rfl,hc,h4⟩:=(hv.of_old hT).shape
 refine ⟨_,fun w' _=>run_len_sl Tryz.underlying22 w',?_⟩
 refine ⟨fun q f m=>∃ (i:Nat),q=xs.length - i∧i≤xs.length∧(∀ (j:Nat) y,j < i→xs[j]? = some y→validE y=true)∧f=[(0,SV.c (.slice a xs.length cap)),(1,SV.c (fnW 41)),(6,SV.c (.slice a xs.length cap)),(7,SV.c (.int .i64 (xs.length:Nat))),(8,SV.c (.int .i64 (i:Nat)))]∧m=[],xs.length,⟨_,_,⟨0,rfl,by omega,fun j y h=>by omega,rfl,rfl⟩,⟨rfl,rfl,rfl,rfl,rfl,trivial⟩,trivial,rfl⟩,?_⟩
 rintro q f m ⟨i,rfl,hi,hok,rfl,rfl⟩
 refine ⟨fun h=>?_,fun h=>?_⟩
 ·have h:i < xs.length:=by have:=of_decide_eq_true h;omega
  obtain ⟨b,o,rfl,h5⟩:=h4 (by omega)
  obtain ⟨y,hy⟩:∃ y,xs[i]? = some y:=⟨_,List.getElem?_eq_getElem h⟩
  have hE':VOk (envC Tryz.prog tt Tryz.f77.ntmps w X (tiedK [] β)):=tt_ok
  have L1:=lst_elem hE' h5 EC.size hy (ty:=47) (ti:=ti47) rfl rfl rfl (p:=o+(i:Int).toNat*10) rfl
  have K1:=check1_e (hin y (List.mem_of_getElem? hy))
  generalize hY:y.A=YA at L1 K1
  refine ⟨by omega,by omega,.inl ⟨_,L1,.inl ⟨_,K1,fun c=>?_,fun c=>?_⟩⟩⟩
  ·have c:(!validE y)=true:=c
   have hb:=all_bad' hy (by simpa using c)
   exact ⟨[],[],⟨⟨(i:Nat),rfl,by rw [hb];simp⟩,rfl⟩,trivial,rfl⟩
  ·have c:(!validE y)=false:=c
   have c:validE y=true:=by simpa using c
   refine ⟨xs.length - (i+1),_,_,by omega,⟨i+1,rfl,by omega,fun j z hj hz=>?_,rfl,rfl⟩,⟨rfl,rfl,rfl,rfl,c_int (i64_succ (by omega)),trivial⟩,trivial,rfl⟩
   rcases Nat.lt_or_ge j i with h9 | h9
   ·exact hok j z h9 hz
   ·have:j=i:=by omega
    subst this
    rw [hy] at hz;cases hz
    exact c
 ·have h:i=xs.length:=by have:=of_decide_eq_false h;omega
  subst h
  have hg:=all_good' fun j y hy=>hok j y (List.getElem?_eq_some_iff.1 hy).1 hy
  exact ⟨[],[],⟨⟨-1,rfl,by rw [hg];rfl⟩,rfl⟩,trivial,rfl⟩
theorem containsF_e {E:Env} (hE:E.P=Tryz.prog) {v:Value} {xs:List EC} (hv:Lst E v 10 xs.length (cat EC.A xs)) (hn:xs.length≤2000000000000) (hin:∀ y∈xs,y.In):OwnC E 40 [SV.c v,SV.c (fnW 41)] [] (fun r U=>r=.bool (!(xs.all validE))∧U=[]):=by
 refine sx_ownC [] tt_ok mixed at40 E hE [SV.c v,SV.c (fnW 41)] [] _ rfl rfl fun w X β hT=>?_
 have I1:=indexF_e rfl (hv.of_old hT) hn hin
 refine .inr (.inr (.inr ⟨[],[],[_,_],[],_,I1,rfl,trivial,rfl,trivial,?_⟩))
 rintro r U ⟨⟨n,rfl,h1⟩,rfl⟩
 exact ⟨rfl,[],[],⟨by rw [← h1];rfl,rfl⟩,trivial,rfl⟩
def mkE (a:EC):MK:=⟨a.key,a.known,a.void⟩
theorem marks_e {E:Env} (hE:E.P=Tryz.prog) {v:Value} {xs:List EC} (hv:Lst E v 10 xs.length (cat EC.A xs)) (hn:xs.length≤2000000000000):OwnC E 19 [SV.c v] [] (OwnL 2000 103 3 xs.length (cat MK.A (xs.map mkE))):=by
 refine sx_ownC [] tt_ok mixed at19 E hE [SV.c v] [] _ rfl rfl fun w X β hT=>?_
 obtain ⟨a,cap,rfl,hc,h4⟩:=(hv.of_old hT).shape
 refine ⟨_,fun w' _=>run_len_sl Tryz.underlying22 w',?_⟩
 refine ⟨fun q f m=>∃ (i:Nat) (x:Value),q=xs.length - i∧i≤xs.length∧IsL x i∧f=[(3,SV.c x),(6,SV.c (.slice a xs.length cap)),(7,SV.c (.int .i64 (xs.length:Nat))),(8,SV.c (.int .i64 (i:Nat)))]∧m=[(2000,Blk.own x 103 3 i (cat MK.A ((xs.take i).map mkE)))],xs.length,⟨_,_,⟨0,.slice none 0 0,by omega,by omega,.nil,rfl,rfl⟩,⟨rfl,rfl,rfl,rfl,trivial⟩,⟨.inr ⟨rfl,rfl,rfl⟩,trivial⟩,rfl⟩,?_⟩
 rintro q f m ⟨i,x,rfl,hi,hx,rfl,rfl⟩
 refine ⟨fun h=>?_,fun h=>?_⟩
 ·have h:i < xs.length:=by have:=of_decide_eq_true h;omega
  obtain ⟨b,o,rfl,h5⟩:=h4 (by omega)
  obtain ⟨y,hy⟩:∃ y,xs[i]? = some y:=⟨_,List.getElem?_eq_getElem h⟩
  have hE':VOk (envC Tryz.prog tt Tryz.f19.ntmps w X (tiedK [] β)):=tt_ok
  have L1:=lst_elem hE' h5 EC.size hy (ty:=47) (ti:=ti47) rfl rfl rfl (p:=o+(i:Int).toNat*10) rfl
  refine ⟨by omega,by omega,.inl ⟨_,L1,y.fits,?_⟩⟩
  refine ⟨_,y.g1,_,y.g8,_,y.g9,_,fill_mark (mkE y) rfl,?_⟩
  refine .inl ⟨by decide,by decide,_,fill_mark1 (mkE y),rfl,by decide,2000,i,_,.inl rfl,by decide,(mkE y).one,rfl,_,(mkE y).ext3,?_⟩
  obtain ⟨q,hq,hb⟩:=info_mark
  refine ⟨by omega,by unfold maxLen;omega,⟨q,hq,by rw [hb];omega⟩,trivial,fun g2 cap2=>?_⟩
  exact ⟨xs.length - (i+1),_,_,by omega,⟨i+1,_,rfl,by omega,.some,rfl,rfl⟩,⟨rfl,rfl,rfl,c_int (i64_succ (by omega)),trivial⟩,⟨.inl (own_eq (cat_step mkE MK.A hy)),trivial⟩,rfl⟩
 ·have h:i=xs.length:=by have:=of_decide_eq_false h;omega
  subst h
  rw [List.take_length]
  exact ⟨[(2000,Blk.own x 103 3 xs.length (cat MK.A (xs.map mkE)))],[],⟨hx,rfl⟩,⟨.inl rfl,trivial⟩,rfl⟩

def chkX (xs:List EC):Int:=if xs.all validE then chkE (xs.map mkE) else 180
theorem info_ent:∃ q,Tryz.prog.info? 47=some q∧q.bytes=104:=info_of (by kernel_rfl)
def visNE (xs:List EC) (k:Int):List Nat:=visI (xs.map mkE) k
def visX (xs:List EC) (k:Int):List EC:=if chkX xs=0 then (visNE xs k).filterMap (fun i=>xs[i]?) else []
def VisXQ (xs:List EC) (k:Int) (x:Value) (U:MemL):Prop:=∃ s n,n=(visX xs k).length∧x=.tuple #[s,.int .i64 (chkX xs)]∧IsL s n∧U=[(3000,Blk.own s 47 10 n (cat EC.A (visX xs k)))]
theorem visNE_mem {xs:List EC} {k:Int} {i:Nat} (h:i∈visNE xs k):i < xs.length:=by
 unfold visNE visI at h
 rw [List.mem_filter,List.mem_range,List.length_map] at h
 exact h.1
theorem visNE_len (xs:List EC) (k:Int):(visNE xs k).length≤xs.length:=by
 unfold visNE visI
 have:=List.length_filter_le (visB (xs.map mkE) k) (List.range (xs.map mkE).length)
 simpa using this
theorem chkX_zero {xs:List EC} (h:chkX xs=0):chkE (xs.map mkE)=0∧xs.length≤4096:=by
 unfold chkX at h
 split at h
 ·refine ⟨h,?_⟩
  unfold chkE at h
  split at h
  ·simp at h
  ·rename_i h2;simpa using h2
 ·simp at h
theorem take_fmE {xs:List EC} {l:List Nat} {j i:Nat} {y:EC} (h:l[j]? = some i) (hy:xs[i]? = some y):(l.take (j+1)).filterMap (fun i=>xs[i]?)=(l.take j).filterMap (fun i=>xs[i]?)++[y]:=by
 rw [List.take_add_one,h,List.filterMap_append]
 simp [hy]
theorem fm_lenE {xs:List EC}:∀ {l:List Nat},(∀ i∈l,i < xs.length)→(l.filterMap (fun i=>xs[i]?)).length=l.length
 | [],_=>rfl
 | i :: r,h=>by
  rw [List.filterMap_cons,List.getElem?_eq_getElem (h i (by simp))]
  simp [fm_lenE (l:=r) fun j hj=>h j (by simp [hj])]
theorem fill_ent1 (a:EC):Instr.fill (fun k=>some (k*ti47.size,ti47.size)) (madeCells ti47.zero (1*ti47.size)) [(0,.agg a.A)]=some a.A:=by kernel_rfl
theorem EC.ext10 (a:EC):a.A.extract 0 (0+1*10)=a.A:=by
 have:a.A.size=10:=a.size
 simp [this]
theorem check_e8 {E:Env} (hE:E.P=Tryz.prog) {v:Value} {xs:List EC} (hv:Lst E v 10 xs.length (cat EC.A xs)) (hn:xs.length≤2000000000000) (hin:∀ y∈xs,y.In):OwnC E 10 [SV.c v] [] (fun x U=>x=.int .i64 (chkX xs)∧U=[]):=by
 refine sx_ownC [] tt_ok mixed at10 E hE [SV.c v] [] _ rfl rfl fun w X β hT=>?_
 have hv':=hv.of_old hT
 have C0:=containsF_e rfl hv' hn hin
 have M1:=marks_e rfl hv' hn
 refine .inr (.inr (.inl ⟨[],[_,_],[],_,[],C0,rfl,trivial,rfl,rfl,fun c=>?_,fun c=>?_⟩))
 ·have c:(!xs.all validE)=true:=c
  have c:xs.all validE=false:=by simpa using c
  exact ⟨[],[],⟨by unfold chkX;rw [c];rfl,rfl⟩,trivial,rfl⟩
 ·have c:(!xs.all validE)=false:=c
  have c:xs.all validE=true:=by simpa using c
  refine .inr (.inr (.inr ⟨[],[2000],[_],[],_,M1,rfl,trivial,rfl,trivial,?_⟩))
  rintro x U ⟨hx,rfl⟩
  refine ⟨rfl,?_⟩
  have C1:=check_own (E:=(envC Tryz.prog tt Tryz.f10.ntmps w X (tiedK [] β)).toEnv) rfl (x:=x) (xs:=xs.map mkE) (n:=xs.length) (by simp)
  refine .inr (.inr (.inl ⟨[],[_],[_],_,[_],C1,rfl,⟨.inl rfl,trivial⟩,rfl,rfl,?_⟩))
  exact ⟨[],[],⟨by unfold chkX;rw [c];rfl,rfl⟩,trivial,rfl⟩
theorem vis_e {E:Env} (hE:E.P=Tryz.prog) {v:Value} {k:Int} {xs:List EC} (hv:Lst E v 10 xs.length (cat EC.A xs)) (hn:xs.length≤2000000000000) (hin:∀ y∈xs,y.In):OwnC E 5 [SV.c v,SV.c (.int .i64 k)] [] (VisXQ xs k):=by
 refine sx_ownC [] tt_ok mixed at5 E hE [SV.c v,SV.c (.int .i64 k)] [] _ rfl rfl fun w X β hT=>?_
 have hv':=hv.of_old hT
 have C1:=check_e8 rfl hv' hn hin
 have M1:=marks_e rfl hv' hn
 refine .inr (.inr (.inl ⟨[],[_],[],_,[],C1,rfl,trivial,rfl,rfl,fun h=>?_,fun h=>?_⟩))
 ·have h:(chkX xs != 0)=true:=h
  have h:chkX xs≠0:=by simpa using h
  have e1:visX xs k=[]:=by rw [visX,if_neg h]
  exact ⟨[(3000,Blk.own (.slice none 0 0) 47 10 0 #[])],[],⟨_,0,by rw [e1];rfl,rfl,.nil,by rw [e1];rfl⟩,⟨.inr ⟨rfl,rfl,rfl⟩,trivial⟩,rfl⟩
 have h:(chkX xs != 0)=false:=h
 have h0:chkX xs=0:=by simpa using h
 obtain ⟨h1,h4k⟩:=chkX_zero h0
 have e1:visL (xs.map mkE) k=(visNE xs k).map (fun i:Nat=>(i:Int)):=by rw [visL,if_pos h1];rfl
 have e2:visX xs k=(visNE xs k).filterMap (fun i=>xs[i]?):=by rw [visX,if_pos h0]
 have hmem:∀ i∈visNE xs k,i < xs.length:=fun i h=>visNE_mem h
 have hlen:=visNE_len xs k
 generalize visNE xs k=l at e1 e2 hmem hlen
 refine .inr (.inr (.inr ⟨[],[2000],[_],[],_,M1,rfl,trivial,rfl,trivial,?_⟩))
 rintro x U ⟨hx,rfl⟩
 refine ⟨rfl,?_⟩
 have C2:=vis_own (E:=(envC Tryz.prog tt Tryz.f5.ntmps w X (tiedK [] β)).toEnv) rfl (x:=x) (xs:=xs.map mkE) (n:=xs.length) (k:=k) (by simp) (by omega)
 refine .inr (.inr (.inr ⟨[],[1000],[_,_],[_],_,C2,rfl,⟨.inl rfl,trivial⟩,rfl,trivial,?_⟩))
 rintro r U ⟨U0,⟨s,n,hsn,rfl,hs,rfl⟩,rfl⟩
 rw [e1] at hsn ⊢
 rw [h1]
 refine ⟨rfl,?_⟩
 obtain ⟨sa,sc,rfl⟩:=hs.len
 refine ⟨_,fun w' _=>run_len_sl Tryz.underlying41 w',?_⟩
 have hnl:n=l.length:=by rw [hsn,List.length_map]
 obtain ⟨a,cap,rfl,hc,h4⟩:=hv'.shape
 refine ⟨fun q f m=>∃ (j:Nat) (y:Value) (N:Nat),q=l.length - j∧j≤l.length∧N=j∧IsL y N∧f=[(0,SV.c (.slice a xs.length cap)),(8,SV.c (.int .i64 0)),(9,SV.c y),(24,SV.c (.slice sa n sc)),(25,SV.c (.int .i64 (n:Nat))),(26,SV.c (.int .i64 (j:Nat)))]∧m=[(3000,Blk.own y 47 10 N (cat EC.A ((l.take j).filterMap (fun i=>xs[i]?)))),(1000,Blk.own (.slice sa n sc) 3 1 n (ints (l.map fun i:Nat=>(i:Int))))],l.length,⟨_,_,⟨0,.slice none 0 0,0,by omega,by omega,rfl,.nil,rfl,rfl⟩,⟨rfl,rfl,rfl,rfl,rfl,rfl,trivial⟩,⟨.inr ⟨rfl,rfl,rfl⟩,.inl rfl,trivial⟩,rfl⟩,?_⟩
 rintro q f m ⟨j,y,N,rfl,hj,hN,hy,rfl,rfl⟩
 refine ⟨fun h=>?_,fun h=>?_⟩
 ·have h:j < n:=by have:=of_decide_eq_true h;omega
  obtain ⟨i,hi⟩:∃ i,l[j]? = some i:=⟨_,List.getElem?_eq_getElem (show j < l.length by omega)⟩
  have hil:=hmem i (List.mem_of_getElem? hi)
  obtain ⟨z,hz⟩:∃ z,xs[i]? = some z:=⟨_,List.getElem?_eq_getElem hil⟩
  obtain ⟨b,o,rfl,h5⟩:=h4 (by omega)
  have hE':VOk (envC Tryz.prog tt Tryz.f5.ntmps w X (tiedK [] β)):=tt_ok
  have L1:=lst_elem hE' h5 EC.size hz (ty:=47) (ti:=ti47) rfl rfl rfl (p:=o+((i:Nat):Int).toNat*10) rfl
  rcases hs with ⟨hs1,hs2⟩ | ⟨g0,c0,hs1⟩
  ·omega
  cases hs1
  refine ⟨by omega,by omega,.inr ⟨1000,g0,_,n,_,_,_,_,rfl,rfl,_,(by rw [off18];exact ints_at8 hi),?_⟩⟩
  have F1:=fill_ent1 z
  have F2:=z.fits.one
  have F3:=z.ext10
  have F4:z.A.size=1*10:=z.size
  have F5:cat EC.A ((l.take j).filterMap (fun i=>xs[i]?))++z.A=cat EC.A ((l.take (j+1)).filterMap (fun i=>xs[i]?)):=by rw [take_fmE hi hz,cat_append,cat_one]
  generalize hY:z.A=ZA at L1 F1 F2 F3 F4 F5
  refine ⟨by omega,by omega,.inl ⟨_,L1,.inl ⟨by decide,by decide,_,F1,F4,by decide,3000,N,_,.inl rfl,by decide,F2,F4,_,F3,?_⟩⟩⟩
  obtain ⟨q,hq,hb⟩:=info_ent
  refine ⟨by omega,by unfold maxLen;omega,⟨q,hq,by rw [hb];omega⟩,trivial,fun g2 cap2=>?_⟩
  exact ⟨l.length - (j+1),_,_,by omega,⟨j+1,_,N+1,rfl,by omega,by omega,.some,rfl,rfl⟩,⟨rfl,rfl,rfl,rfl,rfl,c_int (i64_succ (by omega)),trivial⟩,⟨.inl (own_eq F5),.inl rfl,trivial⟩,rfl⟩
 ·have h:j=l.length:=by have:=of_decide_eq_false h;omega
  subst h
  rw [List.take_length]
  have e3:=fm_lenE hmem
  exact ⟨[(3000,Blk.own y 47 10 N (cat EC.A (l.filterMap (fun i=>xs[i]?))))],[],⟨y,N,by rw [e2,e3];exact hN,by rw [h0];rfl,hy,by rw [e2]⟩,⟨.inl rfl,trivial⟩,rfl⟩

theorem far_r (n:Int):Pure Tryz.prog 78 [SV.c (.int .i64 n)] (.bool (!inB n (-1000000000000000) 1000000000000000)):=by
 refine sx_pure tt_ok mixed at78 _ _ rfl rfl fun w=>?_
 refine ⟨fun h=>?_,fun h=>?_⟩
 ·have h:=of_decide_eq_false (show decide (n > 1000000000000000)=false from h)
  refine ⟨bv ?_,trivial⟩
  unfold inB
  rw [decide_eq_true (show n≤1000000000000000 by omega),Bool.and_true]
  by_cases c:n < -1000000000000000
  ·rw [decide_eq_true c,decide_eq_false (by omega)];rfl
  ·rw [decide_eq_false c,decide_eq_true (by omega)];rfl
 ·have h:=of_decide_eq_true (show decide (n > 1000000000000000)=true from h)
  refine ⟨bv ?_,trivial⟩
  unfold inB
  rw [decide_eq_false (show ¬ n≤1000000000000000 by omega),Bool.and_false];rfl
theorem valid_er {a:EC} (ha:a.In):Pure Tryz.prog 44 [SV.c (.agg a.A)] (.bool (validE a)):=by
 refine sx_pure tt_ok mixed at44 _ _ rfl rfl fun w=>?_
 have no:hdrE a=false→mkRes [.bool false]=.bool (validE a):=fun h=>by rw [validE,h];rfl
 have len:∀ (E:Env),E.P=Tryz.prog→∀ (ty:TypeId) (l:List UInt8) (cs:Array Bool) (w:World),OldW E w→(builtin .len #[9] ty cs #[.string (S l)]).run E.P w=.ok (.value (.int .i64 (l.length:Nat))) w:=fun E hE ty l cs w _=>by rw [hE];exact run_len_S Tryz.underlying9 w
 refine ⟨a.size,_,a.g1,_,len _ rfl _ _ _,fun h1=>⟨_,a.g1,_,len _ rfl _ _ _,fun h2=>⟨_,a.g8,fun h3=>⟨_,a.g8,fun h4=>?_,fun h4=>?_⟩,fun h3=>?_⟩,fun h2=>?_⟩,fun h1=>?_⟩
 ·have h4:=of_decide_eq_true (show decide (a.known > 2147483647)=true from h4)
  refine ⟨no ?_,trivial⟩
  unfold hdrE inB;rw [decide_eq_false (show ¬ a.known≤2147483647 by omega)];simp
 ·have h1:=of_decide_eq_false (show decide (((a.key.length:Nat):Int) < 1)=false from h1)
  have h2:=of_decide_eq_false (show decide (((a.key.length:Nat):Int) > 64)=false from h2)
  have h3:=of_decide_eq_false (show decide (a.known < 1)=false from h3)
  have h4:=of_decide_eq_false (show decide (a.known > 2147483647)=false from h4)
  have hh:hdrE a=true:=by unfold hdrE inB;rw [decide_eq_true (by omega),decide_eq_true (by omega),decide_eq_true (by omega),decide_eq_true (by omega)];rfl
  have va:validE a=(if a.void then a.beq (.nil a.key a.known) else bodyE a && kindE a):=by rw [validE,hh,Bool.true_and]
  rw [va]
  refine ⟨_,a.g9,fun h5=>?_,fun h5=>?_⟩
  ·have h5:a.void=true:=h5
   rw [if_pos h5]
   exact ⟨_,a.g1,_,a.g8,_,fill_voidE a.key a.known rfl,_,eql_entry rfl a (.nil a.key a.known),rfl,trivial⟩
  ·have h5:¬ (a.void=true):=by intro e;rw [e] at h5;cases h5
   rw [if_neg h5]
   have nob:bodyE a=false→mkRes [.bool false]=.bool (bodyE a && kindE a):=fun h=>by rw [h];rfl
   have hc:=code_r a.cur ha.cur
   have hi:=paper_r a.ins ha.ins
   refine ⟨_,a.g2,.inl ⟨_,out_r _,fun q1=>⟨_,a.g3,.inl ⟨_,out_r _,fun q2=>⟨_,a.g3,_,a.g2,fun q3=>⟨_,a.g6,.inl ⟨_,far_r _,fun q4=>⟨_,a.g7,.inl ⟨_,hc,fun q5=>?_,fun q5=>?_⟩⟩,fun q4=>?_⟩⟩,fun q3=>?_⟩,fun q2=>?_⟩⟩,fun q1=>?_⟩⟩
   ·have q5:curOk a.cur=false:=bnt q5
    refine ⟨nob ?_,trivial⟩
    unfold bodyE;rw [q5];simp
   ·have q5:curOk a.cur=true:=of_bnf q5
    have q1:=Bool.or_eq_false_iff.mp (show (decide (a.day < 0) || decide (a.day > 73048))=false from q1)
    have q2:=Bool.or_eq_false_iff.mp (show (decide (a.settle < 0) || decide (a.settle > 73048))=false from q2)
    have p1:=of_decide_eq_false q1.1
    have p2:=of_decide_eq_false q2.2
    have q3:=of_decide_eq_false (show decide (a.settle < a.day)=false from q3)
    have q4:inB a.amt (-1000000000000000) 1000000000000000=true:=of_bnf q4
    have hb:bodyE a=true:=by
     unfold bodyE;rw [q4,q5,decide_eq_true (show a.settle≤73048 by omega)];unfold inB;rw [decide_eq_true (show 0≤a.day by omega),decide_eq_true (show a.day≤a.settle by omega)];rfl
    rw [hb,Bool.true_and]
    have ens:((S a.ins).toList == (S []).toList)=decide (a.ins=[]):=S_beq _ _
    refine ⟨_,a.g0,fun k1=>⟨_,a.g4,.inl ⟨_,hi,fun e1=>⟨_,a.g5,fun e2=>⟨_,a.g5,fun e3=>⟨_,a.g5,bv ?_,trivial⟩,fun e3=>⟨bv ?_,trivial⟩⟩,fun e2=>⟨nofun,fun _=>⟨bv ?_,trivial⟩⟩⟩,fun e1=>⟨nofun,fun _=>⟨nofun,fun _=>⟨bv ?_,trivial⟩⟩⟩⟩⟩,fun k1=>⟨fun k2=>⟨_,a.g4,fun e1=>⟨_,a.g5,bv ?_,trivial⟩,fun e1=>⟨bv ?_,trivial⟩⟩,fun k2=>⟨bv ?_,trivial⟩⟩⟩
    ·have k1:a.kind=1:=by simpa using k1
     have e1:insOk a.ins=true:=e1
     have e2:(a.qty != 0)=true:=e2
     have e3:decide (a.qty≤1000000000000000)=true:=e3
     unfold kindE inB;rw [if_pos k1,e1,show (a.qty == 0)=false by simpa using e2,e3,Bool.and_true];rfl
    ·have k1:a.kind=1:=by simpa using k1
     have e3:decide (a.qty≤1000000000000000)=false:=e3
     unfold kindE inB;rw [if_pos k1,e3];simp
    ·have k1:a.kind=1:=by simpa using k1
     have e2:(a.qty != 0)=false:=e2
     unfold kindE;rw [if_pos k1,show (a.qty == 0)=true by simpa using e2];simp
    ·have k1:a.kind=1:=by simpa using k1
     have e1:insOk a.ins=false:=e1
     unfold kindE;rw [if_pos k1,e1];rfl
    ·have k1:¬ a.kind=1:=by intro e;rw [e] at k1;simp at k1
     have k2:a.kind=2:=by simpa using k2
     have e1:=ens.symm.trans e1
     unfold kindE;rw [if_neg k1,if_pos k2,e1];rfl
    ·have k1:¬ a.kind=1:=by intro e;rw [e] at k1;simp at k1
     have k2:a.kind=2:=by simpa using k2
     have e1:=ens.symm.trans e1
     unfold kindE;rw [if_neg k1,if_pos k2,e1];rfl
    ·have k1:¬ a.kind=1:=by intro e;rw [e] at k1;simp at k1
     have k2:¬ a.kind=2:=by intro e;rw [e] at k2;simp at k2
     unfold kindE;rw [if_neg k1,if_neg k2]
   ·have q4:inB a.amt (-1000000000000000) 1000000000000000=false:=bnt q4
    refine ⟨fun _=>⟨nob ?_,trivial⟩,nofun⟩
    unfold bodyE;rw [q4];simp
   ·have q3:=of_decide_eq_true (show decide (a.settle < a.day)=true from q3)
    refine ⟨nofun,fun _=>⟨fun _=>⟨nob ?_,trivial⟩,nofun⟩⟩
    unfold bodyE inB;rw [decide_eq_false (show ¬ a.day≤a.settle by omega)];simp
   ·have q2:(decide (a.settle < 0) || decide (a.settle > 73048))=true:=q2
    have q1:=Bool.or_eq_false_iff.mp (show (decide (a.day < 0) || decide (a.day > 73048))=false from q1)
    have p1:=of_decide_eq_false q1.1
    refine ⟨nofun,fun _=>⟨nofun,fun _=>⟨fun _=>⟨nob ?_,trivial⟩,nofun⟩⟩⟩
    unfold bodyE inB
    rcases Bool.or_eq_true_iff.mp q2 with q2 | q2
    ·have q2:=of_decide_eq_true q2
     rw [decide_eq_false (show ¬ a.day≤a.settle by omega)];simp
    ·have q2:=of_decide_eq_true q2
     rw [decide_eq_false (show ¬ a.settle≤73048 by omega)];simp
   ·have q1:(decide (a.day < 0) || decide (a.day > 73048))=true:=q1
    refine ⟨nofun,fun _=>⟨nofun,fun _=>⟨nofun,fun _=>⟨fun _=>⟨nob ?_,trivial⟩,nofun⟩⟩⟩⟩
    unfold bodyE inB
    rcases Bool.or_eq_true_iff.mp q1 with q1 | q1
    ·have q1:=of_decide_eq_true q1
     rw [decide_eq_false (show ¬ 0≤a.day by omega)];simp
    ·have q1:=of_decide_eq_true q1
     by_cases c:a.day≤a.settle
     ·rw [decide_eq_false (show ¬ a.settle≤73048 by omega)];simp
     ·rw [decide_eq_false c];simp
 ·have h3:=of_decide_eq_true (show decide (a.known < 1)=true from h3)
  refine ⟨fun _=>⟨no ?_,trivial⟩,nofun⟩
  unfold hdrE inB;rw [decide_eq_false (show ¬ 1≤a.known by omega)];simp
 ·have h2:=of_decide_eq_true (show decide (((a.key.length:Nat):Int) > 64)=true from h2)
  refine ⟨nofun,fun _=>⟨fun _=>⟨no ?_,trivial⟩,nofun⟩⟩
  unfold hdrE inB;rw [decide_eq_false (show ¬ ((a.key.length:Nat):Int)≤64 by omega)];simp
 ·have h1:=of_decide_eq_true (show decide (((a.key.length:Nat):Int) < 1)=true from h1)
  refine ⟨nofun,fun _=>⟨nofun,fun _=>⟨fun _=>⟨no ?_,trivial⟩,nofun⟩⟩⟩
  unfold hdrE inB;rw [decide_eq_false (show ¬ (1:Int)≤((a.key.length:Nat):Int) by omega)];simp
theorem marks_er18 {E:Env} (hE:E.P=Tryz.prog) {v:Value} {xs:List EC} (hv:Lst E v 10 xs.length (cat EC.A xs)) (hn:xs.length≤2000000000000):OwnC E 21 [SV.c v] [] (OwnL 2000 103 3 xs.length (cat MK.A (xs.map mkE))):=by
 refine sx_ownC [] tt_ok mixed at21 E hE [SV.c v] [] _ rfl rfl fun w X β hT=>?_
 obtain ⟨a,cap,rfl,hc,h4⟩:=(hv.of_old hT).shape
 refine ⟨fun q f m=>∃ (i:Nat) (x:Value),q=xs.length - i∧i≤xs.length∧IsL x i∧f=[(0,SV.c (.slice a xs.length cap)),(3,SV.c x),(4,SV.c (.int .i64 (i:Nat)))]∧m=[(2000,Blk.own x 103 3 i (cat MK.A ((xs.take i).map mkE)))],xs.length,⟨_,_,⟨0,.slice none 0 0,by omega,by omega,.nil,rfl,rfl⟩,⟨rfl,rfl,rfl,trivial⟩,⟨.inr ⟨rfl,rfl,rfl⟩,trivial⟩,rfl⟩,?_⟩
 rintro q f m ⟨i,x,rfl,hi,hx,rfl,rfl⟩
 refine ⟨_,fun w' _=>run_len_sl Tryz.underlying22 w',fun h=>?_,fun h=>?_⟩
 ·have h:i < xs.length:=by have:=of_decide_eq_true h;omega
  obtain ⟨b,o,rfl,h5⟩:=h4 (by omega)
  obtain ⟨y,hy⟩:∃ y,xs[i]? = some y:=⟨_,List.getElem?_eq_getElem h⟩
  have hE':VOk (envC Tryz.prog tt Tryz.f21.ntmps w X (tiedK [] β)):=tt_ok
  have L1:=lst_at hE' h5 EC.size hy y.g1 (ty:=9) (ti:=ti9) rfl rfl (p:=o+(i:Int).toNat*10+1) rfl
  have L2:=lst_at hE' h5 EC.size hy y.g8 (ty:=3) (ti:=ti3) rfl rfl (p:=o+(i:Int).toNat*10+8) rfl
  have L3:=lst_at hE' h5 EC.size hy y.g9 (ty:=4) (ti:=ti4) rfl rfl (p:=o+(i:Int).toNat*10+9) rfl
  refine ⟨by omega,by omega,.inl ⟨_,L1,by omega,by omega,.inl ⟨_,L2,by omega,by omega,.inl ⟨_,L3,_,fill_mark (mkE y) rfl,?_⟩⟩⟩⟩
  refine .inl ⟨by decide,by decide,_,fill_mark1 (mkE y),rfl,by decide,2000,i,_,.inl rfl,by decide,(mkE y).one,rfl,_,(mkE y).ext3,?_⟩
  obtain ⟨q,hq,hb⟩:=info_mark
  refine ⟨by omega,by unfold maxLen;omega,⟨q,hq,by rw [hb];omega⟩,by change _=true;kernel_rfl,fun g2 cap2=>⟨by kernel_rfl,?_⟩⟩
  exact ⟨xs.length - (i+1),_,_,by omega,⟨i+1,_,rfl,by omega,.some,rfl,rfl⟩,⟨rfl,rfl,c_int (i64_succ (by omega)),trivial⟩,⟨.inl (own_eq (cat_step mkE MK.A hy)),trivial⟩,rfl⟩
 ·have h:i=xs.length:=by have:=of_decide_eq_false h;omega
  subst h
  rw [List.take_length]
  exact ⟨[(2000,Blk.own x 103 3 xs.length (cat MK.A (xs.map mkE)))],[],⟨hx,rfl⟩,⟨.inl rfl,trivial⟩,rfl⟩
theorem check_er18 {E:Env} (hE:E.P=Tryz.prog) {v:Value} {xs:List EC} (hv:Lst E v 10 xs.length (cat EC.A xs)) (hn:xs.length≤2000000000000) (hin:∀ y∈xs,y.In):OwnC E 11 [SV.c v] [] (fun x U=>x=.int .i64 (chkX xs)∧U=[]):=by
 refine sx_ownC [] tt_ok mixed at11 E hE [SV.c v] [] _ rfl rfl fun w X β hT=>?_
 have hv':=hv.of_old hT
 have M1:=marks_er18 rfl hv' hn
 obtain ⟨a,cap,rfl,hc,h4⟩:=hv'.shape
 refine ⟨fun q f m=>∃ (i:Nat),q=xs.length - i∧i≤xs.length∧(∀ (j:Nat) (y:EC),j < i→xs[j]? = some y→validE y=true)∧f=[(0,SV.c (.slice a xs.length cap)),(3,SV.c (.int .i64 (i:Nat)))]∧m=[],xs.length,⟨_,_,⟨0,by omega,by omega,fun j y h=>by omega,rfl,rfl⟩,⟨rfl,rfl,trivial⟩,trivial,rfl⟩,?_⟩
 rintro q f m ⟨i,rfl,hi,hok,rfl,rfl⟩
 refine ⟨_,fun w' _=>run_len_sl Tryz.underlying22 w',fun h=>?_,fun h=>?_⟩
 ·have h:i < xs.length:=by have:=of_decide_eq_true h;omega
  obtain ⟨b,o,rfl,h5⟩:=h4 (by omega)
  obtain ⟨y,hy⟩:∃ y,xs[i]? = some y:=⟨_,List.getElem?_eq_getElem h⟩
  have hE':VOk (envC Tryz.prog tt Tryz.f11.ntmps w X (tiedK [] β)):=tt_ok
  have L1:=lst_elem hE' h5 EC.size hy (ty:=47) (ti:=ti47) rfl rfl rfl (p:=o+(i:Int).toNat*10) rfl
  have V1:=valid_er (hin y (List.mem_of_getElem? hy))
  generalize hY:y.A=YA at L1 V1
  refine ⟨by omega,by omega,.inl ⟨_,L1,.inl ⟨_,V1,fun c1=>?_,fun c1=>?_⟩⟩⟩
  ·have c1:(!validE y)=true:=c1
   have c1:validE y=false:=by simpa using c1
   exact ⟨[],[],⟨by unfold chkX;rw [all_bad' hy c1];rfl,rfl⟩,trivial,rfl⟩
  ·have c1:(!validE y)=false:=c1
   have c1:validE y=true:=by simpa using c1
   refine ⟨xs.length - (i+1),_,_,by omega,⟨i+1,rfl,by omega,fun j z hj hz=>?_,rfl,rfl⟩,⟨rfl,c_int (i64_succ (by omega)),trivial⟩,trivial,rfl⟩
   rcases Nat.lt_or_ge j i with h9 | h9
   ·exact hok j z h9 hz
   ·have:j=i:=by omega
    subst this
    rw [hy] at hz;cases hz
    exact c1
 ·have h:i=xs.length:=by have:=of_decide_eq_false h;omega
  subst h
  refine .inr (.inr (.inr ⟨[],[2000],[_],[],_,M1,rfl,trivial,rfl,trivial,?_⟩))
  rintro x U ⟨hx,rfl⟩
  refine ⟨rfl,?_⟩
  have C1:=check_ownr (E:=(envC Tryz.prog tt Tryz.f11.ntmps w X (tiedK [] β)).toEnv) rfl (x:=x) (xs:=xs.map mkE) (n:=xs.length) (by simp)
  refine .inr (.inr (.inl ⟨[],[_],[_],_,[_],C1,rfl,⟨.inl rfl,trivial⟩,rfl,rfl,?_⟩))
  have e1:chkX xs=chkE (xs.map mkE):=by unfold chkX;rw [if_pos (all_good' fun j y hy=>hok j y (List.getElem?_eq_some_iff.1 hy).1 hy)]
  exact ⟨[],[],⟨by rw [e1];rfl,rfl⟩,trivial,rfl⟩
theorem vis_er18 {E:Env} (hE:E.P=Tryz.prog) {v:Value} {k:Int} {xs:List EC} (hv:Lst E v 10 xs.length (cat EC.A xs)) (hn:xs.length≤2000000000000) (hin:∀ y∈xs,y.In):OwnC E 6 [SV.c v,SV.c (.int .i64 k)] [] (VisXQ xs k):=by
 refine sx_ownC [] tt_ok mixed at6 E hE [SV.c v,SV.c (.int .i64 k)] [] _ rfl rfl fun w X β hT=>?_
 have hv':=hv.of_old hT
 have C1:=check_er18 rfl hv' hn hin
 have M1:=marks_er18 rfl hv' hn
 refine .inr (.inr (.inl ⟨[],[_],[],_,[],C1,rfl,trivial,rfl,rfl,fun h=>?_,fun h=>?_⟩))
 ·have h:(chkX xs != 0)=true:=h
  have h:chkX xs≠0:=by simpa using h
  have e1:visX xs k=[]:=by rw [visX,if_neg h]
  exact ⟨[(3000,Blk.own (.slice none 0 0) 47 10 0 #[])],[],⟨_,0,by rw [e1];rfl,rfl,.nil,by rw [e1];rfl⟩,⟨.inr ⟨rfl,rfl,rfl⟩,trivial⟩,rfl⟩
 have h:(chkX xs != 0)=false:=h
 have h0:chkX xs=0:=by simpa using h
 obtain ⟨h1,h4k⟩:=chkX_zero h0
 have e1:visL (xs.map mkE) k=(visNE xs k).map (fun i:Nat=>(i:Int)):=by rw [visL,if_pos h1];rfl
 have e2:visX xs k=(visNE xs k).filterMap (fun i=>xs[i]?):=by rw [visX,if_pos h0]
 have hmem:∀ i∈visNE xs k,i < xs.length:=fun i h=>visNE_mem h
 have hlen:=visNE_len xs k
 generalize visNE xs k=l at e1 e2 hmem hlen
 refine .inr (.inr (.inr ⟨[],[2000],[_],[],_,M1,rfl,trivial,rfl,trivial,?_⟩))
 rintro x U ⟨hx,rfl⟩
 refine ⟨rfl,?_⟩
 have C2:=vis_ownr (E:=(envC Tryz.prog tt Tryz.f6.ntmps w X (tiedK [] β)).toEnv) rfl (x:=x) (xs:=xs.map mkE) (n:=xs.length) (k:=k) (by simp) (by omega)
 refine .inr (.inr (.inr ⟨[],[1000],[_,_],[_],_,C2,rfl,⟨.inl rfl,trivial⟩,rfl,trivial,?_⟩))
 rintro r U ⟨U0,⟨s,n,hsn,rfl,hs,rfl⟩,rfl⟩
 rw [e1] at hsn ⊢
 rw [h1]
 refine ⟨rfl,?_⟩
 obtain ⟨sa,sc,rfl⟩:=hs.len
 have hnl:n=l.length:=by rw [hsn,List.length_map]
 obtain ⟨a,cap,rfl,hc,h4⟩:=hv'.shape
 refine ⟨fun q f m=>∃ (j:Nat) (y:Value) (N:Nat),q=l.length - j∧j≤l.length∧N=j∧IsL y N∧f=[(0,SV.c (.slice a xs.length cap)),(7,SV.c (.slice sa n sc)),(9,SV.c y),(10,SV.c (.int .i64 (j:Nat)))]∧m=[(3000,Blk.own y 47 10 N (cat EC.A ((l.take j).filterMap (fun i=>xs[i]?)))),(1000,Blk.own (.slice sa n sc) 3 1 n (ints (l.map fun i:Nat=>(i:Int))))],l.length,⟨_,_,⟨0,.slice none 0 0,0,by omega,by omega,rfl,.nil,rfl,rfl⟩,⟨rfl,rfl,rfl,rfl,trivial⟩,⟨.inr ⟨rfl,rfl,rfl⟩,.inl rfl,trivial⟩,rfl⟩,?_⟩
 rintro q f m ⟨j,y,N,rfl,hj,hN,hy,rfl,rfl⟩
 refine ⟨_,fun w' _=>run_len_sl Tryz.underlying41 w',fun h=>?_,fun h=>?_⟩
 ·have h:j < n:=by have:=of_decide_eq_true h;omega
  obtain ⟨i,hi⟩:∃ i,l[j]? = some i:=⟨_,List.getElem?_eq_getElem (show j < l.length by omega)⟩
  have hil:=hmem i (List.mem_of_getElem? hi)
  obtain ⟨z,hz⟩:∃ z,xs[i]? = some z:=⟨_,List.getElem?_eq_getElem hil⟩
  obtain ⟨b,o,rfl,h5⟩:=h4 (by omega)
  have hE':VOk (envC Tryz.prog tt Tryz.f6.ntmps w X (tiedK [] β)):=tt_ok
  have L1:=lst_elem hE' h5 EC.size hz (ty:=47) (ti:=ti47) rfl rfl rfl (p:=o+((i:Nat):Int).toNat*10) rfl
  rcases hs with ⟨hs1,hs2⟩ | ⟨g0,c0,hs1⟩
  ·omega
  cases hs1
  refine ⟨by omega,by omega,.inr ⟨1000,g0,_,n,_,_,_,_,rfl,rfl,_,(by rw [off18];exact ints_at8 hi),?_⟩⟩
  have F1:=fill_ent1 z
  have F2:=z.fits.one
  have F3:=z.ext10
  have F4:z.A.size=1*10:=z.size
  have F5:cat EC.A ((l.take j).filterMap (fun i=>xs[i]?))++z.A=cat EC.A ((l.take (j+1)).filterMap (fun i=>xs[i]?)):=by rw [take_fmE hi hz,cat_append,cat_one]
  generalize hY:z.A=ZA at L1 F1 F2 F3 F4 F5
  refine ⟨by omega,by omega,.inl ⟨_,L1,.inl ⟨by decide,by decide,_,F1,F4,by decide,3000,N,_,.inl rfl,by decide,F2,F4,_,F3,?_⟩⟩⟩
  obtain ⟨q,hq,hb⟩:=info_ent
  refine ⟨by omega,by unfold maxLen;omega,⟨q,hq,by rw [hb];omega⟩,trivial,fun g2 cap2=>?_⟩
  exact ⟨l.length - (j+1),_,_,by omega,⟨j+1,_,N+1,rfl,by omega,by omega,.some,rfl,rfl⟩,⟨rfl,rfl,rfl,c_int (i64_succ (by omega)),trivial⟩,⟨.inl (own_eq F5),.inl rfl,trivial⟩,rfl⟩
 ·have h:j=l.length:=by have:=of_decide_eq_false h;omega
  subst h
  rw [List.take_length]
  have e3:=fm_lenE hmem
  exact ⟨[(3000,Blk.own y 47 10 N (cat EC.A (l.filterMap (fun i=>xs[i]?))))],[],⟨y,N,by rw [e2,e3];exact hN,by rw [h0];rfl,hy,by rw [e2]⟩,⟨.inl rfl,trivial⟩,rfl⟩

def pfL (g:Led):Led×Int:=if finE g=0 then (g,0) else (.zero,finE g)
def PfQ (g:Led) (vh vc vp:Value) (day:Int) (r:Value) (U:MemL):Prop:=∃ xh xc xp,IsL xh (pfL g).1.h.length∧IsL xc (pfL g).1.c.length∧IsL xp (pfL g).1.p.length∧r=.tuple #[.agg #[xh,xc,xp],.int .i64 (pfL g).2]∧U=[(9501,Blk.own vh 120 2 (g.h).length (cat sumA (g.h))),(9504,Blk.own vc 163 3 (g.c).length (cat sumK (g.c))),(9505,Blk.own vp 163 3 (g.p).length (cat sumK (g.p))),(9500,Blk.row 73 7 (LdA vh vc vp day)),(9506,Blk.own xh 90 2 (pfL g).1.h.length (cat sumA (pfL g).1.h)),(9507,Blk.own xc 85 3 (pfL g).1.c.length (cat sumK (pfL g).1.c)),(9508,Blk.own xp 85 3 (pfL g).1.p.length (cat sumK (pfL g).1.p))]
theorem PfQ.bad {g:Led} {vh vc vp:Value} {day e:Int} (h:pfL g=(.zero,e)):PfQ g vh vc vp day (.tuple #[.agg #[.slice none 0 0,.slice none 0 0,.slice none 0 0],.int .i64 e]) [(9501,Blk.own vh 120 2 (g.h).length (cat sumA (g.h))),(9504,Blk.own vc 163 3 (g.c).length (cat sumK (g.c))),(9505,Blk.own vp 163 3 (g.p).length (cat sumK (g.p))),(9500,Blk.row 73 7 (LdA vh vc vp day)),(9506,Blk.own (.slice none 0 0) 90 2 0 #[]),(9507,Blk.own (.slice none 0 0) 85 3 0 #[]),(9508,Blk.own (.slice none 0 0) 85 3 0 #[])]:=by
 refine ⟨.slice none 0 0,.slice none 0 0,.slice none 0 0,by rw [h];exact .nil,by rw [h];exact .nil,by rw [h];exact .nil,by rw [h],by rw [h];rfl⟩
theorem nil3_fits:Fits #[.slice none 0 0,.slice none 0 0,.slice none 0 0] 3:=⟨rfl,by simp [Value.oneCell']⟩
theorem fits3 {a b c:Value} (h1:a.oneCell'=true) (h2:b.oneCell'=true) (h3:c.oneCell'=true):Fits #[a,b,c] 3:=⟨rfl,by simp [h1,h2,h3]⟩
theorem fill_hol (x:Bs×Int) {pl:List (Nat×Nat)} (hpl:pl=[(0,1),(1,1)]):Instr.fill (fun k=>pl[k]?) ti90.zero [(0,.string (S x.1)),(1,.int .i64 x.2)]=some (sumA x):=by
 subst hpl;rfl
theorem fill_hol1 (x:Bs×Int):Instr.fill (fun k=>some (k*ti90.size,ti90.size)) (madeCells ti90.zero (1*ti90.size)) [(0,.agg (sumA x))]=some (sumA x):=by kernel_rfl
theorem info_hol:∃ q,Tryz.prog.info? 90=some q∧q.bytes=24:=info_of (by kernel_rfl)
theorem portfolio_z {E:Env} (hE:E.P=Tryz.prog) {g:Led} {vh vc vp:Value} {day:Int} (hh:IsL vh g.h.length) (hc:IsL vc g.c.length) (hp:IsL vp g.p.length) (hl:g.h.length≤10000000000∧g.c.length≤10000000000∧g.p.length≤10000000000):OwnC E 32 [SV.ptr 9500 0] [(9501,Blk.own vh 120 2 (g.h).length (cat sumA (g.h))),(9504,Blk.own vc 163 3 (g.c).length (cat sumK (g.c))),(9505,Blk.own vp 163 3 (g.p).length (cat sumK (g.p))),(9500,Blk.row 73 7 (LdA vh vc vp day))] (PfQ g vh vc vp day):=by
 refine sx_ownC [3] tt_ok mixed at32 E hE [SV.ptr 9500 0] [(9501,Blk.own vh 120 2 (g.h).length (cat sumA (g.h))),(9504,Blk.own vc 163 3 (g.c).length (cat sumK (g.c))),(9505,Blk.own vp 163 3 (g.p).length (cat sumK (g.p))),(9500,Blk.row 73 7 (LdA vh vc vp day))] _ rfl rfl fun w X β hT=>?_
 have hE':(envC Tryz.prog tt Tryz.f32.ntmps w X (tiedK [(9501,Blk.own vh 120 2 (g.h).length (cat sumA (g.h))),(9504,Blk.own vc 163 3 (g.c).length (cat sumK (g.c))),(9505,Blk.own vp 163 3 (g.p).length (cat sumK (g.p))),(9500,Blk.row 73 7 (LdA vh vc vp day))] β)).toEnv.P=Tryz.prog:=rfl
 have BC:=balances_z hE' (C:=g.c) hc rfl (by omega)
 have BP:=balances_z hE' (C:=g.p) hp rfl (by omega)
 obtain ⟨ha,hcap,rfl⟩:=hh.len
 obtain ⟨ca,ccap,rfl⟩:=hc.len
 refine ⟨fun f mm=>¬ (g.h.length > 64∨g.c.length > 8)∧f=[(0,SV.ptr 9500 0),(2,SV.ptr 2 0)]∧mm=[(2,Blk.row 30 3 #[.slice none 0 0,.slice none 0 0,.slice none 0 0]),(9501,Blk.own (.slice ha g.h.length hcap) 120 2 (g.h).length (cat sumA (g.h))),(9504,Blk.own (.slice ca g.c.length ccap) 163 3 (g.c).length (cat sumK (g.c))),(9505,Blk.own vp 163 3 (g.p).length (cat sumK (g.p))),(9500,Blk.row 73 7 (LdA (.slice ha g.h.length hcap) (.slice ca g.c.length ccap) vp day))],?_,?_⟩
 ·have bad:g.h.length > 64∨g.c.length > 8→pfL g=(.zero,123):=fun h=>by
    have:finE g=123:=by unfold finE;rw [if_pos h]
    unfold pfL;rw [this];rfl
  refine ⟨_,rfl,_,fun w' _=>run_len_sl Tryz.underlying65 w',fun c=>?_,fun c=>?_⟩
  ·have c:=of_decide_eq_false c
   refine ⟨_,rfl,_,fun w' _=>run_len_sl Tryz.underlying69 w',fun c2=>?_,fun c2=>?_⟩
   ·have c2:=of_decide_eq_true c2
    refine ⟨_,rfl,nil3_fits,?_⟩
    exact ⟨_,[],PfQ.bad (bad (.inr (by omega))),⟨.inl rfl,.inl rfl,.inl rfl,rfl,.inr ⟨rfl,rfl,rfl⟩,.inr ⟨rfl,rfl,rfl⟩,.inr ⟨rfl,rfl,rfl⟩,trivial⟩,rfl⟩
   ·have c2:=of_decide_eq_false c2
    exact ⟨_,_,⟨by omega,rfl,rfl⟩,⟨rfl,rfl,trivial⟩,⟨rfl,.inl rfl,.inl rfl,.inl rfl,rfl,trivial⟩,rfl⟩
  ·have c:=of_decide_eq_true (show decide ((g.h.length:Int) > 64)=true from c)
   have c:(g.h.length:Int) > 64:=c
   refine ⟨fun _=>?_,nofun⟩
   refine ⟨_,rfl,nil3_fits,?_⟩
   exact ⟨_,[],PfQ.bad (bad (.inl (by omega))),⟨.inl rfl,.inl rfl,.inl rfl,rfl,.inr ⟨rfl,rfl,rfl⟩,.inr ⟨rfl,rfl,rfl⟩,.inr ⟨rfl,rfl,rfl⟩,trivial⟩,rfl⟩
 ·rintro f1 m1 ⟨hmany,rfl,rfl⟩
  refine ⟨_,rfl,_,fun w' _=>run_len_sl Tryz.underlying65 w',?_⟩
  refine ⟨fun q f m=>∃ (i:Nat) (s:Value),q=g.h.length - i∧i≤g.h.length∧IsL s i∧f=[(0,SV.ptr 9500 0),(2,SV.ptr 2 0),(4,SV.ptr 4 0),(30,SV.c (.slice ha g.h.length hcap)),(31,SV.c (.int .i64 (g.h.length:Nat))),(32,SV.c (.int .i64 (i:Nat)))]∧m=[(2,Blk.row 30 3 #[.slice none 0 0,.slice none 0 0,.slice none 0 0]),(4,Blk.row 30 3 #[s,.slice none 0 0,.slice none 0 0]),(9506,Blk.own s 90 2 i (cat sumA (g.h.take i))),(9501,Blk.own (.slice ha g.h.length hcap) 120 2 (g.h).length (cat sumA (g.h))),(9504,Blk.own (.slice ca g.c.length ccap) 163 3 (g.c).length (cat sumK (g.c))),(9505,Blk.own vp 163 3 (g.p).length (cat sumK (g.p))),(9500,Blk.row 73 7 (LdA (.slice ha g.h.length hcap) (.slice ca g.c.length ccap) vp day))],g.h.length,⟨_,_,⟨0,.slice none 0 0,rfl,by omega,.nil,rfl,rfl⟩,⟨rfl,rfl,rfl,rfl,rfl,rfl,trivial⟩,⟨rfl,rfl,.inr ⟨rfl,rfl,rfl⟩,.inl rfl,.inl rfl,.inl rfl,rfl,trivial⟩,rfl⟩,?_⟩
  rintro q f m ⟨i,s,rfl,hi,hs,rfl,rfl⟩
  refine ⟨fun h=>?_,fun h=>?_⟩
  ·have h:i < g.h.length:=by have:=of_decide_eq_true h;omega
   rcases hh with ⟨hs1,hs2⟩ | ⟨g0,c0,hs1⟩
   ·omega
   cases hs1
   obtain ⟨y,hy⟩:∃ y,g.h[i]? = some y:=⟨_,List.getElem?_eq_getElem (by omega)⟩
   have L1:=cat_extract sumA_size hy
   have hsz:(cat sumA g.h).size=g.h.length*2:=Go.SX.cat_size sumA_size _
   have X1:(sumA y).extract 0 (0+1*2)=sumA y:=by simp [sumA]
   obtain ⟨q,hq,hb⟩:=info_hol
   refine ⟨by omega,by omega,.inr ⟨9501,g0,_,g.h.length,_,_,_,_,rfl,rfl,(by rw [offS,hsz];show i*2+2≤g.h.length*2;omega),sumA y,(by rw [offS];exact L1),sumA_fits y,?_⟩⟩
   refine ⟨_,rfl,_,rfl,_,rfl,_,fill_hol y rfl,.inl ⟨by decide,by decide,_,fill_hol1 y,rfl,by decide,9506,i,_,.inl rfl,by decide,(sumA_fits y).one,rfl,_,X1,?_⟩⟩
   refine ⟨by omega,by unfold maxLen;omega,⟨q,hq,by rw [hb];omega⟩,trivial,fun g2 cap2=>?_⟩
   exact ⟨by decide,rfl,#[.slice (some ⟨g2,0,none⟩) (i+1) cap2,.slice none 0 0,.slice none 0 0],rfl,g.h.length - (i+1),_,_,by omega,⟨i+1,.slice (some ⟨g2,0,none⟩) (i+1) cap2,rfl,by omega,.some,rfl,rfl⟩,⟨rfl,rfl,rfl,rfl,rfl,c_int (i64_succ (by omega)),trivial⟩,⟨rfl,rfl,.inl (own_eq (cat_take8 sumA hy)),.inl rfl,.inl rfl,.inl rfl,rfl,trivial⟩,rfl⟩
  ·have h:i=g.h.length:=by have:=of_decide_eq_false h;omega
   subst h
   have hmE:finE g=if amtB g.c && amtB g.p then 0 else 33:=by unfold finE;rw [if_neg hmany];rfl
   refine ⟨by decide,_,(rfl:_=#[fnW 29,.slice ca g.c.length ccap]),?_⟩
   refine .inr (.inr (.inr ⟨[(9501,9504),(9506,9507)],[9507],[_],[_],_,BC,rfl,⟨.inl rfl,trivial⟩,rfl,trivial,?_⟩))
   rintro r U ⟨xc,hxc,rfl,rfl⟩
   refine ⟨rfl,by decide,isL_one hxc,#[s,xc,.slice none 0 0],rfl,?_⟩
   refine ⟨by decide,_,(rfl:_=#[fnW 29,vp]),?_⟩
   refine .inr (.inr (.inr ⟨[(9501,9505),(9506,9508)],[9508],[_],[_],_,BP,rfl,⟨.inl rfl,trivial⟩,rfl,trivial,?_⟩))
   rintro r U ⟨xp,hxp,rfl,rfl⟩
   refine ⟨rfl,by decide,isL_one hxp,#[s,xc,xp],rfl,?_⟩
   have bad:(amtB g.c && amtB g.p)=false→pfL g=(.zero,33):=fun h=>by
    have:finE g=33:=by rw [hmE,h];rfl
    unfold pfL;rw [this];rfl
   refine ⟨fun c=>?_,fun c=>?_⟩
   ·have c:(!amtB g.c)=false:=c
    have c:amtB g.c=true:=by simpa using c
    refine ⟨fun c2=>?_,fun c2=>?_⟩
    ·have c2:(!amtB g.p)=true:=c2
     have c2:amtB g.p=false:=by simpa using c2
     refine ⟨_,rfl,nil3_fits,?_⟩
     exact ⟨_,[],PfQ.bad (bad (by rw [c2,Bool.and_false])),⟨.inl rfl,.inl rfl,.inl rfl,rfl,.inr ⟨rfl,rfl,rfl⟩,.inr ⟨rfl,rfl,rfl⟩,.inr ⟨rfl,rfl,rfl⟩,trivial⟩,rfl⟩
    ·have c2:(!amtB g.p)=false:=c2
     have c2:amtB g.p=true:=by simpa using c2
     have hP:pfL g=(g,0):=by
      have:finE g=0:=by rw [hmE,c,c2];rfl
      unfold pfL;rw [this];rfl
     have Q:PfQ g (.slice ha g.h.length hcap) (.slice ca g.c.length ccap) vp day (.tuple #[.agg #[s,xc,xp],.int .i64 0]) [(9501,Blk.own (.slice ha g.h.length hcap) 120 2 (g.h).length (cat sumA (g.h))),(9504,Blk.own (.slice ca g.c.length ccap) 163 3 (g.c).length (cat sumK (g.c))),(9505,Blk.own vp 163 3 (g.p).length (cat sumK (g.p))),(9500,Blk.row 73 7 (LdA (.slice ha g.h.length hcap) (.slice ca g.c.length ccap) vp day)),(9506,Blk.own s 90 2 g.h.length (cat sumA g.h)),(9507,Blk.own xc 85 3 g.c.length (cat sumK g.c)),(9508,Blk.own xp 85 3 g.p.length (cat sumK g.p))]:=⟨s,xc,xp,by rw [hP];exact hs,by rw [hP];exact hxc,by rw [hP];exact hxp,by rw [hP],by rw [hP]⟩
     exact ⟨fits3 (isL_one hs) (isL_one hxc) (isL_one hxp),_,[],Q,⟨.inl rfl,.inl rfl,.inl rfl,rfl,.inl (own_eq (by rw [List.take_length])),.inl rfl,.inl rfl,trivial⟩,rfl⟩
   ·have c:(!amtB g.c)=true:=by simpa using c
    have c:amtB g.c=false:=by simpa using c
    refine ⟨fun _=>?_,nofun⟩
    refine ⟨_,rfl,nil3_fits,?_⟩
    exact ⟨_,[],PfQ.bad (bad (by rw [c,Bool.false_and])),⟨.inl rfl,.inl rfl,.inl rfl,rfl,.inr ⟨rfl,rfl,rfl⟩,.inr ⟨rfl,rfl,rfl⟩,.inr ⟨rfl,rfl,rfl⟩,trivial⟩,rfl⟩
theorem take_one {α:Type} {l:List α} {i:Nat} {x:α} (h:l[i]? = some x):l.take (i+1)=l.take i++[x]:=by
 rw [List.take_add_one,h];rfl
theorem held_r {E:Env} (hE:E.P=Tryz.prog) {v vc vp:Value} {xs:List (Bs×Int)} {k:Bs} (hv:Lst E v 2 xs.length (cat sumA xs)) (hn:xs.length≤1000000000000):OwnC E 17 [SV.c (.agg #[v,vc,vp]),SV.c (.string (S k))] [] (fun x U=>x=.int .i64 (getA xs k)∧U=[]):=by
 refine sx_ownC [] tt_ok mixed at17 E hE [SV.c (.agg #[v,vc,vp]),SV.c (.string (S k))] [] _ rfl rfl fun w X β hT=>?_
 obtain ⟨a,cap,rfl,hc,h4⟩:=(hv.of_old hT).shape
 refine ⟨rfl,fun q f m=>∃ (i:Nat),q=xs.length - i∧i≤xs.length∧(∀ x∈xs.take i,x.1≠k)∧f=[(1,SV.c (.string (S k))),(2,SV.ptr 2 0),(5,SV.c (.int .i64 (i:Nat)))]∧m=[(2,Blk.row 30 3 #[.slice a xs.length cap,vc,vp])],xs.length,⟨_,_,⟨0,by omega,by omega,fun x h=>by simp at h,rfl,rfl⟩,⟨rfl,rfl,rfl,trivial⟩,⟨rfl,trivial⟩,rfl⟩,?_⟩
 rintro q f m ⟨i,rfl,hi,hk,rfl,rfl⟩
 refine ⟨_,rfl,_,fun w' _=>run_len_sl Tryz.underlying27 w',fun h=>?_,fun h=>?_⟩
 ·have h:i < xs.length:=by have:=of_decide_eq_true h;omega
  obtain ⟨b,o,rfl,h5⟩:=h4 (by omega)
  obtain ⟨y,hy⟩:∃ y,xs[i]? = some y:=⟨_,List.getElem?_eq_getElem h⟩
  have hE':VOk (envC Tryz.prog tt Tryz.f17.ntmps w X (tiedK [] β)):=tt_ok
  have L1:=lst_at hE' h5 sumA_size hy (j:=0) (v:=.string (S y.1)) rfl (ty:=9) (ti:=ti9) rfl rfl (p:=o+(i:Int).toNat*2+0) rfl
  have L2:=lst_at hE' h5 sumA_size hy (j:=1) (v:=.int .i64 y.2) rfl (ty:=3) (ti:=ti3) rfl rfl (p:=o+(i:Int).toNat*2+1) rfl
  refine ⟨_,rfl,by omega,by omega,.inl ⟨_,L1,fun c=>?_,fun c=>?_⟩⟩
  ·have c:y.1=k:=by have c:=(S_beq y.1 k).symm.trans c;simpa using c
   refine ⟨_,rfl,by omega,by omega,.inl ⟨_,L2,?_⟩⟩
   have e:getA xs k=y.2:=by
    have e1:xs=xs.take i++y :: xs.drop (i+1):=by rw [← drop_at hy,List.take_append_drop]
    rw [e1,getA_skip hk,← c];exact getA_hit (k:=y.1) (n:=y.2)
   exact ⟨[],[],⟨by rw [e];rfl,rfl⟩,trivial,rfl⟩
  ·have c:¬ y.1=k:=by have c:=(S_beq y.1 k).symm.trans c;simpa using c
   have hk':∀ x∈xs.take (i+1),x.1≠k:=fun x hx=>by
    rw [take_one hy] at hx
    rcases List.mem_append.1 hx with hx | hx
    ·exact hk x hx
    ·rw [List.mem_singleton.1 hx];exact c
   exact ⟨xs.length - (i+1),_,_,by omega,⟨i+1,rfl,by omega,hk',rfl,rfl⟩,⟨rfl,rfl,c_int (i64_succ (by omega)),trivial⟩,⟨rfl,trivial⟩,rfl⟩
 ·have h:i=xs.length:=by have:=of_decide_eq_false h;omega
  subst h
  rw [List.take_length] at hk
  exact ⟨[],[],⟨by rw [getA_none hk];rfl,rfl⟩,trivial,rfl⟩
theorem S_list (l:List UInt8):(S l).toList=l:=by simp [S]
theorem lt_str {E:Env} (a b:List UInt8):Runs E (Op.stringOp .lss (S a) (S b)) (.bool (ltB a b)):=fun w _=>by
 have e:Op.bytesLess (S a).toList (S b).toList=ltB a b:=by rw [bytesLess_eq,S_list,S_list]
 rw [← e];rfl
theorem ge_str {E:Env} (a b:List UInt8):Runs E (Op.stringOp .geq (S a) (S b)) (.bool (!ltB a b)):=fun w _=>by
 have e:Op.bytesLess (S a).toList (S b).toList=ltB a b:=by rw [bytesLess_eq,S_list,S_list]
 rw [← e];rfl
theorem before_r (a b:Ky×Int):Pure Tryz.prog 83 [SV.c (.agg (sumK a)),SV.c (.agg (sumK b))] (.bool (ltK2 a.1 b.1)):=by
 refine sx_pure tt_ok mixed at83 _ _ rfl rfl fun w=>?_
 refine ⟨rfl,rfl,_,rfl,_,rfl,_,lt_str _ _,fun h1=>⟨_,rfl,_,rfl,fun h2=>⟨_,rfl,_,rfl,bv ?_,trivial⟩,fun h2=>⟨bv ?_,trivial⟩⟩,fun h1=>?_⟩
 ·have h1:ltB a.1.1 b.1.1=false:=h1
  have h2:a.1.1=b.1.1:=by have h2:=(S_beq _ _).symm.trans h2;simpa using h2
  unfold ltK2;rw [h1,h2,ltB_irr];rfl
 ·have h1:ltB a.1.1 b.1.1=false:=h1
  have h2:¬ a.1.1=b.1.1:=by have h2:=(S_beq _ _).symm.trans h2;simpa using h2
  unfold ltK2;rw [h1]
  by_cases c:ltB b.1.1 a.1.1=true
  ·rw [c];rfl
  ·exact absurd (ltB_tri _ _ h1 (by simpa using c)) h2
 ·have h1:ltB a.1.1 b.1.1=true:=h1
  refine ⟨bv ?_,trivial⟩
  unfold ltK2;rw [h1];rfl
def putS (k:Bs) (n:Int) (s:List (Bs×Int)×Bool) (x:Bs×Int):List (Bs×Int)×Bool :=
 let o:=if !s.2 && !ltB x.1 k then s.1++[(k,n)] else s.1
 (if x.1=k then o else o++[x],s.2 || !ltB x.1 k)
def putW (l:List (Bs×Int)) (k:Bs) (n:Int):List (Bs×Int)×Bool:=l.foldl (putS k n) ([],false)
def putR (l:List (Bs×Int)) (k:Bs) (n:Int):List (Bs×Int):=if (putW l k n).2 then (putW l k n).1 else (putW l k n).1++[(k,n)]
theorem putW_one {l:List (Bs×Int)} {k:Bs} {n:Int} {i:Nat} {x:Bs×Int} (h:l[i]? = some x):putW (l.take (i+1)) k n=putS k n (putW (l.take i) k n) x:=by
 unfold putW;rw [take_one h,List.foldl_append];rfl
theorem putS_len (k:Bs) (n:Int) (s:List (Bs×Int)×Bool) (x:Bs×Int):(putS k n s x).1.length+(if (putS k n s x).2 then 0 else 1)≤s.1.length+(if s.2 then 0 else 1)+1:=by
 unfold putS
 rcases s with ⟨o,d⟩
 cases d<;>by_cases h:ltB x.1 k=true<;>by_cases e:x.1=k<;>simp [h,e,ltB_irr]
theorem putW_len (l:List (Bs×Int)) (k:Bs) (n:Int):∀ i,(putW (l.take i) k n).1.length+(if (putW (l.take i) k n).2 then 0 else 1)≤i+1
 | 0=>by simp [putW]
 | i+1=>by
  rcases h:l[i]? with _ | x
  ·have h0:=putW_len l k n i
   rw [List.getElem?_eq_none_iff] at h
   rw [List.take_of_length_le h] at h0
   rw [List.take_of_length_le (by omega)]
   omega
  ·rw [putW_one h]
   have h0:=putW_len l k n i
   have h1:=putS_len k n (putW (l.take i) k n) x
   omega
theorem putR_len (l:List (Bs×Int)) (k:Bs) (n:Int):(putR l k n).length≤l.length+1:=by
 have h:=putW_len l k n l.length
 rw [List.take_length] at h
 unfold putR
 cases e:(putW l k n).2 with
 | true=>rw [if_pos rfl];rw [e] at h;simpa using h
 | false=>rw [if_neg (by simp)];rw [e] at h;simpa using h
theorem put_r {E:Env} (hE:E.P=Tryz.prog) {v:Value} {xs:List (Bs×Int)} {k:Bs} {n:Int} (hv:Lst E v 2 xs.length (cat sumA xs)) (hn:xs.length≤1000000000000):OwnC E 73 [SV.c v,SV.c (.string (S k)),SV.c (.int .i64 n)] [] (OwnL 9600 90 2 (putR xs k n).length (cat sumA (putR xs k n))):=by
 refine sx_ownC [] tt_ok mixed at73 E hE [SV.c v,SV.c (.string (S k)),SV.c (.int .i64 n)] [] _ rfl rfl fun w X β hT=>?_
 obtain ⟨a,cap,rfl,hc,h4⟩:=(hv.of_old hT).shape
 refine ⟨fun q f m=>∃ (i:Nat) (x:Value) (N:Nat) (o:List (Bs×Int)) (d:Bool),q=xs.length - i∧i≤xs.length∧putW (xs.take i) k n=(o,d)∧N=o.length∧N+(if d then 0 else 1)≤i+1∧IsL x N∧f=[(0,SV.c (.slice a xs.length cap)),(1,SV.c (.string (S k))),(2,SV.c (.int .i64 n)),(7,SV.c x),(8,SV.c (.bool d)),(9,SV.c (.int .i64 (i:Nat)))]∧m=[(9600,Blk.own x 90 2 N (cat sumA o))],xs.length,⟨_,_,⟨0,.slice none 0 0,0,[],false,by omega,by omega,rfl,rfl,by simp,.nil,rfl,rfl⟩,⟨rfl,rfl,rfl,rfl,rfl,rfl,trivial⟩,⟨.inr ⟨rfl,rfl,rfl⟩,trivial⟩,rfl⟩,?_⟩
 rintro q f m ⟨i,x,N,o,d,rfl,hi,hw,hN,hb,hx,rfl,rfl⟩
 refine ⟨_,fun w' _=>run_len_sl Tryz.underlying27 w',fun h=>?_,fun h=>?_⟩
 ·have h:i < xs.length:=by have:=of_decide_eq_true h;omega
  obtain ⟨b,of_,rfl,h5⟩:=h4 (by omega)
  obtain ⟨y,hy⟩:∃ y,xs[i]? = some y:=⟨_,List.getElem?_eq_getElem h⟩
  have hE':VOk (envC Tryz.prog tt Tryz.f73.ntmps w X (tiedK [] β)):=tt_ok
  have L1:=lst_at hE' h5 sumA_size hy (j:=0) (v:=.string (S y.1)) rfl (ty:=9) (ti:=ti9) rfl rfl (p:=of_+(i:Int).toNat*2+0) rfl
  have L2:=lst_elem hE' h5 sumA_size hy (ty:=90) (ti:=ti90) rfl rfl rfl (p:=of_+(i:Int).toNat*2) rfl
  have hw1:=putW_one (k:=k) (n:=n) hy
  rw [hw] at hw1
  have X1:(sumA y).extract 0 (0+1*2)=sumA y:=by simp [sumA]
  have X2:(sumA (k,n)).extract 0 (0+1*2)=sumA (k,n):=by simp [sumA]
  obtain ⟨q,hq,hqb⟩:=info_hol
  have hmax:N+2≤1000000000002:=by cases d<;>simp at hb<;>omega
  have ne1:∀ {b:Bool},(!((S y.1).toList == (S k).toList))=b→decide (y.1=k)=!b:=fun h=>by rw [← h,S_beq,Bool.not_not]
  refine ⟨fun hd=>⟨by omega,by omega,.inl ⟨_,L1,_,ge_str _ _,fun hg=>?_,fun hg=>?_⟩⟩,fun hd=>?_⟩
  ·have hd:d=false:=by simpa using hd
   subst hd
   have hg:ltB y.1 k=false:=by simpa using hg
   refine ⟨_,fill_hol (k,n) rfl,.inl ⟨by decide,by decide,_,fill_hol1 (k,n),rfl,by decide,9600,N,_,.inl rfl,by decide,(sumA_fits _).one,rfl,_,X2,?_⟩⟩
   refine ⟨by omega,by unfold maxLen;omega,⟨q,hq,by rw [hqb];omega⟩,trivial,fun g2 cap2=>?_⟩
   refine ⟨by omega,by omega,.inl ⟨_,L1,fun e1=>?_,fun e1=>?_⟩⟩
   ·have e1:¬ y.1=k:=by simpa using ne1 e1
    refine ⟨by omega,by omega,.inl ⟨_,L2,.inl ⟨by decide,by decide,_,fill_hol1 y,rfl,by decide,9600,(N+1),_,.inl rfl,by decide,(sumA_fits _).one,rfl,_,X1,?_⟩⟩⟩
    refine ⟨by omega,by unfold maxLen;omega,⟨q,hq,by rw [hqb];omega⟩,trivial,fun g3 cap3=>?_⟩
    have hw2:putW (xs.take (i+1)) k n=(o++[(k,n)]++[y],true):=by rw [hw1];unfold putS;simp [e1,hg]
    exact ⟨xs.length - (i+1),_,_,by omega,⟨i+1,_,(N+1+1),o++[(k,n)]++[y],true,rfl,by omega,hw2,by simp;omega,by simp at hb ⊢;omega,.some,rfl,rfl⟩,⟨rfl,rfl,rfl,rfl,rfl,c_int (i64_succ (by omega)),trivial⟩,⟨.inl (own_eq (by rw [cat_append,cat_append,cat_one,cat_one])),trivial⟩,rfl⟩
   ·have e1:y.1=k:=by simpa using ne1 e1
    have hw2:putW (xs.take (i+1)) k n=(o++[(k,n)],true):=by rw [hw1];unfold putS;simp [e1,e1 ▸ hg]
    exact ⟨xs.length - (i+1),_,_,by omega,⟨i+1,_,(N+1),o++[(k,n)],true,rfl,by omega,hw2,by simp;omega,by simp at hb ⊢;omega,.some,rfl,rfl⟩,⟨rfl,rfl,rfl,rfl,rfl,c_int (i64_succ (by omega)),trivial⟩,⟨.inl (own_eq (by rw [cat_append,cat_one])),trivial⟩,rfl⟩
  ·have hd:d=false:=by simpa using hd
   subst hd
   have hg:ltB y.1 k=true:=by simpa using hg
   refine ⟨by omega,by omega,.inl ⟨_,L1,fun e1=>?_,fun e1=>?_⟩⟩
   ·have e1:¬ y.1=k:=by simpa using ne1 e1
    refine ⟨by omega,by omega,.inl ⟨_,L2,.inl ⟨by decide,by decide,_,fill_hol1 y,rfl,by decide,9600,N,_,.inl rfl,by decide,(sumA_fits _).one,rfl,_,X1,?_⟩⟩⟩
    refine ⟨by omega,by unfold maxLen;omega,⟨q,hq,by rw [hqb];omega⟩,trivial,fun g3 cap3=>?_⟩
    have hw2:putW (xs.take (i+1)) k n=(o++[y],false):=by rw [hw1];unfold putS;simp [e1,hg]
    exact ⟨xs.length - (i+1),_,_,by omega,⟨i+1,_,(N+1),o++[y],false,rfl,by omega,hw2,by simp;omega,by simp at hb ⊢;omega,.some,rfl,rfl⟩,⟨rfl,rfl,rfl,rfl,rfl,c_int (i64_succ (by omega)),trivial⟩,⟨.inl (own_eq (by rw [cat_append,cat_one])),trivial⟩,rfl⟩
   ·have e1:y.1=k:=by simpa using ne1 e1
    rw [e1,ltB_irr] at hg;cases hg
  ·have hd:d=true:=by simpa using hd
   subst hd
   refine ⟨nofun,fun _=>?_⟩
   refine ⟨by omega,by omega,.inl ⟨_,L1,fun e1=>?_,fun e1=>?_⟩⟩
   ·have e1:¬ y.1=k:=by simpa using ne1 e1
    refine ⟨by omega,by omega,.inl ⟨_,L2,.inl ⟨by decide,by decide,_,fill_hol1 y,rfl,by decide,9600,N,_,.inl rfl,by decide,(sumA_fits _).one,rfl,_,X1,?_⟩⟩⟩
    refine ⟨by omega,by unfold maxLen;omega,⟨q,hq,by rw [hqb];omega⟩,trivial,fun g3 cap3=>?_⟩
    have hw2:putW (xs.take (i+1)) k n=(o++[y],true):=by rw [hw1];unfold putS;simp [e1,Bool.true_or]
    exact ⟨xs.length - (i+1),_,_,by omega,⟨i+1,_,(N+1),o++[y],true,rfl,by omega,hw2,by simp;omega,by simp at hb ⊢;omega,.some,rfl,rfl⟩,⟨rfl,rfl,rfl,rfl,rfl,c_int (i64_succ (by omega)),trivial⟩,⟨.inl (own_eq (by rw [cat_append,cat_one])),trivial⟩,rfl⟩
   ·have e1:y.1=k:=by simpa using ne1 e1
    have hw2:putW (xs.take (i+1)) k n=(o,true):=by rw [hw1];unfold putS;simp [e1,Bool.true_or]
    exact ⟨xs.length - (i+1),_,_,by omega,⟨i+1,_,N,o,true,rfl,by omega,hw2,hN,by simp at hb ⊢;omega,hx,rfl,rfl⟩,⟨rfl,rfl,rfl,rfl,rfl,c_int (i64_succ (by omega)),trivial⟩,⟨.inl rfl,trivial⟩,rfl⟩
 ·have h:i=xs.length:=by have:=of_decide_eq_false h;omega
  subst h
  rw [List.take_length] at hw
  obtain ⟨q,hq,hqb⟩:=info_hol
  have X2:(sumA (k,n)).extract 0 (0+1*2)=sumA (k,n):=by simp [sumA]
  refine ⟨fun hd=>?_,fun hd=>?_⟩
  ·have hd:d=false:=by simpa using hd
   subst hd
   have e:putR xs k n=o++[(k,n)]:=by unfold putR;rw [hw];rfl
   have hb:N+1≤xs.length+1:=by simpa using hb
   rw [e]
   refine ⟨_,fill_hol (k,n) rfl,.inl ⟨by decide,by decide,_,fill_hol1 (k,n),rfl,by decide,9600,N,_,.inl rfl,by decide,(sumA_fits _).one,rfl,_,X2,?_⟩⟩
   refine ⟨by omega,by unfold maxLen;omega,⟨q,hq,by rw [hqb];omega⟩,trivial,fun g2 cap2=>?_⟩
   have en:(o++[(k,n)]).length=N+1:=by rw [hN];simp
   have eA:cat sumA o++sumA (k,n)=cat sumA (o++[(k,n)]):=by rw [cat_append,cat_one]
   rw [en,← eA]
   exact ⟨[(9600,Blk.own _ 90 2 (N+1) (cat sumA o++sumA (k,n)))],[],⟨.some,rfl⟩,⟨.inl rfl,trivial⟩,rfl⟩
  ·have hd:d=true:=by simpa using hd
   subst hd
   have e:putR xs k n=o:=by unfold putR;rw [hw];rfl
   rw [e,← hN]
   exact ⟨[(9600,Blk.own x 90 2 N (cat sumA o))],[],⟨hx,rfl⟩,⟨.inl rfl,trivial⟩,rfl⟩
end Go.Proofs.YtkaakbpeegpnkaaGreatDoor
