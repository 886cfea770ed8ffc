/- sums by texts: an answer, an addition. sums by balances: an addition to cash. sums by balances: an addition to what is pending. the ledger: holdings change, entries. the ledger: actions. the ledger: balances. entries: which are valid; no condition. -/
import Derived.Test.YtkaakbpeegpnkaaGreatDoorP26
set_option maxRecDepth 100000
set_option maxHeartbeats 4000000
namespace Go.Proofs.YtkaakbpeegpnkaaGreatDoor
open Go Go.RowKit Go.SX
section
variable {κ:Type} [DecidableEq κ] {lt:κ→κ→Bool}
theorem tw_mem {α:Type} {p:α→Bool} {x:α}:∀ {l:List α},x∈l.takeWhile p→p x=true
 | [],h=>by cases h
 | y :: l,h=>by
  rw [List.takeWhile_cons] at h
  split at h
  ·rename_i hy
   rcases List.mem_cons.1 h with rfl | h
   ·exact hy
   ·exact tw_mem h
  ·cases h
theorem at_key (O:StrictO lt) {H:List (κ×Int)} (hs:SrtA lt H) (k:κ):(hasA H k=true→∃ p m s,H=p++(k,m) :: s∧posA lt H k=p.length∧getA H k=m∧(∀ x∈p,lt x.1 k=true)∧(∀ x∈s,lt k x.1=true))∧(hasA H k=false→∃ p s,H=p++s∧posA lt H k=p.length∧getA H k=0∧(∀ x∈p,lt x.1 k=true)∧(∀ x∈s,lt k x.1=true)):=by
 have hsplit:=List.takeWhile_append_dropWhile (p:=fun x:κ×Int=>lt x.1 k) (l:=H)
 have h1:∀ x∈H.takeWhile (fun x=>lt x.1 k),lt x.1 k=true:=fun x hx=>tw_mem (p:=fun x:κ×Int=>lt x.1 k) hx
 have h0:∀ y t,H.dropWhile (fun x=>lt x.1 k)=y :: t→lt y.1 k=false:=fun y t e=>by
  have:=List.head?_dropWhile_not (p:=fun x:κ×Int=>lt x.1 k) (l:=H)
  rw [e] at this
  simpa using this
 generalize H.takeWhile (fun x=>lt x.1 k)=p at *
 generalize H.dropWhile (fun x=>lt x.1 k)=s at *
 subst hsplit
 have hs':=hs
 unfold SrtA at hs'
 rw [List.pairwise_append] at hs'
 have h2:∀ x∈s,lt x.1 k=false:=fun x hx=>by
  cases s with
  | nil=>cases hx
  | cons y t =>
   have hy:=h0 y t rfl
   rcases List.mem_cons.1 hx with rfl | hx
   ·exact hy
   ·cases e:lt x.1 k with
    | false=>rfl
    | true=>rw [O.tr _ _ _ ((List.pairwise_cons.1 hs'.2.1).1 x hx) e] at hy;cases hy
 have hp:=posA_at h1 h2
 have hh:=hasA_at (k:=k) O hs h1 h2
 cases s with
 | nil =>
  refine ⟨fun h=>?_,fun _=>⟨p,[],rfl,hp,?_,h1,fun x hx=>by cases hx⟩⟩
  ·rw [hh] at h;cases h
  ·rw [getA_skip fun x hx=>O.ne (h1 x hx)];rfl
 | cons y t =>
  obtain ⟨a,m⟩:=y
  have hyt:=(List.pairwise_cons.1 hs'.2.1).1
  refine ⟨fun h=>?_,fun h=>?_⟩
  ·rw [hh] at h
   have e:a=k:=of_decide_eq_true h
   subst e
   exact ⟨p,m,t,rfl,hp,by rw [getA_skip fun x hx=>O.ne (h1 x hx),getA_hit],h1,hyt⟩
  ·rw [hh] at h
   have e:a≠k:=of_decide_eq_false h
   have hka:lt k a=true:=by
    cases q:lt k a with
    | true=>rfl
    | false=>exact absurd (O.tri a k (h2 (a,m) (by simp)) q) e
   have h3:∀ x∈(a,m) :: t,lt k x.1=true:=fun x hx=>by
    rcases List.mem_cons.1 hx with rfl | hx
    ·exact hka
    ·exact O.tr _ _ _ hka (hyt x hx)
   exact ⟨p,(a,m) :: t,rfl,hp,by rw [getA_skip fun x hx=>O.ne (h1 x hx)];exact getA_none fun x hx=>(O.ne (h3 x hx)).symm,h1,h3⟩
theorem set_at (O:StrictO lt) {H p s:List (κ×Int)} {k:κ} (hs:SrtA lt H) (hz:NzA H) (hH:H=p++s∨∃ m,H=p++(k,m) :: s) (h1:∀ x∈p,lt x.1 k=true) (h2:∀ x∈s,lt k x.1=true) (v:Int):setA lt H k v=if v=0 then p++s else p++(k,v) :: s:=by
 have hps:SrtA lt (p++s):=by
  rcases hH with rfl | ⟨m,rfl⟩
  ·exact hs
  ·exact hs.parts.2.2
 have hg:∀ k',k'≠k→getA H k'=getA (p++s) k':=fun k' hk=>by
  rcases hH with rfl | ⟨m,rfl⟩
  ·rfl
  ·exact getA_mid hk
 have hn:NzA (p++s):=fun x hx=>by
  rcases hH with rfl | ⟨m,rfl⟩
  ·exact hz x hx
  ·rcases List.mem_append.1 hx with h | h
   ·exact hz x (by simp [h])
   ·exact hz x (by simp [h])
 split
 ·rename_i e;subst e
  exact (setA_eq O hs hz (Upd.gone O h1 h2 hps hg) hn).symm
 ·rename_i e
  refine (setA_eq O hs hz (Upd.mid O h1 h2 hps hg) fun x hx=>?_).symm
  rcases List.mem_append.1 hx with h | h
  ·exact hn x (by simp [h])
  ·rcases List.mem_cons.1 h with rfl | h
   ·exact e
   ·exact hn x (by simp [h])
end
theorem offS (j:Nat):offAt 0 ((j:Nat):Int) ti120.size=j*2:=by
 show offAt 0 ((j:Nat):Int) 2=j*2
 simp [offAt]
theorem sumA_n {H p s:List (Bs×Int)} {k:Bs} {m:Int} (h:H=p++(k,m) :: s):(cat sumA H)[p.length*2+1]? = some (.int .i64 m):=by
 have g1:H[p.length]? = some (k,m):=by rw [h];exact at_mid _ _ _
 rw [cat_get sumA_size H p.length (k,m) 1 g1 (by decide)]
 rfl
theorem sumA_set {p s:List (Bs×Int)} {k:Bs} {m v:Int}:(cat sumA (p++(k,m) :: s)).setIfInBounds (p.length*2+1) (.int .i64 v)=cat sumA (p++(k,v) :: s):=by
 have h1:=cat_set sumA_size (l:=p++(k,m) :: s) (j:=p.length) (by simp) (k,v)
 rw [set_mid] at h1
 rw [← h1]
 apply Array.ext_getElem?
 intro j
 have hsz:(cat sumA (p++(k,m) :: s)).size=(p++(k,m) :: s).length*2:=Go.SX.cat_size sumA_size _
 have hl:(p++(k,m) :: s).length=p.length+(s.length+1):=by simp
 rw [splice_get,Array.getElem?_setIfInBounds]
 have hlen:(sumA (k,v)).toList.length=2:=rfl
 rw [hlen]
 by_cases c:p.length*2+1=j
 ·subst c
  rw [if_pos rfl,if_pos (by rw [hsz];omega),if_neg (by omega),if_pos (by rw [hsz];omega)]
  rw [show p.length*2+1 - p.length*2=1 by omega];rfl
 ·rw [if_neg c]
  by_cases c2:j=p.length*2
  ·subst c2
   rw [if_neg (by omega),if_pos (by rw [hsz];omega),Nat.sub_self]
   have g1:(p++(k,m) :: s)[p.length]? = some (k,m):=at_mid _ _ _
   have:=cat_get sumA_size _ p.length (k,m) 0 g1 (by decide)
   rw [Nat.add_zero] at this
   rw [this];rfl
  ·rw [if_pos (by omega)]
theorem get_s {E:Env} (hE:E.P=Tryz.prog) {vh vc vp:Value} {day:Int} {H:List (Bs×Int)} {n:Nat} (hv:IsL vh n) (hn:n=H.length) (hn2:H.length≤1000000000000) (hs:SrtA ltB H) (k:Bs):OwnC E 63 [SV.ptr 9500 0,SV.c (.string (S k))] [(9501,Blk.own vh 120 2 n (cat sumA H)),(9500,Blk.row 73 7 (LdA vh vc vp day))] (fun r U=>r=.int .i64 (getA H k)∧U=[(9501,Blk.own vh 120 2 n (cat sumA H)),(9500,Blk.row 73 7 (LdA vh vc vp day))]):=by
 refine sx_ownC [] tt_ok mixed at63 E hE [SV.ptr 9500 0,SV.c (.string (S k))] [(9501,Blk.own vh 120 2 n (cat sumA H)),(9500,Blk.row 73 7 (LdA vh vc vp day))] _ rfl rfl fun w X β hT=>?_
 have PO:=place_o (E:=(envC Tryz.prog tt Tryz.f63.ntmps w X (tiedK [(9501,Blk.own vh 120 2 n (cat sumA H)),(9500,Blk.row 73 7 (LdA vh vc vp day))] β)).toEnv) rfl (vh:=vh) (vc:=vc) (vp:=vp) (day:=day) hn hn2 hs k
 refine .inr (.inr (.inl ⟨[],[_,_],[_,_],_,[_,_],PO,rfl,⟨.inl rfl,rfl,trivial⟩,rfl,rfl,fun c=>?_,fun c=>?_⟩))
 ·have c:hasA H k=true:=c
  obtain ⟨p,m,s,hH,hp,hg,-,-⟩:=(at_key ltB_ok hs k).1 c
  have hlH:=congrArg List.length hH
  simp only [List.length_append,List.length_cons] at hlH
  rcases hv with ⟨rfl,h0⟩ | ⟨g0,c0,rfl⟩
  ·omega
  have L1:=sumA_n hH
  rw [hp]
  refine ⟨_,rfl,by omega,by omega,.inr ⟨9501,g0,_,n,_,_,_,_,rfl,rfl,_,(by rw [offS];exact L1),?_⟩⟩
  exact ⟨[_,_],[],⟨by rw [hg];rfl,rfl⟩,⟨.inl rfl,rfl,trivial⟩,rfl⟩
 ·have c:hasA H k=false:=c
  obtain ⟨p,s,hH,hp,hg,-,-⟩:=(at_key ltB_ok hs k).2 c
  exact ⟨[_,_],[],⟨by rw [hg];rfl,rfl⟩,⟨.inl rfl,rfl,trivial⟩,rfl⟩
theorem fill_sum0 (k:Bs) {pl:List (Nat×Nat)} (hpl:pl=[(0,1),(1,1)]):Instr.fill (fun k=>pl[k]?) ti120.zero [(0,.string (S k))]=some (sumA (k,0)):=by
 subst hpl;rfl
theorem fill_sum1 (x:Bs×Int):Instr.fill (fun k=>some (k*ti120.size,ti120.size)) (madeCells ti120.zero (1*ti120.size)) [(0,.agg (sumA x))]=some (sumA x):=by kernel_rfl
theorem LdA_set1 (vh vc vp u:Value) (day:Int):(LdA vh vc vp day).setIfInBounds 1 u=LdA u vc vp day:=rfl
def AddQ (H:List (Bs×Int)) (vc vp:Value) (day:Int) (r:Value) (U:MemL):Prop:=∃ vh n,r=.tuple #[]∧IsL vh n∧n=H.length∧U=[(9501,Blk.own vh 120 2 n (cat sumA H)),(9500,Blk.row 73 7 (LdA vh vc vp day))]
theorem isL_one {v:Value} {n:Nat} (h:IsL v n):v.oneCell'=true:=by
 rcases h with ⟨rfl,-⟩ | ⟨g,c,rfl⟩<;>rfl
theorem add_s {E:Env} (hE:E.P=Tryz.prog) {vh vc vp:Value} {day:Int} {H:List (Bs×Int)} {n:Nat} (hv:IsL vh n) (hn:n=H.length) (hn2:H.length≤100000000000) (hs:SrtA ltB H) (hz:NzA H) (k:Bs) (d:Int):OwnC E 65 [SV.ptr 9500 0,SV.c (.string (S k)),SV.c (.int .i64 d)] [(9501,Blk.own vh 120 2 n (cat sumA H)),(9500,Blk.row 73 7 (LdA vh vc vp day))] (AddQ (setA ltB H k (w64 (getA H k+d))) vc vp day):=by
 refine sx_ownC [3] tt_ok mixed at65 E hE [SV.ptr 9500 0,SV.c (.string (S k)),SV.c (.int .i64 d)] [(9501,Blk.own vh 120 2 n (cat sumA H)),(9500,Blk.row 73 7 (LdA vh vc vp day))] _ rfl rfl fun w X β hT=>?_
 have hE':(envC Tryz.prog tt Tryz.f65.ntmps w X (tiedK [(9501,Blk.own vh 120 2 n (cat sumA H)),(9500,Blk.row 73 7 (LdA vh vc vp day))] β)).toEnv.P=Tryz.prog:=rfl
 have PO:=place_o hE' (vh:=vh) (vc:=vc) (vp:=vp) (day:=day) hn (by omega) hs k
 refine .inr (.inr (.inl ⟨[],[_,_],[_,_],_,[_,_],PO,rfl,⟨.inl rfl,rfl,trivial⟩,rfl,rfl,?_⟩))
 refine ⟨fun f mm=>∃ (v1:Value) (n1:Nat) (p s:List (Bs×Int)) (m:Int),IsL v1 n1∧n1=p.length+(s.length+1)∧n1≤H.length+1∧m=getA H k∧(∀ v,setA ltB H k v=if v=0 then p++s else p++(k,v) :: s)∧f=[(0,SV.ptr 9500 0),(2,SV.c (.int .i64 d)),(6,SV.c (.int .i64 (p.length:Nat)))]∧mm=[(9501,Blk.own v1 120 2 n1 (cat sumA (p++(k,m) :: s))),(9500,Blk.row 73 7 (LdA v1 vc vp day))],⟨fun c=>?_,fun c=>?_⟩,?_⟩
 ·have c:(!hasA H k)=true:=c
  have c:hasA H k=false:=by simpa using c
  obtain ⟨p,s,rfl,hp,hg,h1,h2⟩:=(at_key ltB_ok hs k).2 c
  have SA:=set_at ltB_ok hs hz (.inl rfl) h1 h2
  rw [List.length_append] at hn2
  have I1:=insert_s hE' (v:=vh) (p:=p) (s:=s) hn (by rw [hn,List.length_append];omega) (k,0) (i:=(posA ltB (p++s) k:Nat)) (by rw [hp]) (m:=2)
  have e9:=isL_one hv
  refine ⟨_,rfl,_,fill_sum0 k rfl,.inl ⟨by decide,by decide,_,fill_sum1 (k,0),rfl,?_⟩⟩
  refine .inr (.inr (.inr ⟨[(9503,24)],[9501],[_,_,_],[_,_],_,I1,rfl,⟨.inl rfl,rfl,trivial⟩,rfl,trivial,?_⟩))
  rintro v1 U ⟨hv1,rfl⟩
  refine ⟨rfl,by decide,isL_one hv1,_,LdA_set1 vh vc vp v1 day,?_⟩
  exact ⟨_,_,⟨v1,n+1,p,s,0,hv1,by rw [hn,List.length_append];omega,by rw [hn];exact Nat.le_refl _,hg.symm,SA,rfl,rfl⟩,⟨rfl,rfl,c_int (by rw [hp]),trivial⟩,⟨.inl rfl,rfl,trivial⟩,rfl⟩
 ·have c:(!hasA H k)=false:=c
  have c:hasA H k=true:=by simpa using c
  obtain ⟨p,m,s,rfl,hp,hg,h1,h2⟩:=(at_key ltB_ok hs k).1 c
  have SA:=set_at ltB_ok hs hz (.inr ⟨m,rfl⟩) h1 h2
  exact ⟨_,_,⟨vh,n,p,s,m,hv,by rw [hn,List.length_append,List.length_cons],by omega,hg.symm,SA,rfl,rfl⟩,⟨rfl,rfl,c_int (by rw [hp]),trivial⟩,⟨.inl rfl,rfl,trivial⟩,rfl⟩
 clear PO hv
 rintro f1 m1 ⟨v1,n1,p,s,m,hv1,hn1,hn1H,hm,SA,rfl,rfl⟩
 rcases hv1 with ⟨rfl,h0⟩ | ⟨g0,c0,rfl⟩
 ·omega
 have L1:=sumA_n (H:=p++(k,m) :: s) rfl
 have S1:=sumA_set (p:=p) (s:=s) (k:=k) (m:=m) (v:=w64 (m+d))
 have L2:=sumA_n (H:=p++(k,w64 (m+d)) :: s) rfl
 have hsz:(cat sumA (p++(k,m) :: s)).size=n1*2:=by rw [Go.SX.cat_size sumA_size,List.length_append,List.length_cons,hn1]
 rw [← hm,SA]
 refine ⟨_,rfl,by omega,by omega,.inr ⟨9501,g0,_,n1,_,_,_,_,rfl,rfl,.int .i64 m,(by rw [offS];exact L1),?_⟩⟩
 refine ⟨by omega,by omega,⟨9501,g0,_,n1,_,_,_,_,rfl,rfl,(by rw [offS,hsz];omega),rfl,cat sumA (p++(k,w64 (m+d)) :: s),(by rw [offS];exact S1),?_⟩⟩
 refine ⟨_,rfl,by omega,by omega,.inr ⟨9501,g0,_,n1,_,_,_,_,rfl,rfl,.int .i64 (w64 (m+d)),(by rw [offS];exact L2),fun c=>?_,fun c=>?_⟩⟩
 ·have c:(w64 (m+d) == 0)=true:=c
  have c:w64 (m+d)=0:=by simpa using c
  rw [if_pos c]
  have DO:=delete_s hE' (v:=.slice (some ⟨g0,0,none⟩) n1 c0) (p:=p) (s:=s) (x:=(k,w64 (m+d))) (n:=n1) (by rw [List.length_append,List.length_cons];exact hn1) (by omega) (i:=(p.length:Nat)) (j:=IntKind.i64.wrap ((p.length:Nat)+1)) rfl (i64_succ (by omega))
  refine ⟨_,rfl,.inr (.inr (.inr ⟨[],[9501],[_,_,_],[_],_,DO,rfl,⟨.inl rfl,trivial⟩,rfl,trivial,?_⟩))⟩
  rintro v2 U ⟨hv2,rfl⟩
  refine ⟨rfl,by decide,isL_one hv2,_,LdA_set1 _ vc vp v2 day,?_⟩
  exact ⟨[_,_],[],⟨v2,_,rfl,hv2,rfl,rfl⟩,⟨.inl rfl,rfl,trivial⟩,rfl⟩
 ·have c:(w64 (m+d) == 0)=false:=c
  have c:w64 (m+d)≠0:=by simpa using c
  rw [if_neg c]
  exact ⟨[_,_],[],⟨_,n1,rfl,.inr ⟨g0,c0,rfl⟩,by rw [List.length_append,List.length_cons];exact hn1,rfl⟩,⟨.inl rfl,rfl,trivial⟩,rfl⟩
end Go.Proofs.YtkaakbpeegpnkaaGreatDoor
namespace Go.Proofs.YtkaakbpeegpnkaaGreatDoor
open Go Go.RowKit Go.SX
theorem offK (j:Nat):offAt 0 ((j:Nat):Int) ti163.size=j*3:=by
 show offAt 0 ((j:Nat):Int) 3=j*3
 simp [offAt]
theorem sumK_n {H p s:List (Ky×Int)} {k:Ky} {m:Int} (h:H=p++(k,m) :: s):(cat sumK H)[p.length*3+2]? = some (.int .i64 m):=by
 have g1:H[p.length]? = some (k,m):=by rw [h];exact at_mid _ _ _
 rw [cat_get sumK_size H p.length (k,m) 2 g1 (by decide)]
 rfl
theorem sumK_set {p s:List (Ky×Int)} {k:Ky} {m v:Int}:(cat sumK (p++(k,m) :: s)).setIfInBounds (p.length*3+2) (.int .i64 v)=cat sumK (p++(k,v) :: s):=by
 have h1:=cat_set sumK_size (l:=p++(k,m) :: s) (j:=p.length) (by simp) (k,v)
 rw [set_mid] at h1
 rw [← h1]
 apply Array.ext_getElem?
 intro j
 have hsz:(cat sumK (p++(k,m) :: s)).size=(p++(k,m) :: s).length*3:=Go.SX.cat_size sumK_size _
 have hl:(p++(k,m) :: s).length=p.length+(s.length+1):=by simp
 rw [splice_get,Array.getElem?_setIfInBounds]
 have hlen:(sumK (k,v)).toList.length=3:=rfl
 rw [hlen]
 have g1:(p++(k,m) :: s)[p.length]? = some (k,m):=at_mid _ _ _
 by_cases c:p.length*3+2=j
 ·subst c
  rw [if_pos rfl,if_pos (by rw [hsz];omega),if_neg (by omega),if_pos (by rw [hsz];omega)]
  rw [show p.length*3+2 - p.length*3=2 by omega];rfl
 ·rw [if_neg c]
  by_cases c2:j=p.length*3
  ·subst c2
   rw [if_neg (by omega),if_pos (by rw [hsz];omega),Nat.sub_self]
   have:=cat_get sumK_size _ p.length (k,m) 0 g1 (by decide)
   rw [Nat.add_zero] at this
   rw [this];rfl
  ·by_cases c3:j=p.length*3+1
   ·subst c3
    rw [if_neg (by omega),if_pos (by rw [hsz];omega),show p.length*3+1 - p.length*3=1 by omega]
    have:=cat_get sumK_size _ p.length (k,m) 1 g1 (by decide)
    rw [this];rfl
   ·rw [if_pos (by omega)]
theorem fillm0_c (k:Ky) {pl:List (Nat×Nat)} (hpl:pl=[(0,2),(2,1)]):Instr.fill (fun k=>pl[k]?) ti163.zero [(0,.agg (KyA k))]=some (sumK (k,0)):=by
 subst hpl;rfl
theorem fillm1_c (x:Ky×Int):Instr.fill (fun k=>some (k*ti163.size,ti163.size)) (madeCells ti163.zero (1*ti163.size)) [(0,.agg (sumK x))]=some (sumK x):=by kernel_rfl
theorem LdA_set3 (vh vc vp u:Value) (day:Int):(LdA vh vc vp day).setIfInBounds 3 u=LdA vh u vp day:=rfl
def AddQc (H:List (Ky×Int)) (vh vp:Value) (day:Int) (r:Value) (U:MemL):Prop:=∃ vc n,r=.tuple #[]∧IsL vc n∧n=H.length∧U=[(9501,Blk.own vc 163 3 n (cat sumK H)),(9500,Blk.row 73 7 (LdA vh vc vp day))]
theorem add_c {E:Env} (hE:E.P=Tryz.prog) {vh vc vp:Value} {day:Int} {H:List (Ky×Int)} {n:Nat} (hv:IsL vc n) (hn:n=H.length) (hn2:H.length≤100000000000) (hs:SrtA ltK2 H) (hz:NzA H) (k:Ky) (d:Int):OwnC E 66 [SV.ptr 9500 2,SV.c (.agg (KyA k)),SV.c (.int .i64 d)] [(9501,Blk.own vc 163 3 n (cat sumK H)),(9500,Blk.row 73 7 (LdA vh vc vp day))] (AddQc (setA ltK2 H k (w64 (getA H k+d))) vh vp day):=by
 refine sx_ownC [4] tt_ok mixed at66 E hE [SV.ptr 9500 2,SV.c (.agg (KyA k)),SV.c (.int .i64 d)] [(9501,Blk.own vc 163 3 n (cat sumK H)),(9500,Blk.row 73 7 (LdA vh vc vp day))] _ rfl rfl fun w X β hT=>?_
 have hE':(envC Tryz.prog tt Tryz.f66.ntmps w X (tiedK [(9501,Blk.own vc 163 3 n (cat sumK H)),(9500,Blk.row 73 7 (LdA vh vc vp day))] β)).toEnv.P=Tryz.prog:=rfl
 have PO:=place_om hE' (vh:=vh) (vc:=vc) (vp:=vp) (day:=day) (off:=2) rfl (vl:=vc) rfl hn (by omega) hs k
 refine ⟨rfl,?_⟩
 refine .inr (.inr (.inl ⟨[],[_,_],[_,_],_,[_,_],PO,rfl,⟨.inl rfl,rfl,trivial⟩,rfl,rfl,?_⟩))
 refine ⟨fun f mm=>∃ (v1:Value) (n1:Nat) (p s:List (Ky×Int)) (m:Int),IsL v1 n1∧n1=p.length+(s.length+1)∧n1≤H.length+1∧m=getA H k∧(∀ v,setA ltK2 H k v=if v=0 then p++s else p++(k,v) :: s)∧f=[(0,SV.ptr 9500 2),(2,SV.c (.int .i64 d)),(6,SV.c (.int .i64 (p.length:Nat)))]∧mm=[(9501,Blk.own v1 163 3 n1 (cat sumK (p++(k,m) :: s))),(9500,Blk.row 73 7 (LdA vh v1 vp day))],⟨fun c=>?_,fun c=>?_⟩,?_⟩
 ·have c:(!hasA H k)=true:=c
  have c:hasA H k=false:=by simpa using c
  obtain ⟨p,s,rfl,hp,hg,h1,h2⟩:=(at_key ltK2_ok hs k).2 c
  have SA:=set_at ltK2_ok hs hz (.inl rfl) h1 h2
  rw [List.length_append] at hn2
  have I1:=insert_m hE' (v:=vc) (p:=p) (s:=s) hn (by rw [hn,List.length_append];omega) (k,0) (i:=(posA ltK2 (p++s) k:Nat)) (by rw [hp]) (m:=3)
  have e9:=isL_one hv
  refine ⟨_,rfl,_,fillm0_c k rfl,.inl ⟨by decide,by decide,_,fillm1_c (k,0),rfl,?_⟩⟩
  refine .inr (.inr (.inr ⟨[(9503,24)],[9501],[_,_,_],[_,_],_,I1,rfl,⟨.inl rfl,rfl,trivial⟩,by kernel_rfl,(by change _=true;kernel_rfl),?_⟩))
  rintro v1 U ⟨hv1,rfl⟩
  refine ⟨by kernel_rfl,by decide,isL_one hv1,_,LdA_set3 vh vc vp v1 day,by kernel_rfl,?_⟩
  exact ⟨_,_,⟨v1,n+1,p,s,0,hv1,by rw [hn,List.length_append];omega,by rw [hn];exact Nat.le_refl _,hg.symm,SA,rfl,rfl⟩,⟨rfl,rfl,c_int (by rw [hp]),trivial⟩,⟨.inl rfl,rfl,trivial⟩,rfl⟩
 ·have c:(!hasA H k)=false:=c
  have c:hasA H k=true:=by simpa using c
  obtain ⟨p,m,s,rfl,hp,hg,h1,h2⟩:=(at_key ltK2_ok hs k).1 c
  have SA:=set_at ltK2_ok hs hz (.inr ⟨m,rfl⟩) h1 h2
  exact ⟨_,_,⟨vc,n,p,s,m,hv,by rw [hn,List.length_append,List.length_cons],by omega,hg.symm,SA,rfl,rfl⟩,⟨rfl,rfl,c_int (by rw [hp]),trivial⟩,⟨.inl rfl,rfl,trivial⟩,rfl⟩
 clear PO hv
 rintro f1 m1 ⟨v1,n1,p,s,m,hv1,hn1,hn1H,hm,SA,rfl,rfl⟩
 rcases hv1 with ⟨rfl,h0⟩ | ⟨g0,c0,rfl⟩
 ·omega
 have L1:=sumK_n (H:=p++(k,m) :: s) rfl
 have S1:=sumK_set (p:=p) (s:=s) (k:=k) (m:=m) (v:=w64 (m+d))
 have L2:=sumK_n (H:=p++(k,w64 (m+d)) :: s) rfl
 have hsz:(cat sumK (p++(k,m) :: s)).size=n1*3:=by rw [Go.SX.cat_size sumK_size,List.length_append,List.length_cons,hn1]
 rw [← hm,SA]
 refine ⟨_,rfl,by omega,by omega,.inr ⟨9501,g0,_,n1,_,_,_,_,rfl,rfl,.int .i64 m,(by rw [offK];exact L1),?_⟩⟩
 refine ⟨by omega,by omega,⟨9501,g0,_,n1,_,_,_,_,rfl,rfl,(by rw [offK,hsz];omega),rfl,cat sumK (p++(k,w64 (m+d)) :: s),(by rw [offK];exact S1),?_⟩⟩
 refine ⟨_,rfl,by omega,by omega,.inr ⟨9501,g0,_,n1,_,_,_,_,rfl,rfl,.int .i64 (w64 (m+d)),(by rw [offK];exact L2),fun c=>?_,fun c=>?_⟩⟩
 ·have c:(w64 (m+d) == 0)=true:=c
  have c:w64 (m+d)=0:=by simpa using c
  rw [if_pos c]
  have DO:=delete_m hE' (v:=.slice (some ⟨g0,0,none⟩) n1 c0) (p:=p) (s:=s) (x:=(k,w64 (m+d))) (n:=n1) (by rw [List.length_append,List.length_cons];exact hn1) (by omega) (i:=(p.length:Nat)) (j:=IntKind.i64.wrap ((p.length:Nat)+1)) rfl (i64_succ (by omega))
  refine ⟨_,rfl,.inr (.inr (.inr ⟨[],[9501],[_,_,_],[_],_,DO,rfl,⟨.inl rfl,trivial⟩,rfl,trivial,?_⟩))⟩
  rintro v2 U ⟨hv2,rfl⟩
  refine ⟨rfl,by decide,isL_one hv2,_,LdA_set3 vh _ vp v2 day,?_⟩
  exact ⟨[_,_],[],⟨v2,_,rfl,hv2,rfl,rfl⟩,⟨.inl rfl,rfl,trivial⟩,rfl⟩
 ·have c:(w64 (m+d) == 0)=false:=c
  have c:w64 (m+d)≠0:=by simpa using c
  rw [if_neg c]
  exact ⟨[_,_],[],⟨_,n1,rfl,.inr ⟨g0,c0,rfl⟩,by rw [List.length_append,List.length_cons];exact hn1,rfl⟩,⟨.inl rfl,rfl,trivial⟩,rfl⟩
theorem fillm0_p (k:Ky) {pl:List (Nat×Nat)} (hpl:pl=[(0,2),(2,1)]):Instr.fill (fun k=>pl[k]?) ti163.zero [(0,.agg (KyA k))]=some (sumK (k,0)):=by
 subst hpl;rfl
theorem fillm1_p (x:Ky×Int):Instr.fill (fun k=>some (k*ti163.size,ti163.size)) (madeCells ti163.zero (1*ti163.size)) [(0,.agg (sumK x))]=some (sumK x):=by kernel_rfl
theorem LdA_set5 (vh vc vp u:Value) (day:Int):(LdA vh vc vp day).setIfInBounds 5 u=LdA vh vc u day:=rfl
def AddQp (H:List (Ky×Int)) (vh vc:Value) (day:Int) (r:Value) (U:MemL):Prop:=∃ vp n,r=.tuple #[]∧IsL vp n∧n=H.length∧U=[(9501,Blk.own vp 163 3 n (cat sumK H)),(9500,Blk.row 73 7 (LdA vh vc vp day))]
theorem add_p {E:Env} (hE:E.P=Tryz.prog) {vh vc vp:Value} {day:Int} {H:List (Ky×Int)} {n:Nat} (hv:IsL vp n) (hn:n=H.length) (hn2:H.length≤100000000000) (hs:SrtA ltK2 H) (hz:NzA H) (k:Ky) (d:Int):OwnC E 66 [SV.ptr 9500 4,SV.c (.agg (KyA k)),SV.c (.int .i64 d)] [(9501,Blk.own vp 163 3 n (cat sumK H)),(9500,Blk.row 73 7 (LdA vh vc vp day))] (AddQp (setA ltK2 H k (w64 (getA H k+d))) vh vc day):=by
 refine sx_ownC [4] tt_ok mixed at66 E hE [SV.ptr 9500 4,SV.c (.agg (KyA k)),SV.c (.int .i64 d)] [(9501,Blk.own vp 163 3 n (cat sumK H)),(9500,Blk.row 73 7 (LdA vh vc vp day))] _ rfl rfl fun w X β hT=>?_
 have hE':(envC Tryz.prog tt Tryz.f66.ntmps w X (tiedK [(9501,Blk.own vp 163 3 n (cat sumK H)),(9500,Blk.row 73 7 (LdA vh vc vp day))] β)).toEnv.P=Tryz.prog:=rfl
 have PO:=place_om hE' (vh:=vh) (vc:=vc) (vp:=vp) (day:=day) (off:=4) rfl (vl:=vp) rfl hn (by omega) hs k
 refine ⟨rfl,?_⟩
 refine .inr (.inr (.inl ⟨[],[_,_],[_,_],_,[_,_],PO,rfl,⟨.inl rfl,rfl,trivial⟩,rfl,rfl,?_⟩))
 refine ⟨fun f mm=>∃ (v1:Value) (n1:Nat) (p s:List (Ky×Int)) (m:Int),IsL v1 n1∧n1=p.length+(s.length+1)∧n1≤H.length+1∧m=getA H k∧(∀ v,setA ltK2 H k v=if v=0 then p++s else p++(k,v) :: s)∧f=[(0,SV.ptr 9500 4),(2,SV.c (.int .i64 d)),(6,SV.c (.int .i64 (p.length:Nat)))]∧mm=[(9501,Blk.own v1 163 3 n1 (cat sumK (p++(k,m) :: s))),(9500,Blk.row 73 7 (LdA vh vc v1 day))],⟨fun c=>?_,fun c=>?_⟩,?_⟩
 ·have c:(!hasA H k)=true:=c
  have c:hasA H k=false:=by simpa using c
  obtain ⟨p,s,rfl,hp,hg,h1,h2⟩:=(at_key ltK2_ok hs k).2 c
  have SA:=set_at ltK2_ok hs hz (.inl rfl) h1 h2
  rw [List.length_append] at hn2
  have I1:=insert_m hE' (v:=vp) (p:=p) (s:=s) hn (by rw [hn,List.length_append];omega) (k,0) (i:=(posA ltK2 (p++s) k:Nat)) (by rw [hp]) (m:=3)
  have e9:=isL_one hv
  refine ⟨_,rfl,_,fillm0_p k rfl,.inl ⟨by decide,by decide,_,fillm1_p (k,0),rfl,?_⟩⟩
  refine .inr (.inr (.inr ⟨[(9503,24)],[9501],[_,_,_],[_,_],_,I1,rfl,⟨.inl rfl,rfl,trivial⟩,by kernel_rfl,(by change _=true;kernel_rfl),?_⟩))
  rintro v1 U ⟨hv1,rfl⟩
  refine ⟨by kernel_rfl,by decide,isL_one hv1,_,LdA_set5 vh vc vp v1 day,by kernel_rfl,?_⟩
  exact ⟨_,_,⟨v1,n+1,p,s,0,hv1,by rw [hn,List.length_append];omega,by rw [hn];exact Nat.le_refl _,hg.symm,SA,rfl,rfl⟩,⟨rfl,rfl,c_int (by rw [hp]),trivial⟩,⟨.inl rfl,rfl,trivial⟩,rfl⟩
 ·have c:(!hasA H k)=false:=c
  have c:hasA H k=true:=by simpa using c
  obtain ⟨p,m,s,rfl,hp,hg,h1,h2⟩:=(at_key ltK2_ok hs k).1 c
  have SA:=set_at ltK2_ok hs hz (.inr ⟨m,rfl⟩) h1 h2
  exact ⟨_,_,⟨vp,n,p,s,m,hv,by rw [hn,List.length_append,List.length_cons],by omega,hg.symm,SA,rfl,rfl⟩,⟨rfl,rfl,c_int (by rw [hp]),trivial⟩,⟨.inl rfl,rfl,trivial⟩,rfl⟩
 clear PO hv
 rintro f1 m1 ⟨v1,n1,p,s,m,hv1,hn1,hn1H,hm,SA,rfl,rfl⟩
 rcases hv1 with ⟨rfl,h0⟩ | ⟨g0,c0,rfl⟩
 ·omega
 have L1:=sumK_n (H:=p++(k,m) :: s) rfl
 have S1:=sumK_set (p:=p) (s:=s) (k:=k) (m:=m) (v:=w64 (m+d))
 have L2:=sumK_n (H:=p++(k,w64 (m+d)) :: s) rfl
 have hsz:(cat sumK (p++(k,m) :: s)).size=n1*3:=by rw [Go.SX.cat_size sumK_size,List.length_append,List.length_cons,hn1]
 rw [← hm,SA]
 refine ⟨_,rfl,by omega,by omega,.inr ⟨9501,g0,_,n1,_,_,_,_,rfl,rfl,.int .i64 m,(by rw [offK];exact L1),?_⟩⟩
 refine ⟨by omega,by omega,⟨9501,g0,_,n1,_,_,_,_,rfl,rfl,(by rw [offK,hsz];omega),rfl,cat sumK (p++(k,w64 (m+d)) :: s),(by rw [offK];exact S1),?_⟩⟩
 refine ⟨_,rfl,by omega,by omega,.inr ⟨9501,g0,_,n1,_,_,_,_,rfl,rfl,.int .i64 (w64 (m+d)),(by rw [offK];exact L2),fun c=>?_,fun c=>?_⟩⟩
 ·have c:(w64 (m+d) == 0)=true:=c
  have c:w64 (m+d)=0:=by simpa using c
  rw [if_pos c]
  have DO:=delete_m hE' (v:=.slice (some ⟨g0,0,none⟩) n1 c0) (p:=p) (s:=s) (x:=(k,w64 (m+d))) (n:=n1) (by rw [List.length_append,List.length_cons];exact hn1) (by omega) (i:=(p.length:Nat)) (j:=IntKind.i64.wrap ((p.length:Nat)+1)) rfl (i64_succ (by omega))
  refine ⟨_,rfl,.inr (.inr (.inr ⟨[],[9501],[_,_,_],[_],_,DO,rfl,⟨.inl rfl,trivial⟩,rfl,trivial,?_⟩))⟩
  rintro v2 U ⟨hv2,rfl⟩
  refine ⟨rfl,by decide,isL_one hv2,_,LdA_set5 vh vc _ v2 day,?_⟩
  exact ⟨[_,_],[],⟨v2,_,rfl,hv2,rfl,rfl⟩,⟨.inl rfl,rfl,trivial⟩,rfl⟩
 ·have c:(w64 (m+d) == 0)=false:=c
  have c:w64 (m+d)≠0:=by simpa using c
  rw [if_neg c]
  exact ⟨[_,_],[],⟨_,n1,rfl,.inr ⟨g0,c0,rfl⟩,by rw [List.length_append,List.length_cons];exact hn1,rfl⟩,⟨.inl rfl,rfl,trivial⟩,rfl⟩
theorem w64_in {n:Int} (h : -9223372036854775808≤n∧n≤9223372036854775807):w64 n=n:=i64_in h
def HB (H:List (Bs×Int)):Prop:=∀ x∈H,0≤x.2∧x.2≤1000000000000000
theorem HB.get {H:List (Bs×Int)} (h:HB H) (k:Bs):0≤getA H k∧getA H k≤1000000000000000:=by
 by_cases e:getA H k=0
 ·rw [e];decide
 ·exact h _ (getA_mem e)
theorem HB.set {H:List (Bs×Int)} (h:HB H) (hs:SrtA ltB H) {k:Bs} {v:Int} (hv:0≤v∧v≤1000000000000000):HB (setA ltB H k v):=by
 obtain ⟨p,s,e,h1,h2,h3,h4⟩:=setA_parts ltB_ok k v hs
 have hm:∀ x∈p++s,x∈H:=fun x hx=>by
  rcases h4 with e | ⟨n,e⟩<;>rw [e]
  ·exact hx
  ·rcases List.mem_append.1 hx with hx | hx<;>simp [hx]
 intro x hx
 rw [e] at hx
 split at hx
 ·exact h x (hm x hx)
 ·rcases List.mem_append.1 hx with hx | hx
  ·exact h x (hm x (by simp [hx]))
  ·rcases List.mem_cons.1 hx with rfl | hx
   ·exact hv
   ·exact h x (hm x (by simp [hx]))
def holdR (H:List (Bs×Int)) (k:Bs) (d:Int):List (Bs×Int)×Int:=match holdL H k d with
 | .error e=>(H,e)
 | .ok H'=>(H',0)
def HoldQ (H:List (Bs×Int)) (k:Bs) (d:Int) (vc vp:Value) (day:Int) (r:Value) (U:MemL):Prop:=∃ vh n,r=.int .i64 (holdR H k d).2∧IsL vh n∧n=(holdR H k d).1.length∧U=[(9501,Blk.own vh 120 2 n (cat sumA (holdR H k d).1)),(9500,Blk.row 73 7 (LdA vh vc vp day))]
theorem hold_z {E:Env} (hE:E.P=Tryz.prog) {vh vc vp:Value} {day:Int} {H:List (Bs×Int)} {n:Nat} (hv:IsL vh n) (hn:n=H.length) (hn2:H.length≤100000000000) (hs:SrtA ltB H) (hz:NzA H) (hb:HB H) (k:Bs) {d:Int} (hd : -1000000000000000≤d∧d≤1000000000000000):OwnC E 67 [SV.ptr 9500 0,SV.c (.string (S k)),SV.c (.int .i64 d)] [(9501,Blk.own vh 120 2 n (cat sumA H)),(9500,Blk.row 73 7 (LdA vh vc vp day))] (HoldQ H k d vc vp day):=by
 refine sx_ownC [] tt_ok mixed at67 E hE [SV.ptr 9500 0,SV.c (.string (S k)),SV.c (.int .i64 d)] [(9501,Blk.own vh 120 2 n (cat sumA H)),(9500,Blk.row 73 7 (LdA vh vc vp day))] _ rfl rfl fun w X β hT=>?_
 have hE':(envC Tryz.prog tt Tryz.f67.ntmps w X (tiedK [(9501,Blk.own vh 120 2 n (cat sumA H)),(9500,Blk.row 73 7 (LdA vh vc vp day))] β)).toEnv.P=Tryz.prog:=rfl
 have GO:=get_s hE' (vc:=vc) (vp:=vp) (day:=day) hv hn (by omega) hs k
 have AO:=add_s hE' (vc:=vc) (vp:=vp) (day:=day) hv hn hn2 hs hz k d
 have hg:=hb.get k
 have ew:IntKind.i64.wrap (getA H k+d)=getA H k+d:=i64_in (by omega)
 have hw:w64 (getA H k+d)=getA H k+d:=ew
 rw [hw] at AO
 refine .inr (.inr (.inl ⟨[],[_,_],[_,_],_,[_,_],GO,rfl,⟨.inl rfl,rfl,trivial⟩,rfl,rfl,fun c=>?_,fun c=>?_⟩))
 ·have c:decide (IntKind.i64.wrap (getA H k+d) < 0)=true:=c
  have c:=of_decide_eq_true c
  rw [ew] at c
  have hR:holdR H k d=(H,181):=by unfold holdR holdL;rw [if_pos c]
  have Q:HoldQ H k d vc vp day (.int .i64 181) [(9501,Blk.own vh 120 2 n (cat sumA H)),(9500,Blk.row 73 7 (LdA vh vc vp day))]:=⟨vh,n,by rw [hR],hv,by rw [hR];exact hn,by rw [hR]⟩
  exact ⟨_,[],Q,⟨.inl rfl,rfl,trivial⟩,rfl⟩
 ·have c:decide (IntKind.i64.wrap (getA H k+d) < 0)=false:=c
  have c:=of_decide_eq_false c
  rw [ew] at c
  refine ⟨fun c2=>?_,fun c2=>?_⟩
  ·have c2:decide (IntKind.i64.wrap (getA H k+d) > 1000000000000000)=true:=c2
   have c2:=of_decide_eq_true c2
   rw [ew] at c2
   have hR:holdR H k d=(H,171):=by unfold holdR holdL;rw [if_neg c,if_pos c2]
   have Q:HoldQ H k d vc vp day (.int .i64 171) [(9501,Blk.own vh 120 2 n (cat sumA H)),(9500,Blk.row 73 7 (LdA vh vc vp day))]:=⟨vh,n,by rw [hR],hv,by rw [hR];exact hn,by rw [hR]⟩
   exact ⟨_,[],Q,⟨.inl rfl,rfl,trivial⟩,rfl⟩
  ·have c2:decide (IntKind.i64.wrap (getA H k+d) > 1000000000000000)=false:=c2
   have c2:=of_decide_eq_false c2
   rw [ew] at c2
   have hR:holdR H k d=(setA ltB H k (getA H k+d),0):=by unfold holdR holdL;rw [if_neg c,if_neg c2]
   refine .inr (.inr (.inr ⟨[],[],[_,_,_],[_,_],_,AO,rfl,⟨.inl rfl,rfl,trivial⟩,rfl,trivial,?_⟩))
   rintro r U ⟨vh',n',rfl,hv',hn',rfl⟩
   have Q:HoldQ H k d vc vp day (.int .i64 0) [(9501,Blk.own vh' 120 2 n' (cat sumA (setA ltB H k (getA H k+d)))),(9500,Blk.row 73 7 (LdA vh' vc vp day))]:=⟨vh',n',by rw [hR],hv',by rw [hR];exact hn',by rw [hR]⟩
   exact ⟨rfl,_,[],Q,⟨.inl rfl,rfl,trivial⟩,rfl⟩
def LedQ (day:Int) (R:Except Int Led) (r:Value) (U:MemL):Prop:=∃ (g:Led) (vh vc vp:Value),IsL vh g.h.length∧IsL vc g.c.length∧IsL vp g.p.length∧U=[(9501,Blk.own vh 120 2 (g.h).length (cat sumA g.h)),(9504,Blk.own vc 163 3 (g.c).length (cat sumK g.c)),(9505,Blk.own vp 163 3 (g.p).length (cat sumK g.p)),(9500,Blk.row 73 7 (LdA vh vc vp day))]∧match R with
 | .error e=>r=.int .i64 e∧e≠0
 | .ok g2=>r=.int .i64 0∧g=g2
theorem fill_mon0 (c:Bs) {pl:List (Nat×Nat)} (hpl:pl=[(0,1),(1,1)]):Instr.fill (fun k=>pl[k]?) ti95.zero [(0,.string (S c))]=some (KyA (c,0)):=by
 subst hpl;rfl
theorem fill_mon1 (c:Bs) (d:Int) {pl:List (Nat×Nat)} (hpl:pl=[(0,1),(1,1)]):Instr.fill (fun k=>pl[k]?) ti95.zero [(0,.string (S c)),(1,.int .i64 d)]=some (KyA (c,d)):=by
 subst hpl;rfl
theorem settle_h (day:Int) (g:Led) (x:EC):(settleL day g x).h=g.h:=by unfold settleL;split<;>rfl
theorem holdL_cases (H:List (Bs×Int)) (k:Bs) (d:Int):(∃ e,holdL H k d=.error e∧e≠0∧holdR H k d=(H,e))∨∃ H',holdL H k d=.ok H'∧holdR H k d=(H',0):=by
 unfold holdR holdL
 split
 ·exact .inl ⟨181,rfl,by decide,rfl⟩
 ·split
  ·exact .inl ⟨171,rfl,by decide,rfl⟩
  ·exact .inr ⟨_,rfl,rfl⟩
theorem enter_z {E:Env} (hE:E.P=Tryz.prog) {g:Led} {vh vc vp:Value} {day:Int} (ho:LedOk g) (hh:IsL vh g.h.length) (hc:IsL vc g.c.length) (hp:IsL vp g.p.length) (hl:g.h.length≤10000000000∧g.c.length≤10000000000∧g.p.length≤10000000000) {x:EC} (hq : -1000000000000000≤x.qty∧x.qty≤1000000000000000):OwnC E 31 [SV.ptr 9500 0,SV.c (.agg x.A)] [(9501,Blk.own vh 120 2 (g.h).length (cat sumA g.h)),(9504,Blk.own vc 163 3 (g.c).length (cat sumK g.c)),(9505,Blk.own vp 163 3 (g.p).length (cat sumK g.p)),(9500,Blk.row 73 7 (LdA vh vc vp day))] (LedQ day (entL day g x)):=by
 refine sx_ownC [4] tt_ok mixed at31 E hE [SV.ptr 9500 0,SV.c (.agg x.A)] [(9501,Blk.own vh 120 2 (g.h).length (cat sumA g.h)),(9504,Blk.own vc 163 3 (g.c).length (cat sumK g.c)),(9505,Blk.own vp 163 3 (g.p).length (cat sumK g.p)),(9500,Blk.row 73 7 (LdA vh vc vp day))] _ rfl rfl fun w X β hT=>?_
 have hE':(envC Tryz.prog tt Tryz.f31.ntmps w X (tiedK [(9501,Blk.own vh 120 2 (g.h).length (cat sumA g.h)),(9504,Blk.own vc 163 3 (g.c).length (cat sumK g.c)),(9505,Blk.own vp 163 3 (g.p).length (cat sumK g.p)),(9500,Blk.row 73 7 (LdA vh vc vp day))] β)).toEnv.P=Tryz.prog:=rfl
 refine ⟨rfl,fun f mm=>∃ (vc' vp':Value),IsL vc' (settleL day g x).c.length∧IsL vp' (settleL day g x).p.length∧f=[(0,SV.ptr 9500 0),(3,SV.ptr 3 0)]∧mm=[(3,Blk.row 47 10 x.A),(9501,Blk.own vh 120 2 (g.h).length (cat sumA g.h)),(9504,Blk.own vc' 163 3 ((settleL day g x).c).length (cat sumK (settleL day g x).c)),(9505,Blk.own vp' 163 3 ((settleL day g x).p).length (cat sumK (settleL day g x).p)),(9500,Blk.row 73 7 (LdA vh vc' vp' day))],⟨_,rfl,_,rfl,by kernel_rfl,fun c=>?_,fun c=>?_⟩,?_⟩
 ·have c:decide (x.settle≤day)=true:=c
  have c:=of_decide_eq_true c
  have hS:settleL day g x=⟨g.h,payL g.c (x.cur,0) x.amt,g.p⟩:=by unfold settleL;rw [if_pos c]
  have AO:=add_c hE' (vh:=vh) (vp:=vp) (day:=day) hc rfl (by omega) ho.c.1 ho.c.2 (x.cur,0) x.amt
  refine ⟨_,rfl,_,fill_mon0 x.cur rfl,_,rfl,?_⟩
  refine .inr (.inr (.inr ⟨[(9501,9504)],[],[_,_,_],[_,_],_,AO,rfl,⟨.inl rfl,rfl,trivial⟩,by kernel_rfl,(by change _=true;kernel_rfl),?_⟩))
  rintro r U ⟨vc',n',rfl,hv',rfl,rfl⟩
  exact ⟨by kernel_rfl,by kernel_rfl,_,_,⟨vc',vp,by rw [hS];exact hv',by rw [hS];exact hp,rfl,rfl⟩,⟨rfl,rfl,trivial⟩,⟨rfl,.inl rfl,.inl (by rw [hS];rfl),.inl (by rw [hS];rfl),rfl,trivial⟩,rfl⟩
 ·have c:decide (x.settle≤day)=false:=c
  have c:=of_decide_eq_false c
  have hS:settleL day g x=⟨g.h,g.c,payL g.p (x.cur,x.settle) x.amt⟩:=by unfold settleL;rw [if_neg c]
  have AO:=add_p hE' (vh:=vh) (vc:=vc) (day:=day) hp rfl (by omega) ho.p.1 ho.p.2 (x.cur,x.settle) x.amt
  refine ⟨_,rfl,_,rfl,_,fill_mon1 x.cur x.settle rfl,_,rfl,?_⟩
  refine .inr (.inr (.inr ⟨[(9501,9505)],[],[_,_,_],[_,_],_,AO,rfl,⟨.inl rfl,rfl,trivial⟩,by kernel_rfl,(by change _=true;kernel_rfl),?_⟩))
  rintro r U ⟨vp',n',rfl,hv',rfl,rfl⟩
  exact ⟨by kernel_rfl,by kernel_rfl,_,_,⟨vc,vp',by rw [hS];exact hc,by rw [hS];exact hv',rfl,rfl⟩,⟨rfl,rfl,trivial⟩,⟨rfl,.inl rfl,.inl (by rw [hS];rfl),.inl (by rw [hS];rfl),rfl,trivial⟩,rfl⟩
 ·rintro f1 m1 ⟨vc',vp',hc',hp',rfl,rfl⟩
  have hSh:=settle_h day g x
  have HO:=hold_z hE' (vc:=vc') (vp:=vp') (day:=day) hh rfl (by omega) ho.h.1 ho.h.2 ho.b x.ins hq
  refine ⟨_,rfl,fun c=>?_,fun c=>?_⟩
  ·have c:(x.kind == 2)=true:=c
   have c:x.kind=2:=by simpa using c
   have hR:entL day g x=.ok (settleL day g x):=by unfold entL;rw [if_pos c]
   have Q:LedQ day (entL day g x) (.int .i64 0) [(9501,Blk.own vh 120 2 (g.h).length (cat sumA g.h)),(9504,Blk.own vc' 163 3 ((settleL day g x).c).length (cat sumK (settleL day g x).c)),(9505,Blk.own vp' 163 3 ((settleL day g x).p).length (cat sumK (settleL day g x).p)),(9500,Blk.row 73 7 (LdA vh vc' vp' day))]:=⟨settleL day g x,vh,vc',vp',by rw [hSh];exact hh,hc',hp',by rw [hSh],by rw [hR];exact ⟨rfl,rfl⟩⟩
   exact ⟨_,[],Q,⟨.inl rfl,.inl rfl,.inl rfl,rfl,trivial⟩,rfl⟩
  ·have c:(x.kind == 2)=false:=c
   have c:¬ x.kind=2:=by simpa using c
   refine ⟨_,rfl,_,rfl,.inr (.inr (.inr ⟨[],[],[_,_,_],[_,_],_,HO,rfl,⟨.inl rfl,rfl,trivial⟩,rfl,trivial,?_⟩))⟩
   rintro r U ⟨vh',n',rfl,hv',rfl,rfl⟩
   rcases holdL_cases g.h x.ins x.qty with ⟨e,e1,e2,e3⟩ | ⟨H',e1,e3⟩
   ·have hR:entL day g x=.error e:=by unfold entL;rw [if_neg c,e1]
    rw [e3] at hv' ⊢
    have Q:LedQ day (entL day g x) (.int .i64 e) [(9501,Blk.own vh' 120 2 (g.h).length (cat sumA g.h)),(9504,Blk.own vc' 163 3 ((settleL day g x).c).length (cat sumK (settleL day g x).c)),(9505,Blk.own vp' 163 3 ((settleL day g x).p).length (cat sumK (settleL day g x).p)),(9500,Blk.row 73 7 (LdA vh' vc' vp' day))]:=⟨settleL day g x,vh',vc',vp',by rw [hSh];exact hv',hc',hp',by rw [hSh],by rw [hR];exact ⟨rfl,e2⟩⟩
    exact ⟨rfl,_,[],Q,⟨.inl rfl,.inl rfl,.inl rfl,rfl,trivial⟩,rfl⟩
   ·have hR:entL day g x=.ok { settleL day g x with h:=H' }:=by unfold entL;rw [if_neg c,e1]
    rw [e3] at hv' ⊢
    have Q:LedQ day (entL day g x) (.int .i64 0) [(9501,Blk.own vh' 120 2 (H').length (cat sumA H')),(9504,Blk.own vc' 163 3 ((settleL day g x).c).length (cat sumK (settleL day g x).c)),(9505,Blk.own vp' 163 3 ((settleL day g x).p).length (cat sumK (settleL day g x).p)),(9500,Blk.row 73 7 (LdA vh' vc' vp' day))]:=⟨{ settleL day g x with h:=H' },vh',vc',vp',hv',hc',hp',rfl,by rw [hR];exact ⟨rfl,rfl⟩⟩
    exact ⟨rfl,_,[],Q,⟨.inl rfl,.inl rfl,.inl rfl,rfl,trivial⟩,rfl⟩
theorem apply_ok {a:AC} {q:Int} (h:(applyA a q).2=0):0≤q∧q≤1000000000000000∧0≤(applyA a q).1.qty∧(applyA a q).1.qty≤1000000000000000∧actOk a=true∧(applyA a q).1.ins=intoA a:=by
 unfold applyA at h ⊢
 split at h
 ·cases h
 rename_i h1
 split at h
 ·cases h
 rename_i h2
 split at h
 ·cases h
 rename_i h3
 split at h
 ·rename_i h4;exact absurd h h4
 rename_i h4
 rw [if_neg h1,if_neg h2,if_neg h3,if_neg h4]
 have ha:actOk a=true:=by simpa using h1
 refine ⟨by omega,by omega,?_,by show pieQ a q≤_;omega,ha,rfl⟩
 show 0≤pieQ a q
 refine (pieQ_bd (a:=a) (q:=q) (by omega) (by omega) ?_).1
 rcases act_kind ha with h5 | h5
 ·exact .inl h5.1
 ·exact .inr h5.2
theorem act_z {E:Env} (hE:E.P=Tryz.prog) {g:Led} {vh vc vp:Value} {day:Int} (ho:LedOk g) (hh:IsL vh g.h.length) (hc:IsL vc g.c.length) (hp:IsL vp g.p.length) (hl:g.h.length≤10000000000∧g.c.length≤10000000000∧g.p.length≤10000000000) {a:AC} (ha:a.In):OwnC E 30 [SV.ptr 9500 0,SV.c (.agg a.A)] [(9501,Blk.own vh 120 2 (g.h).length (cat sumA (g.h))),(9504,Blk.own vc 163 3 (g.c).length (cat sumK (g.c))),(9505,Blk.own vp 163 3 (g.p).length (cat sumK (g.p))),(9500,Blk.row 73 7 (LdA vh vc vp day))] (LedQ day (actL g a)):=by
 refine sx_ownC [] tt_ok mixed at30 E hE [SV.ptr 9500 0,SV.c (.agg a.A)] [(9501,Blk.own vh 120 2 (g.h).length (cat sumA (g.h))),(9504,Blk.own vc 163 3 (g.c).length (cat sumK (g.c))),(9505,Blk.own vp 163 3 (g.p).length (cat sumK (g.p))),(9500,Blk.row 73 7 (LdA vh vc vp day))] _ rfl rfl fun w X β hT=>?_
 have hE':(envC Tryz.prog tt Tryz.f30.ntmps w X (tiedK [(9501,Blk.own vh 120 2 (g.h).length (cat sumA (g.h))),(9504,Blk.own vc 163 3 (g.c).length (cat sumK (g.c))),(9505,Blk.own vp 163 3 (g.p).length (cat sumK (g.p))),(9500,Blk.row 73 7 (LdA vh vc vp day))] β)).toEnv.P=Tryz.prog:=rfl
 have GO:=get_s hE' (vc:=vc) (vp:=vp) (day:=day) hh rfl (by omega) ho.h.1 a.ins
 have A0:=a.size
 have A2:=a.g2
 have A8:=a.g73
 have AZ:=apply_z ha (getA g.h a.ins)
 have hR:actL g a=actL g a:=rfl
 have hhb:=HB.get ho.b a.ins
 generalize a.A=AA at A0 A2 A8 AZ ⊢
 obtain ⟨q,hq⟩:∃ q,q=getA g.h a.ins:=⟨_,rfl⟩
 rw [← hq] at GO AZ hhb
 have AO:=add_s hE' (vc:=vc) (vp:=vp) (day:=day) hh rfl (by omega) ho.h.1 ho.h.2 a.ins (IntKind.i64.wrap (0 - q))
 rw [← hq] at AO
 have hw0:w64 (q+IntKind.i64.wrap (0 - q))=0:=by
  rw [i64_in (x:=0 - q) (by omega),w64_in (by omega)];omega
 rw [hw0] at AO
 have hs1:=(setA_upd ltB_ok ho.h.1 a.ins 0).srt
 have hz1:=setA_nz ltB_ok ho.h.1 ho.h.2 a.ins 0
 have hb1:HB (setA ltB g.h a.ins 0):=HB.set ho.b ho.h.1 (by decide)
 have hl1:=setA_len (lt:=ltB) g.h a.ins 0
 refine ⟨A0,_,A2,?_⟩
 refine .inr (.inr (.inl ⟨[],[_,_],[_,_],_,[_,_],GO,rfl,⟨.inl rfl,rfl,trivial⟩,by kernel_rfl,by kernel_rfl,by kernel_rfl,?_⟩))
 refine .inl ⟨_,AZ,(applyA a q).1.fits,?_⟩
 refine ⟨fun c=>?_,fun c=>?_⟩
 ·have c:((applyA a q).2 != 0)=true:=c
  have c:(applyA a q).2≠0:=by simpa using c
  have hA:actL g a=.error (applyA a q).2:=by unfold actL;rw [← hq,if_pos c]
  have Q:LedQ day (actL g a) (.int .i64 (applyA a q).2) [(9501,Blk.own vh 120 2 (g.h).length (cat sumA (g.h))),(9504,Blk.own vc 163 3 (g.c).length (cat sumK (g.c))),(9505,Blk.own vp 163 3 (g.p).length (cat sumK (g.p))),(9500,Blk.row 73 7 (LdA vh vc vp day))]:=⟨g,vh,vc,vp,hh,hc,hp,rfl,by rw [hA];exact ⟨rfl,c⟩⟩
  exact ⟨_,[],Q,⟨.inl rfl,.inl rfl,.inl rfl,rfl,trivial⟩,rfl⟩
 ·have c:((applyA a q).2 != 0)=false:=c
  have c:(applyA a q).2=0:=by simpa using c
  obtain ⟨p1,p2,p3,p4,-,-⟩:=apply_ok c
  have hA:actL g a=match holdL (setA ltB g.h a.ins 0) (applyA a q).1.ins (applyA a q).1.qty with
   | .error e=>.error e
   | .ok h=>.ok ⟨h,payL g.c (a.cur,0) (applyA a q).1.cash,g.p⟩:=by unfold actL;rw [← hq,if_neg (fun h=>h c)];rfl
  clear AZ hR
  generalize (applyA a q).1=EF at *
  refine ⟨_,A2,?_⟩
  refine .inr (.inr (.inr ⟨[],[],[_,_,_],[_,_],_,AO,rfl,⟨.inl rfl,rfl,trivial⟩,by kernel_rfl,(by change _=true;kernel_rfl),?_⟩))
  rintro r U ⟨vh1,n1,rfl,hv1,rfl,rfl⟩
  have CO:=add_c hE' (vh:=vh1) (vp:=vp) (day:=day) hc rfl (by omega) ho.c.1 ho.c.2 (a.cur,0) EF.cash
  refine ⟨by kernel_rfl,by kernel_rfl,_,A8,_,fill_mon0 a.cur rfl,_,rfl,?_⟩
  refine .inr (.inr (.inr ⟨[(9501,9504)],[],[_,_,_],[_,_],_,CO,rfl,⟨.inl rfl,rfl,trivial⟩,by kernel_rfl,(by change _=true;kernel_rfl),?_⟩))
  rintro r U ⟨vc1,n2,rfl,hv2,rfl,rfl⟩
  have HO:=hold_z hE' (vc:=vc1) (vp:=vp) (day:=day) hv1 rfl (by omega) hs1 hz1 hb1 EF.ins (d:=EF.qty) (by omega)
  refine ⟨by kernel_rfl,by kernel_rfl,_,rfl,_,rfl,.inr (.inr (.inr ⟨[],[],[_,_,_],[_,_],_,HO,rfl,⟨.inl rfl,rfl,trivial⟩,rfl,trivial,?_⟩))⟩
  rintro r U ⟨vh',n',rfl,hv',rfl,rfl⟩
  rcases holdL_cases (setA ltB g.h a.ins 0) EF.ins EF.qty with ⟨e,e1,e2,e3⟩ | ⟨H',e1,e3⟩
  ·rw [e1] at hA
   rw [e3] at hv' ⊢
   have Q:LedQ day (actL g a) (.int .i64 e) [(9501,Blk.own vh' 120 2 (setA ltB g.h a.ins 0).length (cat sumA (setA ltB g.h a.ins 0))),(9504,Blk.own vc1 163 3 (payL g.c (a.cur,0) EF.cash).length (cat sumK (payL g.c (a.cur,0) EF.cash))),(9505,Blk.own vp 163 3 (g.p).length (cat sumK (g.p))),(9500,Blk.row 73 7 (LdA vh' vc1 vp day))]:=⟨⟨setA ltB g.h a.ins 0,payL g.c (a.cur,0) EF.cash,g.p⟩,vh',vc1,vp,hv',hv2,hp,rfl,by rw [hA];exact ⟨rfl,e2⟩⟩
   exact ⟨rfl,_,[],Q,⟨.inl rfl,.inl rfl,.inl rfl,rfl,trivial⟩,rfl⟩
  ·rw [e1] at hA
   rw [e3] at hv' ⊢
   have Q:LedQ day (actL g a) (.int .i64 0) [(9501,Blk.own vh' 120 2 (H').length (cat sumA (H'))),(9504,Blk.own vc1 163 3 (payL g.c (a.cur,0) EF.cash).length (cat sumK (payL g.c (a.cur,0) EF.cash))),(9505,Blk.own vp 163 3 (g.p).length (cat sumK (g.p))),(9500,Blk.row 73 7 (LdA vh' vc1 vp day))]:=⟨⟨H',payL g.c (a.cur,0) EF.cash,g.p⟩,vh',vc1,vp,hv',hv2,hp,rfl,by rw [hA];exact ⟨rfl,rfl⟩⟩
   exact ⟨rfl,_,[],Q,⟨.inl rfl,.inl rfl,.inl rfl,rfl,trivial⟩,rfl⟩
theorem within_p (n lo hi:Int):Pure Tryz.prog 23 [SV.c (.int .i64 n),SV.c (.int .i64 lo),SV.c (.int .i64 hi)] (.bool (inB n lo hi)):=by
 refine sx_pure tt_ok mixed at23 _ _ rfl rfl fun w=>?_
 refine ⟨fun c=>⟨bv ?_,trivial⟩,fun c=>⟨bv ?_,trivial⟩⟩
 ·have c:=of_decide_eq_true (show decide (n ≥ lo)=true from c)
  unfold inB
  rw [decide_eq_true (show lo≤n by omega),Bool.true_and]
 ·have c:=of_decide_eq_false (show decide (n ≥ lo)=false from c)
  unfold inB
  rw [decide_eq_false (show ¬ lo≤n by omega),Bool.false_and]
def amtB (C:List (Ky×Int)):Bool:=C.all fun x=>inB x.2 (-1000000000000000) 1000000000000000
theorem amtB_take {C:List (Ky×Int)} {i:Nat} {x:Ky×Int} (h:C[i]? = some x):amtB (C.take (i+1))=(amtB (C.take i) && inB x.2 (-1000000000000000) 1000000000000000):=by
 unfold amtB
 rw [List.take_add_one,h,List.all_append]
 simp
theorem fill_bal (x:Ky×Int) {pl:List (Nat×Nat)} (hpl:pl=[(0,1),(1,1),(2,1)]):Instr.fill (fun k=>pl[k]?) ti85.zero [(0,.string (S x.1.1)),(1,.int .i64 x.1.2),(2,.int .i64 x.2)]=some (sumK x):=by
 subst hpl;rfl
theorem fill_bal1 (x:Ky×Int):Instr.fill (fun k=>some (k*ti85.size,ti85.size)) (madeCells ti85.zero (1*ti85.size)) [(0,.agg (sumK x))]=some (sumK x):=by kernel_rfl
theorem info_bal:∃ q,Tryz.prog.info? 85=some q∧q.bytes=32:=info_of (by kernel_rfl)
theorem cat_take8 {α:Type} (g:α→Array Value) {l:List α} {i:Nat} {x:α} (h:l[i]? = some x):cat g (l.take i)++g x=cat g (l.take (i+1)):=by
 rw [List.take_add_one,h]
 show _=cat g (l.take i++[x])
 rw [Go.SX.cat_append,cat_one]
def BalQ (C:List (Ky×Int)) (v:Value) (n:Nat) (r:Value) (U:MemL):Prop:=∃ s,IsL s n∧r=.tuple #[s,.bool (amtB C)]∧U=[(9501,Blk.own v 163 3 n (cat sumK C)),(9506,Blk.own s 85 3 n (cat sumK C))]
theorem balances_z {E:Env} (hE:E.P=Tryz.prog) {v:Value} {C:List (Ky×Int)} {n:Nat} (hv:IsL v n) (hn:n=C.length) (hn2:n≤100000000000):OwnC E 68 [SV.c (.agg #[fnW 29,v])] [(9501,Blk.own v 163 3 n (cat sumK C))] (BalQ C v n):=by
 refine sx_ownC [] tt_ok mixed at68 E hE [SV.c (.agg #[fnW 29,v])] [(9501,Blk.own v 163 3 n (cat sumK C))] _ rfl rfl fun w X β hT=>?_
 obtain ⟨xa,xc,rfl⟩:=hv.len
 refine ⟨rfl,_,rfl,_,fun w' _=>run_len_sl Tryz.underlying69 w',?_⟩
 refine ⟨fun q f m=>∃ (i:Nat) (s:Value),q=n - i∧i≤n∧IsL s i∧f=[(4,SV.c s),(5,SV.c (.bool (amtB (C.take i)))),(9,SV.c (.slice xa n xc)),(10,SV.c (.int .i64 (n:Nat))),(11,SV.c (.int .i64 (i:Nat)))]∧m=[(9501,Blk.own (.slice xa n xc) 163 3 n (cat sumK C)),(9506,Blk.own s 85 3 i (cat sumK (C.take i)))],n,⟨_,_,⟨0,.slice none 0 0,rfl,by omega,.nil,rfl,rfl⟩,⟨rfl,rfl,rfl,rfl,rfl,trivial⟩,⟨.inl rfl,.inr ⟨rfl,rfl,rfl⟩,trivial⟩,rfl⟩,?_⟩
 rintro q f m ⟨i,s,rfl,hi,hs,rfl,rfl⟩
 refine ⟨fun h=>?_,fun h=>?_⟩
 ·have h:i < n:=by have:=of_decide_eq_true h;omega
  rcases hv with ⟨hs1,hs2⟩ | ⟨g0,c0,hs1⟩
  ·omega
  cases hs1
  obtain ⟨y,hy⟩:∃ y,C[i]? = some y:=⟨_,List.getElem?_eq_getElem (by omega)⟩
  have L1:=cat_extract sumK_size hy
  have hsz:(cat sumK C).size=n*3:=by rw [Go.SX.cat_size sumK_size,hn]
  refine ⟨by omega,by omega,.inr ⟨9501,g0,_,n,_,_,_,_,rfl,rfl,(by rw [offK,hsz];show i*3+3≤n*3;omega),sumK y,(by rw [offK];exact L1),sumK_fits y,?_⟩⟩
  have X1:(sumK y).extract 0 (0+1*3)=sumK y:=by simp [sumK]
  obtain ⟨q,hq,hb⟩:=info_bal
  refine ⟨_,rfl,_,rfl,_,rfl,_,fill_bal y rfl,.inl ⟨by decide,by decide,_,fill_bal1 y,rfl,by decide,9506,i,_,.inl rfl,by decide,(sumK_fits y).one,rfl,_,X1,?_⟩⟩
  refine ⟨by omega,by unfold maxLen;omega,⟨q,hq,by rw [hb];omega⟩,trivial,fun g2 cap2=>?_⟩
  have hT:=amtB_take hy
  refine ⟨fun c=>?_,fun c=>?_⟩
  ·have c:amtB (C.take i)=true:=c
   refine ⟨_,rfl,.inl ⟨_,within_p y.2 (-1000000000000000) 1000000000000000,?_⟩⟩
   exact ⟨n - (i+1),_,_,by omega,⟨i+1,_,rfl,by omega,.some,rfl,rfl⟩,⟨rfl,c_bool (by rw [hT,c];rfl),rfl,rfl,c_int (i64_succ (by omega)),trivial⟩,⟨.inl rfl,.inl (own_eq (cat_take8 sumK hy)),trivial⟩,rfl⟩
  ·have c:amtB (C.take i)=false:=c
   exact ⟨n - (i+1),_,_,by omega,⟨i+1,_,rfl,by omega,.some,rfl,rfl⟩,⟨rfl,c_bool (by rw [hT,c];rfl),rfl,rfl,c_int (i64_succ (by omega)),trivial⟩,⟨.inl rfl,.inl (own_eq (cat_take8 sumK hy)),trivial⟩,rfl⟩
 ·have h:i=n:=by have:=of_decide_eq_false h;omega
  subst h
  rw [List.take_of_length_le (by omega)]
  exact ⟨[_,_],[],⟨s,hs,rfl,rfl⟩,⟨.inl rfl,.inl rfl,trivial⟩,rfl⟩
theorem capitals_p (l:List UInt8) (lo hi:Int) (dg:Bool) (hl:l.length≤9223372036854775807):Pure Tryz.prog 80 [SV.c (.string (S l)),SV.c (.int .i64 lo),SV.c (.int .i64 hi),SV.c (.bool dg)] (.bool (capAll dg l && (decide (lo≤l.length) && decide ((l.length:Int)≤hi)))):=by
 refine sx_pure tt_ok mixed at80 _ _ rfl rfl fun w=>?_
 refine ⟨_,fun w _=>run_len_S Tryz.underlying9 w,?_⟩
 refine ⟨fun q f m=>∃ i:Nat,q=l.length - i∧i≤l.length∧(∀ j,j < i→capAt dg l j=true)∧f=[(0,SV.c (.string (S l))),(1,SV.c (.int .i64 lo)),(2,SV.c (.int .i64 hi)),(3,SV.c (.bool dg)),(11,SV.c (.int .i64 (l.length:Nat))),(12,SV.c (.int .i64 i))]∧m=[],l.length,⟨_,_,⟨0,rfl,Nat.zero_le _,fun j hj=>absurd hj (by omega),rfl,rfl⟩,⟨rfl,rfl,rfl,rfl,rfl,rfl,trivial⟩,trivial,rfl⟩,?_⟩
 rintro q f m ⟨i,rfl,hi1,hall,rfl,rfl⟩
 refine ⟨fun h=>?_,fun h=>?_⟩
 ·have h:i < l.length:=by have:=of_decide_eq_true h;omega
  have hx:=runs_idx (E:=(envP Tryz.prog tt Tryz.f80.ntmps w).toEnv) Tryz.underlying9 (k:=.i64) i rfl h
  have hc:capAt dg l i=((decide (65≤(l.getD i 0).toNat) && decide ((l.getD i 0).toNat≤90)) || (dg && !decide (i=0) && decide (48≤(l.getD i 0).toNat) && decide ((l.getD i 0).toNat≤57))):=rfl
  generalize (l.getD i 0).toNat=x at *
  have stop:capAt dg l i=false→mkRes [.bool false]=.bool (capAll dg l && (decide (lo≤l.length) && decide ((l.length:Int)≤hi))):=fun e=>by rw [capAll_false h e];rfl
  have hnext:capAt dg l i=true→∀ j,j < i+1→capAt dg l j=true:=fun e j hj=>by
   by_cases e2:j=i
   ·rw [e2];exact e
   ·exact hall j (by omega)
  refine ⟨_,hx,fun h1=>⟨_,hx,fun h2=>?_,fun h2=>?_⟩,fun h1=>⟨fun h2=>?_,nofun⟩⟩
  ·have h1:=of_decide_eq_false h1
   have h2:=of_decide_eq_true h2
   have hlow:(decide (65≤x) && decide (x≤90))=false:=by rw [decide_eq_false (by omega:¬ x≤90),Bool.and_false]
   rw [hlow,Bool.false_or] at hc
   refine ⟨fun h3=>⟨fun h4=>⟨_,hx,fun h5=>⟨_,hx,fun h6=>⟨stop ?_,trivial⟩,fun h6=>?_⟩,fun h5=>⟨fun _=>⟨stop ?_,trivial⟩,nofun⟩⟩,fun h4=>⟨nofun,fun _=>⟨fun _=>⟨stop ?_,trivial⟩,nofun⟩⟩⟩,fun h3=>⟨nofun,fun _=>⟨nofun,fun _=>⟨fun _=>⟨stop ?_,trivial⟩,nofun⟩⟩⟩⟩
   ·have h6:=of_decide_eq_true h6
    rw [hc,decide_eq_false (by omega:¬ x≤57),Bool.and_false]
   ·have h3:dg=true:=of_bnf h3
    have h4:¬ i=0:=by intro e;subst e;simp at h4
    have h5:=of_decide_eq_false h5
    have h6:=of_decide_eq_false h6
    exact ⟨l.length - (i+1),_,_,by omega,⟨i+1,rfl,by omega,hnext (by rw [hc,h3,decide_eq_false h4,decide_eq_true (by omega:48≤x),decide_eq_true (by omega:x≤57)];rfl),rfl,rfl⟩,⟨rfl,rfl,rfl,rfl,rfl,c_int (by rw [i64_in (by omega)];rfl),trivial⟩,trivial,rfl⟩
   ·have h5:=of_decide_eq_true h5
    rw [hc,decide_eq_false (by omega:¬ 48≤x),Bool.and_false,Bool.false_and]
   ·have h4:i=0:=by have:(i:Int)=0:=by simpa using h4
                    omega
    rw [hc,decide_eq_true h4,Bool.not_true,Bool.and_false,Bool.false_and,Bool.false_and]
   ·have h3:dg=false:=bnt h3
    rw [hc,h3];rfl
  ·have h1:=of_decide_eq_false h1
   have h2:=of_decide_eq_false h2
   refine ⟨nofun,fun _=>?_⟩
   exact ⟨l.length - (i+1),_,_,by omega,⟨i+1,rfl,by omega,hnext (by rw [hc,decide_eq_true (by omega:65≤x),decide_eq_true (by omega:x≤90)];rfl),rfl,rfl⟩,⟨rfl,rfl,rfl,rfl,rfl,c_int (by rw [i64_in (by omega)];rfl),trivial⟩,trivial,rfl⟩
  ·have h1:=of_decide_eq_true h1
   have hlow:(decide (65≤x) && decide (x≤90))=false:=by rw [decide_eq_false (by omega:¬ 65≤x),Bool.false_and]
   rw [hlow,Bool.false_or] at hc
   refine ⟨fun h3=>⟨fun h4=>⟨_,hx,fun h5=>⟨_,hx,fun h6=>⟨stop ?_,trivial⟩,fun h6=>?_⟩,fun h5=>⟨fun _=>⟨stop ?_,trivial⟩,nofun⟩⟩,fun h4=>⟨nofun,fun _=>⟨fun _=>⟨stop ?_,trivial⟩,nofun⟩⟩⟩,fun h3=>⟨nofun,fun _=>⟨nofun,fun _=>⟨fun _=>⟨stop ?_,trivial⟩,nofun⟩⟩⟩⟩
   ·have h6:=of_decide_eq_true h6
    rw [hc,decide_eq_false (by omega:¬ x≤57),Bool.and_false]
   ·have h3:dg=true:=of_bnf h3
    have h4:¬ i=0:=by intro e;subst e;simp at h4
    have h5:=of_decide_eq_false h5
    have h6:=of_decide_eq_false h6
    exact ⟨l.length - (i+1),_,_,by omega,⟨i+1,rfl,by omega,hnext (by rw [hc,h3,decide_eq_false h4,decide_eq_true (by omega:48≤x),decide_eq_true (by omega:x≤57)];rfl),rfl,rfl⟩,⟨rfl,rfl,rfl,rfl,rfl,c_int (by rw [i64_in (by omega)];rfl),trivial⟩,trivial,rfl⟩
   ·have h5:=of_decide_eq_true h5
    rw [hc,decide_eq_false (by omega:¬ 48≤x),Bool.and_false,Bool.false_and]
   ·have h4:i=0:=by have:(i:Int)=0:=by simpa using h4
                    omega
    rw [hc,decide_eq_true h4,Bool.not_true,Bool.and_false,Bool.false_and,Bool.false_and]
   ·have h3:dg=false:=bnt h3
    rw [hc,h3];rfl
 ·have h:i=l.length:=by have:=of_decide_eq_false h;omega
  subst h
  rw [capAll_true hall,Bool.true_and]
  refine ⟨_,fun w _=>run_len_S Tryz.underlying9 w,fun h2=>⟨_,fun w _=>run_len_S Tryz.underlying9 w,bv ?_,trivial⟩,fun h2=>⟨bv ?_,trivial⟩⟩
  ·rw [decide_eq_true (of_decide_eq_true h2:lo≤(l.length:Int)),Bool.true_and]
  ·rw [decide_eq_false (of_decide_eq_false h2:¬ lo≤(l.length:Int)),Bool.false_and]
theorem instrument_p (l:List UInt8) (hl:l.length≤9223372036854775807):Pure Tryz.prog 47 [SV.c (.string (S l))] (.bool (capAll true l && (decide (1≤l.length) && decide (l.length≤12)))):=by
 refine sx_pure tt_ok mixed at47 _ _ rfl rfl fun w=>?_
 refine .inl ⟨_,capitals_p l 1 12 true hl,bv ?_,trivial⟩
 congr 2
 ·rw [Bool.eq_iff_iff];simp only [decide_eq_true_eq];omega
 ·rw [Bool.eq_iff_iff];simp only [decide_eq_true_eq];omega
theorem insOk_p (l:List UInt8) (hl:l.length≤9223372036854775807):Pure Tryz.prog 47 [SV.c (.string (S l))] (.bool (insOk l)):=instrument_p l hl
theorem curOk_p (l:List UInt8) (hl:l.length≤9223372036854775807):Pure Tryz.prog 48 [SV.c (.string (S l))] (.bool (curOk l)):=by
 refine sx_pure tt_ok mixed at48 _ _ rfl rfl fun w=>?_
 exact .inl ⟨_,capitals_p l 3 3 false hl,rfl,trivial⟩
theorem eq_entry_raw {d:Nat} (a b:EC) (w:World):(Op.equalIn (d+1+1) 47 (.agg a.A) (.agg b.A)).run Tryz.prog w=.ok (a.beq b) w:=by
 rw [run_equalIn_struct w (d+1) 47 _ _ (by simp only [Program.fieldsOf,Tryz.underlying47]) (by kernel_rfl)]
 rw [show (Tryz.prog.fieldsOf 47).toList=[⟨ "Kind",3,0,false,"","",0⟩,⟨ "Key",9,1,false,"","",8⟩,⟨ "Day",3,2,false,"","",24⟩,⟨ "Settle",3,3,false,"","",32⟩,⟨ "Instrument",9,4,false,"","",40⟩,⟨ "Quantity",3,5,false,"","",56⟩,⟨ "Amount",3,6,false,"","",64⟩,⟨ "Currency",9,7,false,"","",72⟩,⟨ "Known",3,8,false,"","",88⟩,⟨ "Void",4,9,false,"","",96⟩] from by simp only [Program.fieldsOf,Tryz.underlying47]]
 refine eqF_cons (by decide) (part_cell tok3 rfl a.g0 w) (part_cell tok3 rfl b.g0 w) (eq_int64 _ Tryz.underlying3 _ _ w) fun _=>?_
 refine eqF_cons (by decide) (part_cell tok9 rfl a.g1 w) (part_cell tok9 rfl b.g1 w) (eq_str _ _ w) fun _=>?_
 refine eqF_cons (by decide) (part_cell tok3 rfl a.g2 w) (part_cell tok3 rfl b.g2 w) (eq_int64 _ Tryz.underlying3 _ _ w) fun _=>?_
 refine eqF_cons (by decide) (part_cell tok3 rfl a.g3 w) (part_cell tok3 rfl b.g3 w) (eq_int64 _ Tryz.underlying3 _ _ w) fun _=>?_
 refine eqF_cons (by decide) (part_cell tok9 rfl a.g4 w) (part_cell tok9 rfl b.g4 w) (eq_str _ _ w) fun _=>?_
 refine eqF_cons (by decide) (part_cell tok3 rfl a.g5 w) (part_cell tok3 rfl b.g5 w) (eq_int64 _ Tryz.underlying3 _ _ w) fun _=>?_
 refine eqF_cons (by decide) (part_cell tok3 rfl a.g6 w) (part_cell tok3 rfl b.g6 w) (eq_int64 _ Tryz.underlying3 _ _ w) fun _=>?_
 refine eqF_cons (by decide) (part_cell tok9 rfl a.g7 w) (part_cell tok9 rfl b.g7 w) (eq_str _ _ w) fun _=>?_
 refine eqF_cons (by decide) (part_cell tok3 rfl a.g8 w) (part_cell tok3 rfl b.g8 w) (eq_int64 _ Tryz.underlying3 _ _ w) fun _=>?_
 refine eqF_cons (by decide) (part_cell tok4 rfl a.g9 w) (part_cell tok4 rfl b.g9 w) (run_equalIn_bool' w _ 4 _ _ Tryz.underlying4) fun _=>eqF_nil
theorem guard_entry:Tryz.prog.eqGuardType Tryz.prog.depth 47=false:=by kernel_rfl
theorem eql_entry {E:Env} (hE:E.P=Tryz.prog) (a b:EC) {u v:Operand}:Runs E (do eqGuard .eql 47 u v (.agg a.A) (.agg b.A);binOp .eql 47 (.agg a.A) (.agg b.A)) (.bool (a.beq b)) :=
 runs_eql (by rw [hE];exact guard_entry) fun w=>by rw [hE];exact eq_entry_raw a b w
theorem neq_entry {E:Env} (hE:E.P=Tryz.prog) (a b:EC) {u v:Operand}:Runs E (do eqGuard .neq 47 u v (.agg a.A) (.agg b.A);binOp .neq 47 (.agg a.A) (.agg b.A)) (.bool (!(a.beq b))) :=
 runs_neq (by rw [hE];exact guard_entry) fun w=>by rw [hE];exact eq_entry_raw a b w
theorem fill_voidE (key:List UInt8) (known:Int) {pl:List (Nat×Nat)} (hpl:pl=[(0,1),(1,1),(2,1),(3,1),(4,1),(5,1),(6,1),(7,1),(8,1),(9,1)]):Instr.fill (fun k=>pl[k]?) ti47.zero [(1,.string (S key)),(8,.int .i64 known),(9,.bool true)]=some (EC.nil key known).A:=by
 subst hpl;kernel_rfl
theorem valid_e {a:EC} (ha:a.In):Pure Tryz.prog 42 [SV.c (.agg a.A)] (.bool (validE a)):=by
 refine sx_pure tt_ok mixed at42 _ _ rfl rfl fun w=>?_
 have no:hdrE a=false→mkRes [.bool false]=.bool (validE a):=fun h=>by rw [validE,h];rfl
 have len:∀ (E:Env),E.P=Tryz.prog→∀ (ty:TypeId) (l:List UInt8) (cs:Array Bool) (w:World),OldW E w→(builtin .len #[9] ty cs #[.string (S l)]).run E.P w=.ok (.value (.int .i64 (l.length:Nat))) w:=fun E hE ty l cs w _=>by rw [hE];exact run_len_S Tryz.underlying9 w
 refine ⟨rfl,_,rfl,_,len _ rfl _ _ _,.inl ⟨_,within_p _ 1 64,fun c1=>?_,fun c1=>?_⟩⟩
 ·have c1:(!inB a.key.length 1 64)=false:=c1
  have c1:inB a.key.length 1 64=true:=by simpa using c1
  refine ⟨_,rfl,.inl ⟨_,within_p _ 1 2147483647,fun c2=>?_,fun c2=>?_⟩⟩
  ·have c2:(!inB a.known 1 2147483647)=true:=c2
   exact ⟨no (by unfold hdrE;rw [c1];simpa using c2),trivial⟩
  ·have c2:(!inB a.known 1 2147483647)=false:=c2
   have c2:inB a.known 1 2147483647=true:=by simpa using c2
   have hh:hdrE a=true:=by unfold hdrE;rw [c1,c2];rfl
   have va:validE a=(if a.void then a.beq (.nil a.key a.known) else bodyE a && kindE a):=by rw [validE,hh,Bool.true_and]
   rw [va]
   refine ⟨_,rfl,fun h5=>?_,fun h5=>?_⟩
   ·have h5:a.void=true:=h5
    rw [if_pos h5]
    exact ⟨_,rfl,_,rfl,_,fill_voidE a.key a.known rfl,_,eql_entry rfl a (.nil a.key a.known),rfl,trivial⟩
   ·have h5:¬ (a.void=true):=by intro e;rw [e] at h5;cases h5
    rw [if_neg h5]
    have nob:bodyE a=false→mkRes [.bool false]=.bool (bodyE a && kindE a):=fun h=>by rw [h];rfl
    refine ⟨_,rfl,_,rfl,.inl ⟨_,within_p _ 0 _,fun d1=>?_,fun d1=>?_⟩⟩
    ·have d1:(!inB a.day 0 a.settle)=false:=d1
     have d1:inB a.day 0 a.settle=true:=by simpa using d1
     refine ⟨_,rfl,fun d2=>?_,fun d2=>?_⟩
     ·have d2:=of_decide_eq_false (show decide (a.settle > 73048)=false from d2)
      refine ⟨_,rfl,.inl ⟨_,within_p _ (-1000000000000000) 1000000000000000,fun d3=>?_,fun d3=>?_⟩⟩
      ·have d3:(!inB a.amt (-1000000000000000) 1000000000000000)=false:=d3
       have d3:inB a.amt (-1000000000000000) 1000000000000000=true:=by simpa using d3
       refine ⟨_,rfl,.inl ⟨_,curOk_p _ ha.cur,fun d4=>?_,fun d4=>?_⟩⟩
       ·have d4:(!curOk a.cur)=true:=d4
        have d4:curOk a.cur=false:=by simpa using d4
        exact ⟨nob (by unfold bodyE;rw [d4];simp),trivial⟩
       ·have d4:(!curOk a.cur)=false:=d4
        have d4:curOk a.cur=true:=by simpa using d4
        have hb:bodyE a=true:=by unfold bodyE;rw [d1,d3,d4,decide_eq_true (show a.settle≤73048 by omega)];rfl
        rw [hb,Bool.true_and]
        refine ⟨_,rfl,fun k1=>?_,fun k1=>?_⟩
        ·have k1:(a.kind == 1)=true:=k1
         have k1:a.kind=1:=by simpa using k1
         have hk:kindE a=(insOk a.ins && (!(a.qty == 0) && inB a.qty (-1000000000000000) 1000000000000000)):=by unfold kindE;rw [if_pos k1]
         rw [hk]
         refine ⟨_,rfl,.inl ⟨_,insOk_p _ ha.ins,fun e1=>?_,fun e1=>?_⟩⟩
         ·have e1:insOk a.ins=true:=e1
          refine ⟨_,rfl,fun e2=>?_,fun e2=>?_⟩
          ·have e2:(a.qty != 0)=true:=e2
           refine ⟨_,rfl,.inl ⟨_,within_p _ (-1000000000000000) 1000000000000000,bv ?_,trivial⟩⟩
           rw [e1,show (a.qty == 0)=false by simpa using e2];rfl
          ·have e2:(a.qty != 0)=false:=e2
           refine ⟨bv ?_,trivial⟩
           rw [show (a.qty == 0)=true by simpa using e2,e1];rfl
         ·have e1:insOk a.ins=false:=e1
          refine ⟨nofun,fun _=>⟨bv ?_,trivial⟩⟩
          rw [e1];rfl
        ·have k1:(a.kind == 1)=false:=k1
         have k1:¬ a.kind=1:=by simpa using k1
         refine ⟨fun k2=>?_,fun k2=>?_⟩
         ·have k2:(a.kind == 2)=true:=k2
          have k2:a.kind=2:=by simpa using k2
          have hk:kindE a=(decide (a.ins=[]) && (a.qty == 0)):=by unfold kindE;rw [if_neg k1,if_pos k2]
          rw [hk]
          refine ⟨_,rfl,fun e1=>?_,fun e1=>?_⟩
          ·have e1:decide (a.ins=[])=true:=(S_beq a.ins []).symm.trans e1
           refine ⟨_,rfl,bv ?_,trivial⟩
           rw [e1];rfl
          ·have e1:decide (a.ins=[])=false:=(S_beq a.ins []).symm.trans e1
           refine ⟨bv ?_,trivial⟩
           rw [e1];rfl
         ·have k2:(a.kind == 2)=false:=k2
          have k2:¬ a.kind=2:=by simpa using k2
          refine ⟨bv ?_,trivial⟩
          unfold kindE;rw [if_neg k1,if_neg k2]
      ·have d3:(!inB a.amt (-1000000000000000) 1000000000000000)=true:=d3
       have d3:inB a.amt (-1000000000000000) 1000000000000000=false:=by simpa using d3
       refine ⟨fun _=>⟨nob (by unfold bodyE;rw [d3];simp),trivial⟩,nofun⟩
     ·have d2:=of_decide_eq_true (show decide (a.settle > 73048)=true from d2)
      refine ⟨nofun,fun _=>⟨fun _=>⟨nob (by unfold bodyE;rw [decide_eq_false (show ¬ a.settle≤73048 by omega)];simp),trivial⟩,nofun⟩⟩
    ·have d1:(!inB a.day 0 a.settle)=true:=by simpa using d1
     have d1:inB a.day 0 a.settle=false:=by simpa using d1
     refine ⟨nofun,fun _=>⟨nofun,fun _=>⟨fun _=>⟨nob (by unfold bodyE;rw [d1];rfl),trivial⟩,nofun⟩⟩⟩
 ·have c1:(!inB a.key.length 1 64)=true:=by simpa using c1
  have c1:inB a.key.length 1 64=false:=by simpa using c1
  refine ⟨fun _=>⟨no (by unfold hdrE;rw [c1];rfl),trivial⟩,nofun⟩
end Go.Proofs.YtkaakbpeegpnkaaGreatDoor
