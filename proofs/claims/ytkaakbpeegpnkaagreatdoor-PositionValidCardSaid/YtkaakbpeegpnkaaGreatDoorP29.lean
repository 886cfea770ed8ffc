/- the reference: balances.. put and pay change one key: plain law.. position.Held; no more.. the reference: Held, put, pay, balances at lists of the caller.. the reference: enter.. the reference and the program go the same way: plain law. days, and what is left of two lists: plain law. lists with room, tails of lists, what At leaves. position.At; no condition. -/
import Derived.Test.YtkaakbpeegpnkaaGreatDoorP28
import Derived.Test.YtkaakbpeegpnkaaGreatDoorP24
namespace Go.Proofs.YtkaakbpeegpnkaaGreatDoor
open Go Go.RowKit Go.SX
theorem nzf_take {κ:Type} {l:List (κ×Int)} {i:Nat} {y:κ×Int} (h:l[i]? = some y):nzf (l.take (i+1))=if y.2=0 then nzf (l.take i) else nzf (l.take i)++[y]:=by
 rw [take_one h];unfold nzf;rw [List.filter_append]
 by_cases e:y.2=0
 ·rw [if_pos e];simp [e]
 ·rw [if_neg e];simp [e]
theorem nzf_len {κ:Type} (l:List (κ×Int)) (i:Nat):(nzf (l.take i)).length≤i:=by
 have h1:(nzf (l.take i)).length≤(l.take i).length:=List.length_filter_le _ _
 have h2:(l.take i).length≤i:=by rw [List.length_take];omega
 omega
theorem amtB_one (C:List (Ky×Int)) (y:Ky×Int):amtB (C++[y])=(amtB C && inB y.2 (-1000000000000000) 1000000000000000):=by unfold amtB;rw [List.all_append];simp
set_option smartUnfolding false in
set_option maxRecDepth 100000 in
theorem bal_r {E:Env} (hE:E.P=Tryz.prog) {v:Value} {xs:List (Ky×Int)} (hv:Lst E v 3 xs.length (cat sumK xs)) (hn:xs.length≤1000000000000):OwnC E 75 [SV.c v] [] (fun r U=>∃ s n,n=(nzf xs).length∧IsL s n∧r=.tuple #[s,.bool (amtB (nzf xs))]∧U=[(9602,Blk.own s 85 3 n (cat sumK (nzf xs)))]):=by
 refine sx_ownC [] tt_ok mixed at75 E hE [SV.c v] [] _ rfl rfl fun w X β hT=>?_
 obtain ⟨a,cap,rfl,hc,h4⟩:=(hv.of_old hT).shape
 refine ⟨fun q f m=>∃ (i:Nat) (x:Value) (N:Nat) (o:List (Ky×Int)),q=xs.length - i∧i≤xs.length∧nzf (xs.take i)=o∧N=o.length∧N≤i∧IsL x N∧f=[(0,SV.c (.slice a xs.length cap)),(4,SV.c x),(5,SV.c (.bool (amtB o))),(6,SV.c (.int .i64 (i:Nat)))]∧m=[(9602,Blk.own x 85 3 N (cat sumK o))],xs.length,⟨_,_,⟨0,.slice none 0 0,0,[],by omega,by omega,rfl,rfl,by omega,.nil,rfl,rfl⟩,⟨rfl,rfl,rfl,rfl,trivial⟩,⟨.inr ⟨rfl,rfl,rfl⟩,trivial⟩,rfl⟩,?_⟩
 rintro q f m ⟨i,x,N,o,rfl,hi,hw,hN,hb,hx,rfl,rfl⟩
 refine ⟨_,fun w' _=>run_len_sl Tryz.underlying28 w',fun h=>?_,fun h=>?_⟩
 ·have h:i < xs.length:=by have:=of_decide_eq_true h;omega
  obtain ⟨b,of_,rfl,h5⟩:=h4 (by omega)
  obtain ⟨y,hy⟩:∃ y,xs[i]? = some y:=⟨_,List.getElem?_eq_getElem h⟩
  have hE':VOk (envC Tryz.prog tt Tryz.f75.ntmps w X (tiedK [] β)):=tt_ok
  have L1:=lst_at hE' h5 sumK_size hy (j:=2) (v:=.int .i64 y.2) rfl (ty:=3) (ti:=ti3) rfl rfl (p:=of_+(i:Int).toNat*3+2) rfl
  have L2:=lst_elem hE' h5 sumK_size hy (ty:=85) (ti:=ti85) rfl rfl rfl (p:=of_+(i:Int).toNat*3) rfl
  have hw1:=nzf_take hy
  rw [hw] at hw1
  have X1:(sumK y).extract 0 (0+1*3)=sumK y:=by simp [sumK]
  obtain ⟨q,hq,hqb⟩:=info_bal
  have F1:=far_r y.2
  refine ⟨by omega,by omega,.inl ⟨_,L1,fun c=>?_,fun c=>?_⟩⟩
  ·have c:¬ y.2=0:=by have c:(y.2 != 0)=true:=c;simpa using c
   rw [if_neg c] at hw1
   have hg:=amtB_one o y
   refine ⟨by omega,by omega,.inl ⟨_,L2,.inl ⟨by decide,by decide,_,fill_bal1 y,rfl,by decide,9602,N,_,.inl rfl,by decide,(sumK_fits _).one,rfl,_,X1,?_⟩⟩⟩
   refine ⟨by omega,by unfold maxLen;omega,⟨q,hq,by rw [hqb];omega⟩,trivial,fun g2 cap2=>?_⟩
   refine ⟨fun d=>⟨by omega,by omega,.inl ⟨_,L1,.inl ⟨_,F1,?_⟩⟩⟩,fun d=>?_⟩
   ·have d:amtB o=true:=d
    exact ⟨xs.length - (i+1),_,_,by omega,⟨i+1,_,(N+1),o++[y],rfl,by omega,hw1,by simp;omega,by omega,.some,rfl,rfl⟩,⟨rfl,rfl,c_bool (by rw [hg,d,Bool.not_not,Bool.true_and]),c_int (i64_succ (by omega)),trivial⟩,⟨.inl (own_eq (by rw [cat_append,cat_one])),trivial⟩,rfl⟩
   ·have d:amtB o=false:=d
    exact ⟨xs.length - (i+1),_,_,by omega,⟨i+1,_,(N+1),o++[y],rfl,by omega,hw1,by simp;omega,by omega,.some,rfl,rfl⟩,⟨rfl,rfl,c_bool (by rw [hg,d,Bool.false_and]),c_int (i64_succ (by omega)),trivial⟩,⟨.inl (own_eq (by rw [cat_append,cat_one])),trivial⟩,rfl⟩
  ·have c:y.2=0:=by have c:(y.2 != 0)=false:=c;simpa using c
   rw [if_pos c] at hw1
   exact ⟨xs.length - (i+1),_,_,by omega,⟨i+1,_,N,o,rfl,by omega,hw1,hN,by omega,hx,rfl,rfl⟩,⟨rfl,rfl,rfl,c_int (i64_succ (by omega)),trivial⟩,⟨.inl rfl,trivial⟩,rfl⟩
 ·have h:i=xs.length:=by have:=of_decide_eq_false h;omega
  subst h
  rw [List.take_length] at hw
  exact ⟨[(9602,Blk.own x 85 3 N (cat sumK o))],[],⟨x,N,by rw [hw];exact hN,hx,by rw [hw];rfl,by rw [hw]⟩,⟨.inl rfl,trivial⟩,rfl⟩
def putT (k:Bs) (n:Int):List (Bs×Int)→Bool→List (Bs×Int)
 | [],d=>if d then [] else [(k,n)]
 | x :: r,d=>(if !d && !ltB x.1 k then [(k,n)] else [])++((if x.1=k then [] else [x])++putT k n r (d || !ltB x.1 k))
theorem putT_fold (k:Bs) (n:Int):∀ (l:List (Bs×Int)) (o:List (Bs×Int)) (d:Bool),(let s:=l.foldl (putS k n) (o,d);if s.2 then s.1 else s.1++[(k,n)])=o++putT k n l d
 | [],o,d=>by cases d<;>simp [putT]
 | x :: r,o,d=>by
  rw [List.foldl_cons]
  have h:=putT_fold k n r (putS k n (o,d) x).1 (putS k n (o,d) x).2
  refine Eq.trans h ?_
  rw [putT]
  unfold putS
  cases d<;>by_cases h:ltB x.1 k=true<;>by_cases e:x.1=k<;>simp [h,e,ltB_irr]
theorem putR_eq (l:List (Bs×Int)) (k:Bs) (n:Int):putR l k n=putT k n l false:=by
 have h:=putT_fold k n l [] false
 rw [List.nil_append] at h
 exact h
theorem putT_done (k:Bs) (n:Int):∀ {l:List (Bs×Int)},(∀ x∈l,ltB k x.1=true)→putT k n l true=l
 | [],_=>rfl
 | x :: r,h=>by
  have hx:=h x (by simp)
  have e:¬ x.1=k:=fun e=>by rw [e,ltB_irr] at hx;cases hx
  have hr:=putT_done k n (l:=r) fun y hy=>h y (List.mem_cons_of_mem _ hy)
  rw [putT,Bool.true_or,hr]
  simp [e]
theorem putR_upd {l:List (Bs×Int)} (hs:SrtA ltB l) (k:Bs) (n:Int):Upd ltB l k n (putR l k n):=by
 rw [putR_eq]
 have key:∀ (s p:List (Bs×Int)),SrtA ltB (p++s)→(∀ x∈p,ltB x.1 k=true)→Upd ltB (p++s) k n (p++putT k n s false):=by
  intro s
  induction s with
  | nil=>exact fun p hs hp=>Upd.ins ltB_ok hs hp (by simp) n
  | cons x r ih =>
   intro p hs hp
   obtain ⟨h1,h2,h3⟩:=hs.parts
   by_cases c:ltB x.1 k=true
   ·have e:¬ x.1=k:=fun e=>by rw [e,ltB_irr] at c;cases c
    have h:=ih (p++[x]) (by rw [List.append_assoc];exact hs) (fun y hy=>by
     rcases List.mem_append.1 hy with hy | hy
     ·exact hp y hy
     ·rw [List.mem_singleton.1 hy];exact c)
    rw [List.append_assoc,List.append_assoc] at h
    rw [putT];simpa [c,e] using h
   ·have c:ltB x.1 k=false:=by simpa using c
    by_cases e:x.1=k
    ·have hr:putT k n r true=r:=putT_done k n fun y hy=>by rw [← e];exact h2 y hy
     have hu:=Upd.set (n:=x.2) ltB_ok hs n
     rw [putT,c,Bool.not_false,Bool.or_true,hr]
     obtain ⟨x1,x2⟩:=x
     have e:x1=k:=e
     subst e
     simpa using hu
    ·have c2:ltB k x.1=true:=by
       cases c2:ltB k x.1 with
       | true=>rfl
       | false=>exact absurd (ltB_tri _ _ c c2) e
     have hr:putT k n r true=r:=putT_done k n fun y hy=>ltB_tr _ _ _ c2 (h2 y hy)
     rw [putT,c,Bool.not_false,Bool.or_true,hr]
     have hu:=Upd.ins ltB_ok hs hp (fun y hy=>by
      rcases List.mem_cons.1 hy with rfl | hy
      ·exact c2
      ·exact ltB_tr _ _ _ c2 (h2 y hy)) n
     simpa [e] using hu
 exact key l [] hs (by simp)
def payT (k:Ky):List (Ky×Int)→Bool→Int→List (Ky×Int)
 | [],d,z=>if d then [] else [(k,z)]
 | x :: r,d,z=>if !d && ltK2 k x.1 then (k,z) :: x :: payT k r true z
  else if !d && !ltK2 x.1 k then (k,w64 (z+x.2)) :: payT k r true (w64 (z+x.2))
  else x :: payT k r d z
theorem payT_fold (k:Ky):∀ (l:List (Ky×Int)) (o:List (Ky×Int)) (d:Bool) (z:Int),(let s:=l.foldl (payS k) (o,d,z);if s.2.1 then s.1 else s.1++[(k,s.2.2)])=o++payT k l d z
 | [],o,d,z=>by cases d<;>simp [payT]
 | x :: r,o,d,z=>by
  rw [List.foldl_cons]
  have h:=payT_fold k r (payS k (o,d,z) x).1 (payS k (o,d,z) x).2.1 (payS k (o,d,z) x).2.2
  refine Eq.trans h ?_
  rw [payT]
  unfold payS
  cases d<;>by_cases h:ltK2 k x.1=true<;>by_cases e:ltK2 x.1 k=true<;>simp [h,e]
theorem payR_eq (l:List (Ky×Int)) (k:Ky) (n:Int):payR l k n=payT k l false n:=by
 have h:=payT_fold k l [] false n
 rw [List.nil_append] at h
 exact h
theorem payT_done (k:Ky):∀ (l:List (Ky×Int)) (z:Int),payT k l true z=l
 | [],_=>rfl
 | x :: r,z=>by rw [payT,payT_done k r z];simp
theorem payR_upd {l:List (Ky×Int)} (hs:SrtA ltK2 l) (k:Ky) {n:Int} (hn:w64 n=n):Upd ltK2 l k (w64 (getA l k+n)) (payR l k n):=by
 rw [payR_eq]
 have key:∀ (s p:List (Ky×Int)),SrtA ltK2 (p++s)→(∀ x∈p,ltK2 x.1 k=true)→Upd ltK2 (p++s) k (w64 (getA (p++s) k+n)) (p++payT k s false n):=by
  intro s
  induction s with
  | nil =>
   intro p hs hp
   have hg:getA (p++[]) k=0:=getA_none fun x hx=>by
    rw [List.append_nil] at hx;exact ltK2_ok.ne (hp x hx)
   rw [hg,Int.zero_add,hn]
   exact Upd.ins ltK2_ok hs hp (by simp) n
  | cons x r ih =>
   intro p hs hp
   obtain ⟨h1,h2,h3⟩:=hs.parts
   by_cases c2:ltK2 k x.1=true
   ·have hall:∀ y∈x :: r,ltK2 k y.1=true:=fun y hy=>by
      rcases List.mem_cons.1 hy with rfl | hy
      ·exact c2
      ·exact ltK2_ok.tr _ _ _ c2 (h2 y hy)
    have hg:getA (p++x :: r) k=0:=getA_none fun y hy=>by
     rcases List.mem_append.1 hy with hy | hy
     ·exact ltK2_ok.ne (hp y hy)
     ·exact (ltK2_ok.ne (hall y hy)).symm
    rw [hg,Int.zero_add,hn,payT,c2,payT_done]
    exact Upd.ins ltK2_ok hs hp hall n
   ·have c2:ltK2 k x.1=false:=by simpa using c2
    by_cases c:ltK2 x.1 k=true
    ·have h:=ih (p++[x]) (by rw [List.append_assoc];exact hs) (fun y hy=>by
       rcases List.mem_append.1 hy with hy | hy
       ·exact hp y hy
       ·rw [List.mem_singleton.1 hy];exact c)
     rw [List.append_assoc,List.append_assoc] at h
     rw [payT,c,c2];simpa using h
    ·have c:ltK2 x.1 k=false:=by simpa using c
     have e:x.1=k:=ltK2_ok.tri _ _ c c2
     obtain ⟨x1,x2⟩:=x
     have e:x1=k:=e
     subst e
     have hg:getA (p++(x1,x2) :: r) x1=x2:=by
      rw [getA_skip fun y hy=>ltK2_ok.ne (hp y hy),getA_hit]
     rw [hg,payT,c,Int.add_comm x2 n]
     have hu:=Upd.set ltK2_ok hs (w64 (n+x2))
     simpa [payT_done] using hu
 exact key l [] hs (by simp)
set_option smartUnfolding false in
set_option maxRecDepth 100000 in
theorem held_z {E:Env} (hE:E.P=Tryz.prog) {v vc vp:Value} {xs:List (Bs×Int)} {k:Bs} (hv:Lst E v 2 xs.length (cat sumA xs)) (hn:xs.length≤1000000000000):OwnC E 16 [SV.c (.agg #[v,vc,vp]),SV.c (.string (S k))] [] (fun x U=>x=.int .i64 (getA xs k)∧U=[]):=by
 refine sx_ownC [] tt_ok mixed at16 E hE [SV.c (.agg #[v,vc,vp]),SV.c (.string (S k))] [] _ rfl rfl fun w X β hT=>?_
 obtain ⟨a,cap,rfl,hc,h4⟩:=(hv.of_old hT).shape
 refine ⟨rfl,_,rfl,_,fun w' _=>run_len_sl Tryz.underlying27 w',?_⟩
 refine ⟨fun q f m=>∃ (i:Nat),q=xs.length - i∧i≤xs.length∧(∀ x∈xs.take i,x.1≠k)∧f=[(1,SV.c (.string (S k))),(8,SV.c (.slice a xs.length cap)),(9,SV.c (.int .i64 (xs.length:Nat))),(10,SV.c (.int .i64 (i:Nat)))]∧m=[],xs.length,⟨_,_,⟨0,rfl,by omega,fun x h=>by simp at h,rfl,rfl⟩,⟨rfl,rfl,rfl,rfl,trivial⟩,trivial,rfl⟩,?_⟩
 rintro q f m ⟨i,rfl,hi,hk,rfl,rfl⟩
 refine ⟨fun h=>?_,fun h=>?_⟩
 ·have h:i < xs.length:=by have:=of_decide_eq_true h;omega
  obtain ⟨b,o,rfl,h5⟩:=h4 (by omega)
  obtain ⟨y,hy⟩:∃ y,xs[i]? = some y:=⟨_,List.getElem?_eq_getElem h⟩
  have hE':VOk (envC Tryz.prog tt Tryz.f16.ntmps w X (tiedK [] β)):=tt_ok
  have L2:=lst_elem hE' h5 sumA_size hy (ty:=90) (ti:=ti90) rfl rfl rfl (p:=o+(i:Int).toNat*2) rfl
  refine ⟨by omega,by omega,.inl ⟨_,L2,sumA_fits y,_,rfl,fun c=>?_,fun c=>?_⟩⟩
  ·have c:y.1=k:=by have c:=(S_beq y.1 k).symm.trans c;simpa using c
   have e:getA xs k=y.2:=by
    have e1:xs=xs.take i++y :: xs.drop (i+1):=by rw [← drop_at hy,List.take_append_drop]
    rw [e1,getA_skip hk,← c];exact getA_hit (k:=y.1) (n:=y.2)
   exact ⟨_,rfl,[],[],⟨by rw [e];rfl,rfl⟩,trivial,rfl⟩
  ·have c:¬ y.1=k:=by have c:=(S_beq y.1 k).symm.trans c;simpa using c
   have hk':∀ x∈xs.take (i+1),x.1≠k:=fun x hx=>by
    rw [take_one hy] at hx
    rcases List.mem_append.1 hx with hx | hx
    ·exact hk x hx
    ·rw [List.mem_singleton.1 hx];exact c
   exact ⟨xs.length - (i+1),_,_,by omega,⟨i+1,rfl,by omega,hk',rfl,rfl⟩,⟨rfl,rfl,rfl,c_int (i64_succ (by omega)),trivial⟩,trivial,rfl⟩
 ·have h:i=xs.length:=by have:=of_decide_eq_false h;omega
  subst h
  rw [List.take_length] at hk
  exact ⟨[],[],⟨by rw [getA_none hk];rfl,rfl⟩,trivial,rfl⟩
theorem sumA_one (x:Bs×Int):(sumA x).all (·.oneCell')=true:=(sumA_fits x).one
theorem sumK_one (x:Ky×Int):(sumK x).all (·.oneCell')=true:=(sumK_fits x).one
theorem held_ro {E:Env} (hE:E.P=Tryz.prog) {x vc vp:Value} {H:List (Bs×Int)} {k:Bs} {n:Nat} (hn:n=H.length) (hb:n≤1000000000000):OwnC E 17 [SV.c (.agg #[x,vc,vp]),SV.c (.string (S k))] [(9610,Blk.own x 90 2 n (cat sumA H))] (fun y U=>y=.int .i64 (getA H k)∧U=[(9610,Blk.own x 90 2 n (cat sumA H))]):=by
 subst hn
 refine (OwnC.with_own (k:=9610) (v:=x) (e:=90) (sz:=2) (n:=H.length) (A:=cat sumA H) (pre:=[]) rfl rfl (cat_all sumA_one H) (by rw [hE];exact at17.enters) (fun E0 h hl=>held_r (h.trans hE) hl hb) (fun x U h=>by rw [h.2];rfl)).mono ?_
 rintro y U ⟨U0,⟨h1,h2⟩,h3⟩
 exact ⟨h1,by rw [h3,h2]⟩
def LentQ (k0:Key) (x:Value) (e:TypeId) (sz n:Nat) (A:Array Value) (k1:Key) (n1:Nat) (A1:Array Value) (y:Value) (U:MemL):Prop:=IsL y n1∧U=[(k0,Blk.own x e sz n A),(k1,Blk.own y e sz n1 A1)]
theorem put_ro {E:Env} (hE:E.P=Tryz.prog) {x:Value} {H:List (Bs×Int)} {k:Bs} {m:Int} {n:Nat} (hn:n=H.length) (hb:n≤1000000000000):OwnC E 73 [SV.c x,SV.c (.string (S k)),SV.c (.int .i64 m)] [(9610,Blk.own x 90 2 n (cat sumA H))] (LentQ 9610 x 90 2 n (cat sumA H) 9600 (putR H k m).length (cat sumA (putR H k m))):=by
 subst hn
 refine (OwnC.with_own (k:=9610) (v:=x) (e:=90) (sz:=2) (n:=H.length) (A:=cat sumA H) (pre:=[]) rfl rfl (cat_all sumA_one H) (by rw [hE];exact at73.enters) (fun E0 h hl=>put_r (h.trans hE) hl hb) (fun x U h=>by rw [h.2];rfl)).mono ?_
 rintro y U ⟨U0,⟨h1,h2⟩,h3⟩
 exact ⟨h1,by rw [h3,h2]⟩
theorem pay_ro {E:Env} (hE:E.P=Tryz.prog) {x:Value} {C:List (Ky×Int)} {k:Ky} {m:Int} {n:Nat} (hn:n=C.length) (hb:n≤1000000000000):OwnC E 74 [SV.c x,SV.c (.agg (sumK (k,m)))] [(9611,Blk.own x 85 3 n (cat sumK C))] (LentQ 9611 x 85 3 n (cat sumK C) 9601 (payR C k m).length (cat sumK (payR C k m))):=by
 subst hn
 refine (OwnC.with_own (k:=9611) (v:=x) (e:=85) (sz:=3) (n:=C.length) (A:=cat sumK C) (pre:=[]) rfl rfl (cat_all sumK_one C) (by rw [hE];exact at74.enters) (fun E0 h hl=>pay_r (h.trans hE) hl hb) (fun x U h=>by rw [h.2];rfl)).mono ?_
 rintro y U ⟨U0,⟨h1,h2⟩,h3⟩
 exact ⟨h1,by rw [h3,h2]⟩
theorem bal_ro {E:Env} (hE:E.P=Tryz.prog) {x:Value} {C:List (Ky×Int)} {n:Nat} (hn:n=C.length) (hb:n≤1000000000000):OwnC E 75 [SV.c x] [(9611,Blk.own x 85 3 n (cat sumK C))] (fun r U=>∃ s n1,n1=(nzf C).length∧IsL s n1∧r=.tuple #[s,.bool (amtB (nzf C))]∧U=[(9611,Blk.own x 85 3 n (cat sumK C)),(9602,Blk.own s 85 3 n1 (cat sumK (nzf C)))]):=by
 subst hn
 refine (OwnC.with_own (k:=9611) (v:=x) (e:=85) (sz:=3) (n:=C.length) (A:=cat sumK C) (pre:=[]) rfl rfl (cat_all sumK_one C) (by rw [hE];exact at75.enters) (fun E0 h hl=>bal_r (h.trans hE) hl hb) (fun x U h=>by obtain ⟨s,n1,-,-,-,rfl⟩:=h;rfl)).mono ?_
 rintro y U ⟨U0,⟨s,n1,h1,h2,h3,h4⟩,h5⟩
 exact ⟨s,n1,h1,h2,h3,by rw [h5,h4]⟩
def cashR (day:Int) (g:Led) (x:EC):Led:=if x.settle≤day then { g with c:=payR g.c (x.cur,0) x.amt } else { g with p:=payR g.p (x.cur,x.settle) x.amt }
def entR (day:Int) (g:Led) (x:EC):Except Int Led :=
 if x.kind=1 then
  if w64 (getA g.h x.ins+x.qty) < 0 then .error 181
  else if w64 (getA g.h x.ins+x.qty) > 1000000000000000 then .error 171
  else .ok (cashR day { g with h:=putR g.h x.ins (w64 (getA g.h x.ins+x.qty)) } x)
 else .ok (cashR day g x)
def RefQ (R:Except Int Led) (r:Value) (U:MemL):Prop:=∃ (g:Led) (vh vc vp:Value),IsL vh g.h.length∧IsL vc g.c.length∧IsL vp g.p.length∧U=[(9701,Blk.own vh 90 2 g.h.length (cat sumA g.h)),(9702,Blk.own vc 85 3 g.c.length (cat sumK g.c)),(9703,Blk.own vp 85 3 g.p.length (cat sumK g.p)),(9700,Blk.row 30 3 #[vh,vc,vp])]∧match R with
 | .error e=>r=.int .i64 e∧e≠0
 | .ok g2=>r=.int .i64 0∧g=g2
theorem fill_b2 (c:Bs) (m:Int) {pl:List (Nat×Nat)} (hpl:pl=[(0,1),(1,1),(2,1)]):Instr.fill (fun k=>pl[k]?) ti85.zero [(0,.string (S c)),(2,.int .i64 m)]=some (sumK ((c,0),m)):=by
 subst hpl;rfl
set_option smartUnfolding false in
set_option maxRecDepth 100000 in
set_option maxHeartbeats 2000000 in
theorem enter_r {E:Env} (hE:E.P=Tryz.prog) {g:Led} {vh vc vp:Value} {day:Int} (hh:IsL vh g.h.length) (hc:IsL vc g.c.length) (hp:IsL vp g.p.length) (hl:g.h.length≤10000000000∧g.c.length≤10000000000∧g.p.length≤10000000000) {x:EC}:OwnC E 37 [SV.ptr 9700 0,SV.c (.agg x.A),SV.c (.int .i64 day)] [(9701,Blk.own vh 90 2 g.h.length (cat sumA g.h)),(9702,Blk.own vc 85 3 g.c.length (cat sumK g.c)),(9703,Blk.own vp 85 3 g.p.length (cat sumK g.p)),(9700,Blk.row 30 3 #[vh,vc,vp])] (RefQ (entR day g x)):=by
 refine sx_ownC [] tt_ok mixed at37 E hE [SV.ptr 9700 0,SV.c (.agg x.A),SV.c (.int .i64 day)] [(9701,Blk.own vh 90 2 g.h.length (cat sumA g.h)),(9702,Blk.own vc 85 3 g.c.length (cat sumK g.c)),(9703,Blk.own vp 85 3 g.p.length (cat sumK g.p)),(9700,Blk.row 30 3 #[vh,vc,vp])] _ rfl rfl fun w X β hT=>?_
 have hE':(envC Tryz.prog tt Tryz.f37.ntmps w X (tiedK [(9701,Blk.own vh 90 2 g.h.length (cat sumA g.h)),(9702,Blk.own vc 85 3 g.c.length (cat sumK g.c)),(9703,Blk.own vp 85 3 g.p.length (cat sumK g.p)),(9700,Blk.row 30 3 #[vh,vc,vp])] β)).toEnv.P=Tryz.prog:=rfl
 refine ⟨rfl,_,rfl,fun k1=>?_,fun k1=>?_⟩
 ·have k1:x.kind=1:=by have k1:(x.kind == 1)=true:=k1;simpa using k1
  have HO:=held_ro hE' (x:=vh) (vc:=vc) (vp:=vp) (H:=g.h) (k:=x.ins) rfl (by omega)
  refine ⟨_,rfl,?_⟩
  refine .inr (.inr (.inl ⟨[(9610,9701)],[_,_],[_],_,[_],HO,rfl,⟨.inl rfl,trivial⟩,by kernel_rfl,by kernel_rfl,?_⟩))
  refine ⟨_,rfl,by kernel_rfl,fun c1=>?_,fun c1=>?_⟩
  ·have c1:w64 (getA g.h x.ins+x.qty) < 0:=of_decide_eq_true c1
   have eR:entR day g x=.error 181:=by unfold entR;rw [if_pos k1,if_pos c1]
   rw [eR]
   exact ⟨[(9701,Blk.own vh 90 2 g.h.length (cat sumA g.h)),(9702,Blk.own vc 85 3 g.c.length (cat sumK g.c)),(9703,Blk.own vp 85 3 g.p.length (cat sumK g.p)),(9700,Blk.row 30 3 #[vh,vc,vp])],[],⟨g,vh,vc,vp,hh,hc,hp,rfl,rfl,by decide⟩,⟨.inl rfl,.inl rfl,.inl rfl,rfl,trivial⟩,rfl⟩
  ·have c1:¬ w64 (getA g.h x.ins+x.qty) < 0:=of_decide_eq_false c1
   refine ⟨fun c2=>?_,fun c2=>?_⟩
   ·have c2:w64 (getA g.h x.ins+x.qty) > 1000000000000000:=of_decide_eq_true c2
    have eR:entR day g x=.error 171:=by unfold entR;rw [if_pos k1,if_neg c1,if_pos c2]
    rw [eR]
    exact ⟨[(9701,Blk.own vh 90 2 g.h.length (cat sumA g.h)),(9702,Blk.own vc 85 3 g.c.length (cat sumK g.c)),(9703,Blk.own vp 85 3 g.p.length (cat sumK g.p)),(9700,Blk.row 30 3 #[vh,vc,vp])],[],⟨g,vh,vc,vp,hh,hc,hp,rfl,rfl,by decide⟩,⟨.inl rfl,.inl rfl,.inl rfl,rfl,trivial⟩,rfl⟩
   ·have c2:¬ w64 (getA g.h x.ins+x.qty) > 1000000000000000:=of_decide_eq_false c2
    have eR:entR day g x=.ok (cashR day { g with h:=putR g.h x.ins (w64 (getA g.h x.ins+x.qty)) } x):=by unfold entR;rw [if_pos k1,if_neg c1,if_neg c2]
    rw [eR]
    have TO:=put_ro hE' (x:=vh) (H:=g.h) (k:=x.ins) (m:=w64 (getA g.h x.ins+x.qty)) rfl (by omega)
    refine ⟨_,rfl,_,rfl,?_⟩
    refine .inr (.inr (.inr ⟨[(9610,9701)],[9600],[_,_,_],[_],_,TO,rfl,⟨.inl rfl,trivial⟩,by kernel_rfl,(by change _=true;kernel_rfl),?_⟩))
    rintro r U ⟨hv2,rfl⟩
    generalize putR g.h x.ins (w64 (getA g.h x.ins+x.qty))=H2 at hv2 ⊢
    obtain ⟨yb,yd,rfl⟩:=hv2.len
    refine ⟨by kernel_rfl,by decide,rfl,#[.slice yb H2.length yd,vc,vp],rfl,by kernel_rfl,?_⟩
    refine ⟨_,rfl,fun s1=>?_,fun s1=>?_⟩
    ·have s1:x.settle≤day:=of_decide_eq_true s1
     have PO:=pay_ro hE' (x:=vc) (C:=g.c) (k:=(x.cur,0)) (m:=x.amt) rfl (by omega)
     have eC:cashR day { g with h:=H2 } x=⟨H2,payR g.c (x.cur,0) x.amt,g.p⟩:=by unfold cashR;rw [if_pos s1]
     rw [eC]
     refine ⟨_,rfl,_,rfl,_,rfl,_,fill_b2 x.cur x.amt rfl,?_⟩
     refine .inr (.inr (.inr ⟨[(9611,9702)],[9601],[_,_],[_],_,PO,rfl,⟨.inl rfl,trivial⟩,by kernel_rfl,(by change _=true;kernel_rfl),?_⟩))
     rintro r U ⟨hv,rfl⟩
     generalize payR g.c (x.cur,0) x.amt=C2 at hv ⊢
     obtain ⟨ya,yc,rfl⟩:=hv.len
     refine ⟨by kernel_rfl,by decide,rfl,#[.slice yb H2.length yd,.slice ya C2.length yc,vp],rfl,by kernel_rfl,?_⟩
     exact ⟨[(9701,Blk.own (.slice yb H2.length yd) 90 2 H2.length (cat sumA H2)),(9702,Blk.own (.slice ya C2.length yc) 85 3 C2.length (cat sumK C2)),(9703,Blk.own vp 85 3 g.p.length (cat sumK g.p)),(9700,Blk.row 30 3 #[.slice yb H2.length yd,.slice ya C2.length yc,vp])],[(9701,9600),(9702,9601)],⟨⟨H2,C2,g.p⟩,.slice yb H2.length yd,.slice ya C2.length yc,vp,hv2,hv,hp,rfl,rfl,rfl⟩,⟨.inl rfl,.inl rfl,.inl rfl,rfl,trivial⟩,rfl⟩
    ·have s1:¬ x.settle≤day:=of_decide_eq_false s1
     have PO:=pay_ro hE' (x:=vp) (C:=g.p) (k:=(x.cur,x.settle)) (m:=x.amt) rfl (by omega)
     have eC:cashR day { g with h:=H2 } x=⟨H2,g.c,payR g.p (x.cur,x.settle) x.amt⟩:=by unfold cashR;rw [if_neg s1]
     rw [eC]
     refine ⟨_,rfl,_,rfl,_,rfl,_,rfl,_,fill_bal ((x.cur,x.settle),x.amt) rfl,?_⟩
     refine .inr (.inr (.inr ⟨[(9611,9703)],[9601],[_,_],[_],_,PO,rfl,⟨.inl rfl,trivial⟩,by kernel_rfl,(by change _=true;kernel_rfl),?_⟩))
     rintro r U ⟨hv,rfl⟩
     generalize payR g.p (x.cur,x.settle) x.amt=C2 at hv ⊢
     obtain ⟨ya,yc,rfl⟩:=hv.len
     refine ⟨by kernel_rfl,by decide,rfl,#[.slice yb H2.length yd,vc,.slice ya C2.length yc],rfl,by kernel_rfl,?_⟩
     exact ⟨[(9701,Blk.own (.slice yb H2.length yd) 90 2 H2.length (cat sumA H2)),(9702,Blk.own vc 85 3 g.c.length (cat sumK g.c)),(9703,Blk.own (.slice ya C2.length yc) 85 3 C2.length (cat sumK C2)),(9700,Blk.row 30 3 #[.slice yb H2.length yd,vc,.slice ya C2.length yc])],[(9701,9600),(9703,9601)],⟨⟨H2,g.c,C2⟩,.slice yb H2.length yd,vc,.slice ya C2.length yc,hv2,hc,hv,rfl,rfl,rfl⟩,⟨.inl rfl,.inl rfl,.inl rfl,rfl,trivial⟩,rfl⟩
 ·have k1:¬ x.kind=1:=by have k1:(x.kind == 1)=false:=k1;simpa using k1
  have eR:entR day g x=.ok (cashR day g x):=by unfold entR;rw [if_neg k1]
  rw [eR]
  refine ⟨_,rfl,fun s1=>?_,fun s1=>?_⟩
  ·have s1:x.settle≤day:=of_decide_eq_true s1
   have PO:=pay_ro hE' (x:=vc) (C:=g.c) (k:=(x.cur,0)) (m:=x.amt) rfl (by omega)
   refine ⟨_,rfl,_,rfl,_,rfl,_,fill_b2 x.cur x.amt rfl,?_⟩
   refine .inr (.inr (.inr ⟨[(9611,9702)],[9601],[_,_],[_],_,PO,rfl,⟨.inl rfl,trivial⟩,by kernel_rfl,(by change _=true;kernel_rfl),?_⟩))
   rintro r U ⟨hv,rfl⟩
   obtain ⟨ya,yc,rfl⟩:=hv.len
   have eC:cashR day g x=⟨g.h,payR g.c (x.cur,0) x.amt,g.p⟩:=by unfold cashR;rw [if_pos s1]
   rw [eC]
   refine ⟨by kernel_rfl,by decide,rfl,#[vh,.slice ya (payR g.c (x.cur,0) x.amt).length yc,vp],rfl,by kernel_rfl,?_⟩
   exact ⟨[(9701,Blk.own vh 90 2 g.h.length (cat sumA g.h)),(9702,Blk.own (.slice ya (payR g.c (x.cur,0) x.amt).length yc) 85 3 (payR g.c (x.cur,0) x.amt).length (cat sumK (payR g.c (x.cur,0) x.amt))),(9703,Blk.own vp 85 3 g.p.length (cat sumK g.p)),(9700,Blk.row 30 3 #[vh,.slice ya (payR g.c (x.cur,0) x.amt).length yc,vp])],[(9702,9601)],⟨⟨g.h,payR g.c (x.cur,0) x.amt,g.p⟩,vh,.slice ya (payR g.c (x.cur,0) x.amt).length yc,vp,hh,hv,hp,rfl,rfl,rfl⟩,⟨.inl rfl,.inl rfl,.inl rfl,rfl,trivial⟩,rfl⟩
  ·have s1:¬ x.settle≤day:=of_decide_eq_false s1
   have PO:=pay_ro hE' (x:=vp) (C:=g.p) (k:=(x.cur,x.settle)) (m:=x.amt) rfl (by omega)
   refine ⟨_,rfl,_,rfl,_,rfl,_,rfl,_,fill_bal ((x.cur,x.settle),x.amt) rfl,?_⟩
   refine .inr (.inr (.inr ⟨[(9611,9703)],[9601],[_,_],[_],_,PO,rfl,⟨.inl rfl,trivial⟩,by kernel_rfl,(by change _=true;kernel_rfl),?_⟩))
   rintro r U ⟨hv,rfl⟩
   obtain ⟨ya,yc,rfl⟩:=hv.len
   have eC:cashR day g x=⟨g.h,g.c,payR g.p (x.cur,x.settle) x.amt⟩:=by unfold cashR;rw [if_neg s1]
   rw [eC]
   refine ⟨by kernel_rfl,by decide,rfl,#[vh,vc,.slice ya (payR g.p (x.cur,x.settle) x.amt).length yc],rfl,by kernel_rfl,?_⟩
   exact ⟨[(9701,Blk.own vh 90 2 g.h.length (cat sumA g.h)),(9702,Blk.own vc 85 3 g.c.length (cat sumK g.c)),(9703,Blk.own (.slice ya (payR g.p (x.cur,x.settle) x.amt).length yc) 85 3 (payR g.p (x.cur,x.settle) x.amt).length (cat sumK (payR g.p (x.cur,x.settle) x.amt))),(9700,Blk.row 30 3 #[vh,vc,.slice ya (payR g.p (x.cur,x.settle) x.amt).length yc])],[(9703,9601)],⟨⟨g.h,g.c,payR g.p (x.cur,x.settle) x.amt⟩,vh,vc,.slice ya (payR g.p (x.cur,x.settle) x.amt).length yc,hh,hc,hv,rfl,rfl,rfl⟩,⟨.inl rfl,.inl rfl,.inl rfl,rfl,trivial⟩,rfl⟩
def actR (g:Led) (a:AC):Except Int Led :=
 if (applyA a (getA g.h a.ins)).2≠0 then .error (applyA a (getA g.h a.ins)).2
 else if a.kind=3 then
  if w64 ((applyA a (getA g.h a.ins)).1.qty+getA (putR g.h a.ins 0) a.into) > 1000000000000000 then .error 171
  else .ok ⟨putR (putR g.h a.ins 0) (applyA a (getA g.h a.ins)).1.ins (w64 ((applyA a (getA g.h a.ins)).1.qty+getA (putR g.h a.ins 0) a.into)),payR g.c (a.cur,0) (applyA a (getA g.h a.ins)).1.cash,g.p⟩
 else .ok ⟨putR g.h (applyA a (getA g.h a.ins)).1.ins (applyA a (getA g.h a.ins)).1.qty,payR g.c (a.cur,0) (applyA a (getA g.h a.ins)).1.cash,g.p⟩
def stepR (day:Int) (g:Led):Ev→Except Int Led
 | .inl a=>actR g a
 | .inr x=>entR day g x
def runR (day:Int):Led→List Ev→Except Int Led
 | g,[]=>.ok g
 | g,o :: r=>match stepR day g o with
  | .error e=>.error e
  | .ok g'=>runR day g' r
def finR (g:Except Int Led):Led×Int:=match g with
 | .error e=>(.zero,e)
 | .ok g=>pfL ⟨nzf g.h,nzf g.c,nzf g.p⟩
structure SimG (r g:Led):Prop where
 h:Sim ltB r.h g.h
 c:Sim ltK2 r.c g.c
 p:Sim ltK2 r.p g.p
theorem SimG.zero:SimG .zero .zero:=⟨Sim.nil _,Sim.nil _,Sim.nil _⟩
def HOk (H:List (Bs×Int)):Prop:=(SrtA ltB H∧NzA H)∧HB H
theorem HOk.set {H:List (Bs×Int)} (h:HOk H) (k:Bs) {v:Int} (hv:0≤v∧v≤1000000000000000):HOk (setA ltB H k v) :=
 ⟨⟨(setA_upd ltB_ok h.1.1 k v).srt,setA_nz ltB_ok h.1.1 h.1.2 k v⟩,HB.set h.2 h.1.1 hv⟩
theorem HOk.hold {H H':List (Bs×Int)} (h:HOk H) {k:Bs} {n:Int} (e:holdL H k n=.ok H'):HOk H'∧H'=setA ltB H k (getA H k+n)∧0≤getA H k+n∧getA H k+n≤1000000000000000:=by
 unfold holdL at e
 split at e
 ·cases e
 ·split at e
  ·cases e
  ·cases e
   exact ⟨h.set k (by omega),rfl,by omega,by omega⟩
theorem pay_ok {f:List (Ky×Int)} (h:SrtA ltK2 f∧NzA f) (k:Ky) (n:Int):SrtA ltK2 (payL f k n)∧NzA (payL f k n) :=
 ⟨(setA_upd ltK2_ok h.1 k _).srt,setA_nz ltK2_ok h.1 h.2 k _⟩
theorem LedOk.hok {g:Led} (h:LedOk g):HOk g.h:=⟨h.h,h.b⟩
theorem settle_ok {day:Int} {g:Led} (h:LedOk g) (x:EC):LedOk (settleL day g x):=by
 unfold settleL
 split
 ·exact ⟨h.h,pay_ok h.c _ _,h.p,h.b⟩
 ·exact ⟨h.h,h.c,pay_ok h.p _ _,h.b⟩
theorem act_okL {g g':Led} (h:LedOk g) {a:AC} (e:actL g a=.ok g'):LedOk g'∧g'.h.length≤g.h.length+2∧g'.c.length≤g.c.length+1∧g'.p=g.p:=by
 unfold actL at e
 split at e
 ·cases e
 ·split at e
  ·cases e
  ·rename_i H hH
   cases e
   obtain ⟨h1,h2,-,-⟩:=(h.hok.set a.ins (v:=0) (by decide)).hold hH
   refine ⟨⟨h1.1,pay_ok h.c _ _,h.p,h1.2⟩,?_,setA_len _ _ _,rfl⟩
   show H.length≤_
   rw [h2]
   have l1:=setA_len (lt:=ltB) (setA ltB g.h a.ins 0) (applyA a (getA g.h a.ins)).1.ins (getA (setA ltB g.h a.ins 0) (applyA a (getA g.h a.ins)).1.ins+(applyA a (getA g.h a.ins)).1.qty)
   have l2:=setA_len (lt:=ltB) g.h a.ins 0
   omega
theorem settle_len (day:Int) (g:Led) (x:EC):(settleL day g x).c.length≤g.c.length+1∧(settleL day g x).p.length≤g.p.length+1:=by
 unfold settleL
 split
 ·exact ⟨setA_len _ _ _,by simp⟩
 ·exact ⟨by simp,setA_len _ _ _⟩
theorem ent_okL {day:Int} {g g':Led} (h:LedOk g) {x:EC} (e:entL day g x=.ok g'):LedOk g'∧g'.h.length≤g.h.length+1∧g'.c.length≤g.c.length+1∧g'.p.length≤g.p.length+1:=by
 have hs:=settle_ok (day:=day) h x
 have hl:=settle_len day g x
 unfold entL at e
 split at e
 ·cases e
  exact ⟨hs,by rw [settle_h];omega,hl.1,hl.2⟩
 ·split at e
  ·cases e
  ·rename_i H hH
   cases e
   obtain ⟨h1,h2,-,-⟩:=h.hok.hold hH
   refine ⟨⟨h1.1,hs.c,hs.p,h1.2⟩,?_,hl.1,hl.2⟩
   show H.length≤_
   rw [h2];exact setA_len _ _ _
theorem step_okL {day:Int} {g g':Led} (h:LedOk g) {o:Ev} (e:stepL day g o=.ok g'):LedOk g'∧g'.h.length≤g.h.length+2∧g'.c.length≤g.c.length+1∧g'.p.length≤g.p.length+1:=by
 cases o with
 | inl a =>
  obtain ⟨h1,h2,h3,h4⟩:=act_okL h e
  exact ⟨h1,h2,h3,by rw [h4];omega⟩
 | inr x =>
  obtain ⟨h1,h2,h3,h4⟩:=ent_okL h e
  exact ⟨h1,by omega,h3,h4⟩
theorem putR_sim {r l:List (Bs×Int)} (h:Sim ltB r l) (hs:SrtA ltB l) (k:Bs) (v:Int):Sim ltB (putR r k v) (setA ltB l k v):=h.set ltB_ok hs (putR_upd h.srt k v)
theorem payR_sim {r l:List (Ky×Int)} (h:Sim ltK2 r l) (hs:SrtA ltK2 l) (k:Ky) {n:Int} (hn:w64 n=n):Sim ltK2 (payR r k n) (payL l k n):=by
 have u:=payR_upd h.srt k hn
 rw [h.get] at u
 exact h.set ltK2_ok hs u
def SameR:Except Int Led→Except Int Led→Prop
 | .error e,.error e'=>e=e'
 | .ok g,.ok r=>SimG r g
 | _,_=>False
theorem apply_cash {a:AC} {q:Int} (h:(applyA a q).2=0):w64 (applyA a q).1.cash=(applyA a q).1.cash:=by
 unfold applyA at h ⊢
 split at h
 ·cases h
 rename_i h1
 split at h
 ·cases h
 rename_i h2
 split at h
 ·cases h
 rename_i h3
 split at h
 ·rename_i h4;exact absurd h h4
 rename_i h4
 rw [if_neg h1,if_neg h2,if_neg h3,if_neg h4]
 show w64 (rndI (rndQ (mulQ (paidQ a q) a.cash).1 2 6)).1=(rndI (rndQ (mulQ (paidQ a q) a.cash).1 2 6)).1
 refine w64_in ?_
 unfold rndI
 split
 ·show -9223372036854775808≤(0:Int)∧(0:Int)≤9223372036854775807
  decide
 ·split
  ·show -9223372036854775808≤(0:Int)∧(0:Int)≤9223372036854775807
   decide
  ·rename_i h5;simp only;omega
theorem act_sim {g r:Led} (h:LedOk g) (hs:SimG r g) (a:AC):SameR (actL g a) (actR r a):=by
 have hg:=hs.h.get a.ins
 unfold actL actR
 rw [hg]
 by_cases h1:(applyA a (getA g.h a.ins)).2≠0
 ·rw [if_pos h1,if_pos h1];rfl
 rw [if_neg h1,if_neg h1]
 obtain ⟨q1,q2,q3,q4,q5,q6⟩:=apply_ok (Classical.not_not.1 h1)
 have hc:=apply_cash (Classical.not_not.1 h1)
 have hC:=payR_sim hs.c h.c.1 (a.cur,0) hc
 have h0:=h.hok.set a.ins (v:=0) (by decide)
 have s0:=putR_sim hs.h h.h.1 a.ins 0
 generalize (applyA a (getA g.h a.ins)).1=x at q3 q4 q6 hC ⊢
 by_cases h3:a.kind=3
 ·rw [if_pos h3]
  have hi:x.ins=a.into:=by rw [q6];unfold intoA;rw [if_pos h3]
  rw [s0.get,hi]
  have hb:=HB.get h0.2 a.into
  have ew:w64 (x.qty+getA (setA ltB g.h a.ins 0) a.into)=getA (setA ltB g.h a.ins 0) a.into+x.qty:=by rw [w64_in (by omega)];omega
  rw [ew]
  unfold holdL
  rw [if_neg (by omega)]
  by_cases h4:getA (setA ltB g.h a.ins 0) a.into+x.qty > 1000000000000000
  ·rw [if_pos h4,if_pos h4];rfl
  ·rw [if_neg h4,if_neg h4]
   exact ⟨putR_sim s0 h0.1.1 a.into _,hC,hs.p⟩
 ·rw [if_neg h3]
  have hi:x.ins=a.ins:=by rw [q6];unfold intoA;rw [if_neg h3]
  rw [hi]
  have hz:getA (setA ltB g.h a.ins 0) a.ins=0:=by rw [(setA_upd ltB_ok h.h.1 a.ins 0).get,if_pos rfl]
  unfold holdL
  rw [hz,if_neg (by omega),if_neg (by omega)]
  refine ⟨⟨(putR_upd hs.h.srt a.ins x.qty).srt,fun k'=>?_⟩,hC,hs.p⟩
  show getA (putR r.h a.ins x.qty) k'=getA (setA ltB (setA ltB g.h a.ins 0) a.ins (0+x.qty)) k'
  rw [(putR_upd hs.h.srt a.ins x.qty).get,(setA_upd ltB_ok h0.1.1 a.ins (0+x.qty)).get,(setA_upd ltB_ok h.h.1 a.ins 0).get,hs.h.get,Int.zero_add]
  by_cases hk:k'=a.ins
  ·rw [if_pos hk,if_pos hk]
  ·rw [if_neg hk,if_neg hk,if_neg hk]
structure EOk (x:EC):Prop where
 q : -1000000000000000≤x.qty∧x.qty≤1000000000000000
 m:w64 x.amt=x.amt
 d:0≤x.day∧x.day≤73048
 k:x.kind=1∨x.kind=2∨(x.kind=0∧x.qty=0)
theorem inB_iff {n lo hi:Int}:inB n lo hi=true↔lo≤n∧n≤hi:=by
 unfold inB
 rw [Bool.and_eq_true,decide_eq_true_eq,decide_eq_true_eq]
theorem EC.beq_nil {x:EC} {key:List UInt8} {known:Int} (h:x.beq (.nil key known)=true):x.kind=0∧x.day=0∧x.qty=0∧x.amt=0:=by
 unfold EC.beq EC.nil at h
 simp only [Bool.and_eq_true,beq_iff_eq] at h
 exact ⟨h.1,h.2.2.1,h.2.2.2.2.2.1,h.2.2.2.2.2.2.1⟩
theorem EOk.of {x:EC} (h:validE x=true):EOk x:=by
 unfold validE at h
 simp only [Bool.and_eq_true] at h
 obtain ⟨-,h⟩:=h
 split at h
 ·obtain ⟨h1,h2,h3,h4⟩:=EC.beq_nil h
  exact ⟨by omega,by rw [h4];rfl,by omega,.inr (.inr ⟨h1,h3⟩)⟩
 ·simp only [Bool.and_eq_true,bodyE,inB_iff,decide_eq_true_eq] at h
  obtain ⟨⟨h1,h2,h3,-⟩,h4⟩:=h
  have hm:w64 x.amt=x.amt:=w64_in (by omega)
  unfold kindE at h4
  split at h4
  ·rename_i hk
   simp only [Bool.and_eq_true,inB_iff] at h4
   exact ⟨h4.2.2,hm,by omega,.inl hk⟩
  ·split at h4
   ·rename_i hk
    simp only [Bool.and_eq_true,beq_iff_eq] at h4
    exact ⟨by omega,hm,by omega,.inr (.inl hk)⟩
   ·cases h4
theorem settle_sim {day:Int} {g r:Led} (h:LedOk g) (hs:SimG r g) {x:EC} (hx:EOk x) {H R:List (Bs×Int)} (hh:Sim ltB R H):SimG (cashR day { r with h:=R } x) { settleL day g x with h:=H }:=by
 unfold cashR settleL
 split
 ·exact ⟨hh,payR_sim hs.c h.c.1 _ hx.m,hs.p⟩
 ·exact ⟨hh,hs.c,payR_sim hs.p h.p.1 _ hx.m⟩
theorem ent_sim {day:Int} {g r:Led} (h:LedOk g) (hs:SimG r g) {x:EC} (hx:EOk x):SameR (entL day g x) (entR day r x):=by
 have hb:=HB.get h.b x.ins
 have hg:=hs.h.get x.ins
 have hq:=hx.q
 unfold entL entR
 rcases hx.k with k1 | k1 | ⟨k1,k2⟩
 ·rw [if_neg (by omega),if_pos k1,hg,w64_in (n:=getA g.h x.ins+x.qty) (by omega)]
  unfold holdL
  by_cases h1:getA g.h x.ins+x.qty < 0
  ·rw [if_pos h1,if_pos h1];rfl
  ·rw [if_neg h1,if_neg h1]
   by_cases h2:getA g.h x.ins+x.qty > 1000000000000000
   ·rw [if_pos h2,if_pos h2];rfl
   ·rw [if_neg h2,if_neg h2]
    exact settle_sim h hs hx (putR_sim hs.h h.h.1 x.ins _)
 ·rw [if_pos k1,if_neg (by omega)]
  have:=settle_sim (day:=day) h hs hx (H:=(settleL day g x).h) (R:=r.h) (by rw [settle_h];exact hs.h)
  exact this
 ·rw [if_neg (by omega),if_neg (by omega)]
  have e:holdL g.h x.ins x.qty=.ok g.h:=by
   unfold holdL
   rw [k2,if_neg (by omega),if_neg (by omega),Int.add_zero]
   rw [← setA_eq ltB_ok h.h.1 h.h.2 (Upd.same h.h.1 x.ins) h.h.2]
  rw [e]
  exact settle_sim h hs hx hs.h
theorem run_sim {day:Int}:∀ (ops:List Ev) {g r:Led},LedOk g→SimG r g→(∀ x,Sum.inr x∈ops→EOk x)→finR (runR day r ops)=finL (runL day g ops)
 | [],g,r,h,hs,_=>by
  show pfL ⟨nzf r.h,nzf r.c,nzf r.p⟩=finL (.ok g)
  rw [hs.h.nzf ltB_ok h.h.1 h.h.2,hs.c.nzf ltK2_ok h.c.1 h.c.2,hs.p.nzf ltK2_ok h.p.1 h.p.2]
  rfl
 | o :: l,g,r,h,hs,hx=>by
  have S:SameR (stepL day g o) (stepR day r o):=by
   cases o with
   | inl a=>exact act_sim h hs a
   | inr x=>exact ent_sim h hs (hx x (by simp))
  rw [runL,runR]
  cases e1:stepL day g o with
  | error e =>
   rw [e1] at S
   cases e2:stepR day r o with
   | error e' =>
    rw [e2] at S
    have S:e=e':=S
    subst S;rfl
   | ok r'=>rw [e2] at S;exact S.elim
  | ok g' =>
   rw [e1] at S
   cases e2:stepR day r o with
   | error e'=>rw [e2] at S;exact S.elim
   | ok r' =>
    rw [e2] at S
    exact run_sim l (step_okL h e1).1 S fun x hx'=>hx x (by simp [hx'])
def atP (xs:List EC) (al:List AC) (k day:Int):Led×Int :=
 if chkX xs≠0 then (.zero,chkX xs) else if chkA al≠0 then (.zero,chkA al) else if inB day 0 73048=false then (.zero,50) else finL (runL day .zero (opsL (visA al k) (visX xs k) day))
theorem visX_ok {xs:List EC} {k:Int}:∀ x∈visX xs k,x∈xs∧EOk x:=fun x hx=>by
 unfold visX at hx
 split at hx
 ·rename_i h
  obtain ⟨i,-,hi⟩:=List.mem_filterMap.1 hx
  have hm:=List.mem_of_getElem? hi
  refine ⟨hm,.of ?_⟩
  unfold chkX at h
  split at h
  ·rename_i h';exact List.all_eq_true.1 h' x hm
  ·cases h
 ·cases hx
theorem visA_mem {al:List AC} {k:Int}:∀ x∈visA al k,x∈al∧validA x=true:=fun x hx=>by
 unfold visA at hx
 split at hx
 ·rename_i h
  obtain ⟨i,-,hi⟩:=List.mem_filterMap.1 hx
  have hm:=List.mem_of_getElem? hi
  refine ⟨hm,?_⟩
  unfold chkA at h
  split at h
  ·rename_i h';exact List.all_eq_true.1 h' x hm
  ·cases h
 ·cases hx
theorem ops_mem {al:List AC} {xs:List EC} {day:Int} {o:Ev} (h:o∈opsL al xs day):(∃ a∈al,o=.inl a)∨∃ x∈xs,o=.inr x:=by
 unfold opsL at h
 have h:=(stabK_stab dayO _).perm.mem_iff.1 h
 obtain ⟨h,-⟩:=List.mem_filter.1 h
 rcases List.mem_append.1 h with h | h
 ·obtain ⟨a,ha,rfl⟩:=List.mem_map.1 h
  exact .inl ⟨a,ha,rfl⟩
 ·obtain ⟨x,hx,rfl⟩:=List.mem_map.1 h
  exact .inr ⟨x,hx,rfl⟩
theorem at_sim (xs:List EC) (al:List AC) (k day:Int):finR (runR day .zero (opsL (visA al k) (visX xs k) day))=finL (runL day .zero (opsL (visA al k) (visX xs k) day)) :=
 run_sim _ .zero .zero fun x hx=>by
  rcases ops_mem hx with ⟨a,-,h⟩ | ⟨x',hx',h⟩
  ·cases h
  ·cases h;exact (visX_ok x hx').2
def insD (d:Int):List Int→List Int
 | []=>[d]
 | a :: r=>if a < d then a :: insD d r else if a=d then a :: r else d :: a :: r
def insM (l:List Int) (d most:Int):List Int:=if d > most then l else insD d l
theorem insD_mem (d:Int):∀ (l:List Int) (z:Int),z∈insD d l↔z∈l∨z=d
 | [],z=>by simp [insD]
 | a :: r,z=>by
  rw [insD]
  split
  ·rw [List.mem_cons,insD_mem d r z,List.mem_cons]
   constructor
   ·rintro (h | h | h)
    ·exact .inl (.inl h)
    ·exact .inl (.inr h)
    ·exact .inr h
   ·rintro ((h | h) | h)
    ·exact .inl h
    ·exact .inr (.inl h)
    ·exact .inr (.inr h)
  ·split
   ·rename_i h
    constructor
    ·exact .inl
    ·rintro (h2 | h2)
     ·exact h2
     ·rw [h2,← h];simp
   ·rw [List.mem_cons]
    constructor
    ·rintro (h | h)
     ·exact .inr h
     ·exact .inl h
    ·rintro (h | h)
     ·exact .inr h
     ·exact .inl h
theorem insD_pw (d:Int):∀ {l:List Int},l.Pairwise (· < ·)→(insD d l).Pairwise (· < ·)
 | [],_=>by simp [insD]
 | a :: r,h=>by
  obtain ⟨h1,h2⟩:=List.pairwise_cons.1 h
  rw [insD]
  split
  ·rename_i h3
   refine List.pairwise_cons.2 ⟨fun z hz=>?_,insD_pw d h2⟩
   rcases (insD_mem d r z).1 hz with h4 | h4
   ·exact h1 z h4
   ·omega
  ·split
   ·exact h
   ·refine List.pairwise_cons.2 ⟨fun z hz=>?_,h⟩
    rcases List.mem_cons.1 hz with h4 | h4
    ·omega
    ·have:=h1 z h4;omega
theorem insD_at (d:Int):∀ (l:List Int) (i:Nat),(∀ (j:Nat) y,j < i→l[j]? = some y→y < d)→(∀ y,l[i]? = some y→¬ y < d)→i≤l.length→insD d l=if l[i]? = some d then l else l.take i++d :: l.drop i
 | [],i,_,_,h=>by
  have:i=0:=by simp at h;exact h
  subst this;rfl
 | a :: r,0,_,h2,_=>by
  have h3:=h2 a rfl
  rw [insD,if_neg h3]
  by_cases e:a=d
  ·rw [if_pos e,if_pos (by rw [e];rfl)]
  ·rw [if_neg e,if_neg (fun h=>e (by cases h;rfl))];rfl
 | a :: r,i+1,h1,h2,h3=>by
  have h4:=h1 0 a (by omega) rfl
  rw [insD,if_pos h4,insD_at d r i (fun j y hj hy=>h1 (j+1) y (by omega) (by simpa using hy)) (fun y hy=>h2 y (by simpa using hy)) (by simp at h3;omega)]
  show (a :: if r[i]? = some d then r else r.take i++d :: r.drop i)=if r[i]? = some d then a :: r else a :: r.take i++d :: r.drop i
  split<;>rfl
theorem insD_len (d:Int):∀ (l:List Int),(insD d l).length≤l.length+1
 | []=>by simp [insD]
 | a :: r=>by
  have:=insD_len d r
  rw [insD]
  split
  ·simp only [List.length_cons];omega
  ·split<;>simp only [List.length_cons]<;>omega
theorem insM_len (l:List Int) (d most:Int):(insM l d most).length≤l.length+1:=by
 unfold insM
 split
 ·omega
 ·exact insD_len d l
def daysD (most:Int) (l:List Int) (ds:List Int):List Int:=ds.foldl (fun l d=>insM l d most) l
theorem daysD_one {most:Int} {l ds:List Int} {i:Nat} {d:Int} (h:ds[i]? = some d):daysD most l (ds.take (i+1))=insM (daysD most l (ds.take i)) d most:=by
 rw [take_one h]
 unfold daysD
 rw [List.foldl_append];rfl
theorem daysD_app (most:Int) (l ds es:List Int):daysD most l (ds++es)=daysD most (daysD most l ds) es:=by unfold daysD;rw [List.foldl_append]
theorem daysD_ok (most:Int):∀ (ds l:List Int),l.Pairwise (· < ·)→(daysD most l ds).Pairwise (· < ·)∧∀ z,z∈daysD most l ds↔z∈l∨(z≤most∧z∈ds)
 | [],l,h=>⟨h,fun z=>by simp [daysD]⟩
 | d :: r,l,h=>by
  have hp:(insM l d most).Pairwise (· < ·):=by
   unfold insM
   split
   ·exact h
   ·exact insD_pw d h
  obtain ⟨h1,h2⟩:=daysD_ok most r _ hp
  refine ⟨h1,fun z=>(h2 z).trans ?_⟩
  have hm:z∈insM l d most↔z∈l∨(z=d∧d≤most):=by
   unfold insM
   split
   ·constructor
    ·exact .inl
    ·rintro (h | h)
     ·exact h
     ·omega
   ·rw [insD_mem]
    constructor
    ·rintro (h | h)
     ·exact .inl h
     ·exact .inr ⟨h,by omega⟩
    ·rintro (h | h)
     ·exact .inl h
     ·exact .inr h.1
  rw [hm,List.mem_cons]
  constructor
  ·rintro ((h | ⟨h,h'⟩) | ⟨h,h'⟩)
   ·exact .inl h
   ·exact .inr ⟨by omega,.inl h⟩
   ·exact .inr ⟨h,.inr h'⟩
  ·rintro (h | ⟨h,h' | h'⟩)
   ·exact .inl (.inl h)
   ·exact .inl (.inr ⟨h',by omega⟩)
   ·exact .inr ⟨h,h'⟩
theorem daysD_len (most:Int):∀ (ds l:List Int),(daysD most l ds).length≤l.length+ds.length
 | [],l=>by simp [daysD]
 | d :: r,l=>by
  have h1:=daysD_len most r (insM l d most)
  have h2:=insM_len l d most
  show (daysD most (insM l d most) r).length≤_
  simp only [List.length_cons];omega
def allD (al:List AC) (xs:List EC) (day:Int):List Int:=daysD day [] (al.map AC.day++xs.map EC.day)
def onD (al:List AC) (xs:List EC) (d:Int):List Ev:=(al.filter fun a=>decide (a.day=d)).map (Sum.inl:AC→Ev)++(xs.filter fun x=>decide (x.day=d)).map (Sum.inr:EC→Ev)
theorem ops_all (al:List AC) (xs:List EC) (day:Int):opsL al xs day=(allD al xs day).flatMap (onD al xs):=by
 obtain ⟨h1,h2⟩:=daysD_ok day (al.map AC.day++xs.map EC.day) [] .nil
 refine ops_days al xs day h1 fun d=>(h2 d).trans ?_
 rw [List.mem_append,List.mem_map,List.mem_map]
 constructor
 ·rintro (h | ⟨h,h'⟩)
  ·cases h
  ·exact ⟨h,h'⟩
 ·exact fun h=>.inr h
/-! ### what is left of the two lists of the program -/
def restL (day:Int) (al:List AC) (xs:List EC):List Ev:=(mergeK dayO (al.map (Sum.inl:AC→Ev)) (xs.map (Sum.inr:EC→Ev))).filter fun o=>decide (dayO o≤day)
theorem srt_inl {al:List AC} (h:Srt AC.day al):Srt dayO (al.map (Sum.inl:AC→Ev)):=List.pairwise_map.2 h
theorem srt_inr {xs:List EC} (h:Srt EC.day xs):Srt dayO (xs.map (Sum.inr:EC→Ev)):=List.pairwise_map.2 h
theorem rest_end {day:Int} {al:List AC} {xs:List EC} (ha:Srt AC.day al) (hx:Srt EC.day xs) {o:Ev} {r:List Ev} (h:mergeK dayO (al.map (Sum.inl:AC→Ev)) (xs.map (Sum.inr:EC→Ev))=o :: r) (hd:day < dayO o):restL day al xs=[]:=by
 have hs:=merge_srt dayO (srt_inl ha) (srt_inr hx)
 unfold restL
 rw [h] at hs ⊢
 obtain ⟨h1,-⟩:=List.pairwise_cons.1 hs
 refine List.filter_eq_nil_iff.2 fun z hz=>?_
 simp only [decide_eq_true_eq]
 rcases List.mem_cons.1 hz with rfl | hz
 ·omega
 ·have:=h1 z hz;omega
theorem merge_a {a:AC} {al:List AC} {xs:List EC} (h:∀ x,xs[0]? = some x→a.day≤x.day):mergeK dayO ((a :: al).map (Sum.inl:AC→Ev)) (xs.map (Sum.inr:EC→Ev))=.inl a :: mergeK dayO (al.map (Sum.inl:AC→Ev)) (xs.map (Sum.inr:EC→Ev)):=by
 cases xs with
 | nil=>rw [List.map_nil,mergeK_nr,mergeK_nr];rfl
 | cons x r =>
  have:=h x rfl
  show mergeK dayO (.inl a :: _) (.inr x :: _)=_
  rw [mergeK_cons,if_pos (show dayO (.inl a)≤dayO (.inr x) from this)];rfl
theorem merge_x {x:EC} {al:List AC} {xs:List EC} (h:∀ a,al[0]? = some a→¬ a.day≤x.day):mergeK dayO (al.map (Sum.inl:AC→Ev)) ((x :: xs).map (Sum.inr:EC→Ev))=.inr x :: mergeK dayO (al.map (Sum.inl:AC→Ev)) (xs.map (Sum.inr:EC→Ev)):=by
 cases al with
 | nil=>rw [List.map_nil,mergeK_nl,mergeK_nl];rfl
 | cons a r =>
  have:=h a rfl
  show mergeK dayO (.inl a :: _) (.inr x :: _)=_
  rw [mergeK_cons,if_neg (show ¬ dayO (.inl a)≤dayO (.inr x) from this)];rfl
theorem rest_a {day:Int} {a:AC} {al:List AC} {xs:List EC} (h:∀ x,xs[0]? = some x→a.day≤x.day) (hd:a.day≤day):restL day (a :: al) xs=.inl a :: restL day al xs:=by
 unfold restL
 rw [merge_a h,List.filter_cons,if_pos (decide_eq_true (show dayO (.inl a)≤day from hd))]
theorem rest_x {day:Int} {x:EC} {al:List AC} {xs:List EC} (h:∀ a,al[0]? = some a→¬ a.day≤x.day) (hd:x.day≤day):restL day al (x :: xs)=.inr x :: restL day al xs:=by
 unfold restL
 rw [merge_x h,List.filter_cons,if_pos (decide_eq_true (show dayO (.inr x)≤day from hd))]
theorem rest_nil (day:Int):restL day [] []=[]:=by
 unfold restL
 rw [List.map_nil,List.map_nil,mergeK_nl]
 rfl
theorem rest_all (al:List AC) (xs:List EC) (day:Int):restL day (stabK AC.day al) (stabK EC.day xs)=opsL al xs day:=(ops_merge al xs day).symm
def CapU (U:MemL):Prop:=∀ d v e sz n A,getM U d=some (Blk.own v e sz n A)→∃ a c,v=.slice a n c∧n≤c
theorem OwnC.caps {E:Env} {f:FuncId} {vs:List SV} {pre:MemL} {Q:Value→MemL→Prop} (h:OwnC E f vs pre Q):OwnC E f vs pre (fun r U=>Q r U∧CapU U) :=
 ⟨h.1,fun ρ w xs h1 h2=>(h.2 ρ w xs h1 h2).mono fun _e w' ⟨x,U,h3,h4,h5,h6⟩=>⟨x,U,h3,⟨h4,fun d v e sz n A hd=>by
  have h7:w'.ownsRow 0 e sz v n A.toList:=(h5.loose d _ hd rfl).2
  rcases h7.2 with ⟨h0,hn⟩ | ⟨g',cap',cur,hv,hb,hg,hnc,hcm,hcs,htake⟩
  ·exact ⟨none,0,by rw [h0,hn],by omega⟩
  ·exact ⟨_,cap',hv,hnc⟩⟩,h5,h6⟩⟩
def TailS (x:Value) (sz n i:Nat) (v:Value):Prop:=i≤n∧∃ a c,v=.slice a (n - i) c∧n - i≤c∧(i < n→∃ g c0,x=.slice (some ⟨g,0,none⟩) n c0∧a=some ⟨g,i*sz,none⟩)
theorem TailS.start {x:Value} {sz n:Nat} (h:IsL x n) (hc:∃ a c,x=.slice a n c∧n≤c):TailS x sz n 0 x:=by
 obtain ⟨a,c,rfl,hn⟩:=hc
 refine ⟨by omega,a,c,rfl,by omega,fun h0=>?_⟩
 rcases h with ⟨h1,h2⟩ | ⟨g,c0,h1⟩
 ·omega
 ·cases h1
  exact ⟨g,c,rfl,by rw [Nat.zero_mul]⟩
theorem TailS.next {x:Value} {sz n i c m:Nat} {a:Option Addr} (hz:sz≠0) (h:TailS x sz n i (.slice a m c)) (hi:i < n):TailS x sz n (i+1) (.slice (if c=1 then a else a.map (·.add (1*sz))) (m - 1) (c - 1)):=by
 obtain ⟨h1,a',c',h2,h3,h4⟩:=h
 cases h2
 refine ⟨by omega,_,_,rfl,by omega,fun h5=>?_⟩
 obtain ⟨g,c0,h6,rfl⟩:=h4 hi
 refine ⟨g,c0,h6,?_⟩
 rw [if_neg (by omega)]
 show some (Addr.add ⟨g,i*sz,none⟩ (1*sz))=_
 simp only [Addr.add,Nat.succ_mul,Nat.zero_mul,Nat.zero_add,if_neg hz]
theorem TailS.len {x v:Value} {sz n i:Nat} (h:TailS x sz n i v):∃ a c,v=.slice a (n - i) c:=by
 obtain ⟨-,a,c,h,-⟩:=h
 exact ⟨a,c,h⟩
theorem TailS.at {x v:Value} {sz n i:Nat} (h:TailS x sz n i v) (hi:i < n):∃ g c0 c,x=.slice (some ⟨g,0,none⟩) n c0∧v=.slice (some ⟨g,i*sz,none⟩) (n - i) c:=by
 obtain ⟨-,a,c,rfl,-,h4⟩:=h
 obtain ⟨g,c0,h5,rfl⟩:=h4 hi
 exact ⟨g,c0,c,h5,rfl⟩
theorem elem_is18 {P:Program} {t e:TypeId} (hu:P.underlying t=some (.slice e)):P.elem t=e:=by simp [Program.elem,hu]
theorem runs_lo18 {E:VE} (hE:VOk E) {t e:TypeId} (hu:E.P.underlying t=some (.slice e)) {j:TI} (hj:E.tt e=some j) {a:Option Addr} {n cap:Nat} {k:IntKind} {x:Int} (i:Nat) (hx:x=i) (hi:i≤n):Runs E.toEnv (Instr.sliceAt t (.slice a n cap) (some (.int k x)) none none) (.slice (if cap=i then a else a.map (·.add (i*j.size))) (n - i) (cap - i)):=fun w _=>by
 subst hx
 have he:=elem_is18 hu
 have hu2:E.P.underlying t=some (.slice (E.P.elem t)):=by rw [he];exact hu
 rw [run_sliceAt_slice _ t _ _ _ _ hu2,run_slice_l _ t a n cap hu2 k i (by omega) (by omega),he,Go.SX.run_sizeOf (hE _ j hj)]
 simp only [Result.andThen_ok,sliced,Int.toNat_natCast]
theorem runs_hi18 {E:VE} (hE:VOk E) {t e:TypeId} (hu:E.P.underlying t=some (.slice e)) {j:TI} (hj:E.tt e=some j) {a:Option Addr} {n cap:Nat} {k:IntKind} {x:Int} (i:Nat) (hx:x=i) (hi:i≤cap):Runs E.toEnv (Instr.sliceAt t (.slice a n cap) none (some (.int k x)) none) (.slice a i cap):=fun w _=>by
 subst hx
 have he:=elem_is18 hu
 have hu2:E.P.underlying t=some (.slice (E.P.elem t)):=by rw [he];exact hu
 rw [run_sliceAt_slice _ t _ _ _ _ hu2,run_slice_h _ t a n cap hu2 k i (by omega) (by omega),he,Go.SX.run_sizeOf (hE _ j hj)]
 simp only [Result.andThen_ok,sliced,Int.toNat_natCast,Nat.zero_mul,Nat.sub_zero]
 congr 2
 split
 ·rfl
 ·cases a with
  | none=>rfl
  | some a=>simp [Addr.add]
def AtQ (R:Led×Int) (r:Value) (U:MemL):Prop:=∃ xh xc xp,IsL xh R.1.h.length∧IsL xc R.1.c.length∧IsL xp R.1.p.length∧r=.tuple #[.agg #[xh,xc,xp],.int .i64 R.2]∧U=[(9506,Blk.own xh 90 2 R.1.h.length (cat sumA R.1.h)),(9507,Blk.own xc 85 3 R.1.c.length (cat sumK R.1.c)),(9508,Blk.own xp 85 3 R.1.p.length (cat sumK R.1.p))]
theorem AtQ.bad (e:Int):AtQ (.zero,e) (.tuple #[.agg #[.slice none 0 0,.slice none 0 0,.slice none 0 0],.int .i64 e]) [(9506,Blk.own (.slice none 0 0) 90 2 0 #[]),(9507,Blk.own (.slice none 0 0) 85 3 0 #[]),(9508,Blk.own (.slice none 0 0) 85 3 0 #[])] :=
 ⟨.slice none 0 0,.slice none 0 0,.slice none 0 0,.nil,.nil,.nil,rfl,rfl⟩
theorem day_ok {a:AC} (h:validA a=true):0≤a.day∧a.day≤73048:=by
 unfold validA at h
 simp only [Bool.and_eq_true] at h
 obtain ⟨-,h⟩:=h
 split at h
 ·unfold AC.beq AC.nil at h
  simp only [Bool.and_eq_true,beq_iff_eq] at h
  have:=h.2.2.2.2.1
  omega
 ·simp only [Bool.and_eq_true,bodyOk,Bool.not_eq_true',decide_eq_false_iff_not] at h
  omega
theorem visX_len {xs:List EC} {k:Int} (h:chkX xs=0):(visX xs k).length≤4096:=by
 unfold visX
 rw [if_pos h,fm_lenE fun i hi=>visNE_mem hi]
 have h1:=visNE_len xs k
 have h2:=(chkX_zero h).2
 omega
theorem visA_len {al:List AC} {k:Int} (h:chkA al=0):(visA al k).length≤4096:=by
 unfold visA
 rw [if_pos h,fm_len fun i hi=>visN_mem hi]
 have h1:=visN_len al k
 have h2:=(chkA_zero h).2
 omega
theorem offA0 (i:Nat):offAt (i*76) 0 ti61.size=i*76:=by
 show offAt (i*76) 0 76=i*76
 simp [offAt]
theorem offX0 (i:Nat):offAt (i*10) 0 ti47.size=i*10:=by
 show offAt (i*10) 0 10=i*10
 simp [offAt]
set_option smartUnfolding false in
set_option maxRecDepth 100000 in
set_option maxHeartbeats 4000000 in
theorem at_z {E:Env} (hE:E.P=Tryz.prog) {ve va:Value} {xs:List EC} {al:List AC} {k day:Int} (hv:Lst E ve 10 xs.length (cat EC.A xs)) (hva:Lst E va 76 al.length (cat AC.A al)) (hn:xs.length≤2000000000000) (hm:al.length≤1000000000000) (hin:∀ y∈xs,y.In) (hina:∀ y∈al,y.In):OwnC E 7 [SV.c ve,SV.c va,SV.c (.int .i64 k),SV.c (.int .i64 day)] [] (AtQ (atP xs al k day)):=by
 refine sx_ownC [21,23] tt_ok mixed at7 E hE [SV.c ve,SV.c va,SV.c (.int .i64 k),SV.c (.int .i64 day)] [] _ rfl rfl fun w X β hT=>?_
 have hv':=hv.of_old hT
 have hva':=hva.of_old hT
 have C1:=OwnC.caps (vis_e (E:=(envC Tryz.prog tt Tryz.f7.ntmps w X (tiedK [] β) [21,23]).toEnv) (k:=k) rfl hv' hn hin)
 have C2:=OwnC.caps (vis_za (E:=(envC Tryz.prog tt Tryz.f7.ntmps w X (tiedK [] β) [21,23]).toEnv) (k:=k) rfl hva' hm hina)
 refine .inr (.inr (.inr ⟨[],[3000],[_,_],[],_,C1,rfl,trivial,rfl,trivial,?_⟩))
 rintro r U ⟨⟨sx,nx,hsx,rfl,hx,rfl⟩,hcx⟩
 refine ⟨rfl,?_⟩
 have bad:∀ e:Int,atP xs al k day=(.zero,e)→AtQ (atP xs al k day) (.tuple #[.agg #[.slice none 0 0,.slice none 0 0,.slice none 0 0],.int .i64 e]) [(9506,Blk.own (.slice none 0 0) 90 2 0 #[]),(9507,Blk.own (.slice none 0 0) 85 3 0 #[]),(9508,Blk.own (.slice none 0 0) 85 3 0 #[])]:=fun e h=>by
  rw [h];exact AtQ.bad e
 refine ⟨fun h=>?_,fun h=>?_⟩
 ·have h:(chkX xs != 0)=true:=h
  have h:chkX xs≠0:=by simpa using h
  have hP:atP xs al k day=(.zero,chkX xs):=by unfold atP;rw [if_pos h]
  refine ⟨_,rfl,nil3_fits,?_⟩
  exact ⟨_,[],bad _ hP,⟨.inr ⟨rfl,rfl,rfl⟩,.inr ⟨rfl,rfl,rfl⟩,.inr ⟨rfl,rfl,rfl⟩,trivial⟩,rfl⟩
 have h:(chkX xs != 0)=false:=h
 have hX:chkX xs=0:=by simpa using h
 refine .inr (.inr (.inr ⟨[(3000,3001)],[3001],[_,_],[],_,C2,rfl,trivial,rfl,trivial,?_⟩))
 rintro r U ⟨⟨sa,na,hsa,rfl,ha,rfl⟩,hca⟩
 refine ⟨rfl,?_⟩
 refine ⟨fun h=>?_,fun h=>?_⟩
 ·have h:(chkA al != 0)=true:=h
  have h:chkA al≠0:=by simpa using h
  have hP:atP xs al k day=(.zero,chkA al):=by unfold atP;rw [if_neg (fun h=>h hX),if_pos h]
  refine ⟨_,rfl,nil3_fits,?_⟩
  exact ⟨_,[],bad _ hP,⟨.inr ⟨rfl,rfl,rfl⟩,.inr ⟨rfl,rfl,rfl⟩,.inr ⟨rfl,rfl,rfl⟩,trivial⟩,rfl⟩
 have h:(chkA al != 0)=false:=h
 have hA:chkA al=0:=by simpa using h
 refine .inl ⟨_,within_p day 0 73048,fun h=>?_,fun h=>?_⟩
 ·have h:(!(inB day 0 73048))=true:=h
  have h:inB day 0 73048=false:=by simpa using h
  have hP:atP xs al k day=(.zero,50):=by unfold atP;rw [if_neg (fun h=>h hX),if_neg (fun h=>h hA),if_pos h]
  refine ⟨_,rfl,nil3_fits,?_⟩
  exact ⟨_,[],bad _ hP,⟨.inr ⟨rfl,rfl,rfl⟩,.inr ⟨rfl,rfl,rfl⟩,.inr ⟨rfl,rfl,rfl⟩,trivial⟩,rfl⟩
 have h:(!(inB day 0 73048))=false:=h
 have hD:inB day 0 73048=true:=by simpa using h
 have hP:atP xs al k day=finL (runL day .zero (opsL (visA al k) (visX xs k) day)):=by unfold atP;rw [if_neg (fun h=>h hX),if_neg (fun h=>h hA),if_neg (by rw [hD];decide)]
 have dX:dayIne (visX xs k):=fun z hz=>(visX_ok z hz).2.d
 have dA:dayIna (visA al k):=fun z hz=>day_ok (visA_mem z hz).2
 have nX:nx≤4096:=by rw [hsx];exact visX_len hX
 have nA:na≤4096:=by rw [hsa];exact visA_len hA
 have hcx:=hcx 3000 _ _ _ _ _ rfl
 have hca:=hca 3000 _ _ _ _ _ rfl
 have S1:=sortS_e (E:=(envC Tryz.prog tt Tryz.f7.ntmps w X (tiedK [] β) [21,23]).toEnv) rfl hx hsx (by omega) dX
 have S2:=sortS_a (E:=(envC Tryz.prog tt Tryz.f7.ntmps w X (tiedK [] β) [21,23]).toEnv) rfl ha hsa (by omega) dA
 refine .inr (.inr (.inl ⟨[(6000,3000)],[_,_],[_],_,[_],S1,rfl,⟨.inl rfl,trivial⟩,rfl,rfl,?_⟩))
 refine .inr (.inr (.inl ⟨[(6000,3001)],[_,_],[_],_,[_],S2,rfl,⟨.inl rfl,trivial⟩,rfl,rfl,?_⟩))
 refine ⟨#[fnW 28,.slice none 0 0],rfl,#[fnW 29,.slice none 0 0],rfl,#[fnW 29,.slice none 0 0],rfl,LdA (.slice none 0 0) (.slice none 0 0) (.slice none 0 0) day,rfl,?_⟩
 have sA:Srt AC.day (stabK AC.day (visA al k)):=(stabK_stab AC.day _).srt
 have sX:Srt EC.day (stabK EC.day (visX xs k)):=(stabK_stab EC.day _).srt
 have lA:(stabK AC.day (visA al k)).length=na:=by rw [(stabK_stab AC.day _).len];exact hsa.symm
 have lX:(stabK EC.day (visX xs k)).length=nx:=by rw [(stabK_stab EC.day _).len];exact hsx.symm
 have mA:∀ a∈stabK AC.day (visA al k),a.In:=fun a h=>hina a (visA_mem a ((stabK_stab AC.day _).perm.mem_iff.1 h)).1
 have mX:∀ x∈stabK EC.day (visX xs k),EOk x:=fun x h=>(visX_ok x ((stabK_stab EC.day _).perm.mem_iff.1 h)).2
 rw [← rest_all] at hP
 generalize stabK AC.day (visA al k)=A at sA lA mA hP ⊢
 generalize stabK EC.day (visX xs k)=B at sX lX mX hP ⊢
 refine ⟨rfl,fun f m=>∃ (g:Led) (vh vc vp:Value),IsL vh g.h.length∧IsL vc g.c.length∧IsL vp g.p.length∧(g.h.length≤16384∧g.c.length≤8192∧g.p.length≤8192)∧atP xs al k day=pfL g∧f=[(8,SV.ptr 8 0),(13,SV.ptr 48 0)]∧m=[(8,Blk.row 30 3 #[.slice none 0 0,.slice none 0 0,.slice none 0 0]),(48,Blk.row 73 7 (LdA vh vc vp day)),(9501,Blk.own vh 120 2 (g.h).length (cat sumA g.h)),(9504,Blk.own vc 163 3 (g.c).length (cat sumK g.c)),(9505,Blk.own vp 163 3 (g.p).length (cat sumK g.p))],?_,?_⟩
 rotate_left
 ·rintro f1 m1 ⟨g,vh,vc,vp,hh,hc,hp,hl,hF,rfl,rfl⟩
  have PO:=portfolio_z (E:=(envC Tryz.prog tt Tryz.f7.ntmps w X (tiedK [] β) [21,23]).toEnv) (day:=day) rfl hh hc hp (by omega)
  refine .inr (.inr (.inr ⟨[(9500,48)],[9506,9507,9508],[_],[_,_,_,_],_,PO,rfl,⟨.inl rfl,.inl rfl,.inl rfl,rfl,trivial⟩,rfl,trivial,?_⟩))
  rintro r U ⟨xh,xc,xp,q1,q2,q3,rfl,rfl⟩
  refine ⟨by kernel_rfl,?_⟩
  have Q:AtQ (atP xs al k day) (.tuple #[.agg #[xh,xc,xp],.int .i64 (pfL g).2]) [(9506,Blk.own xh 90 2 (pfL g).1.h.length (cat sumA (pfL g).1.h)),(9507,Blk.own xc 85 3 (pfL g).1.c.length (cat sumK (pfL g).1.c)),(9508,Blk.own xp 85 3 (pfL g).1.p.length (cat sumK (pfL g).1.p))]:=by
   rw [hF];exact ⟨xh,xc,xp,q1,q2,q3,rfl,rfl⟩
  exact ⟨fits3 (isL_one q1) (isL_one q2) (isL_one q3),_,[],Q,⟨.inl rfl,.inl rfl,.inl rfl,trivial⟩,rfl⟩
 refine ⟨fun q f m=>∃ (i j:Nat) (va' vx':Value) (g:Led) (vh vc vp:Value),q=(na - i)+(nx - j)∧TailS sa 76 na i va'∧TailS sx 10 nx j vx'∧LedOk g∧IsL vh g.h.length∧IsL vc g.c.length∧IsL vp g.p.length∧(g.h.length≤2*(i+j)∧g.c.length≤i+j∧g.p.length≤i+j)∧runL day .zero (restL day A B)=runL day g (restL day (A.drop i) (B.drop j))∧f=[(3,SV.c (.int .i64 day)),(8,SV.ptr 8 0),(10,SV.c vx'),(12,SV.c va'),(13,SV.ptr 48 0)]∧m=[(8,Blk.row 30 3 #[.slice none 0 0,.slice none 0 0,.slice none 0 0]),(3000,Blk.own sx 47 10 nx (cat EC.A B)),(3001,Blk.own sa 61 76 na (cat AC.A A)),(48,Blk.row 73 7 (LdA vh vc vp day)),(9501,Blk.own vh 120 2 (g.h).length (cat sumA g.h)),(9504,Blk.own vc 163 3 (g.c).length (cat sumK g.c)),(9505,Blk.own vp 163 3 (g.p).length (cat sumK g.p))],na+nx,⟨_,_,⟨0,0,sa,sx,.zero,.slice none 0 0,.slice none 0 0,.slice none 0 0,by omega,.start ha hca,.start hx hcx,.zero,.nil,.nil,.nil,⟨by decide,by decide,by decide⟩,rfl,rfl,rfl⟩,⟨rfl,rfl,rfl,rfl,rfl,trivial⟩,⟨rfl,.inl rfl,.inl rfl,rfl,.inr ⟨rfl,rfl,rfl⟩,.inr ⟨rfl,rfl,rfl⟩,.inr ⟨rfl,rfl,rfl⟩,trivial⟩,rfl⟩,?_⟩
 rintro q f m ⟨i,j,va',vx',g,vh,vc,vp,rfl,ta,tx,hg,hh,hc,hp,hl,hR,rfl,rfl⟩
 obtain ⟨aa,ac,rfl⟩:=ta.len
 obtain ⟨xa,xc,rfl⟩:=tx.len
 refine ⟨_,fun w' _=>run_len_sl Tryz.underlying23 w',?_⟩
 refine ⟨fun c=>?_,fun c=>?_⟩
 ·have ci:i=na:=by have:=of_decide_eq_false (show decide (((na - i:Nat):Int) > 0)=false from c);have:=ta.1;omega
  refine ⟨_,fun w' _=>run_len_sl Tryz.underlying22 w',?_⟩
  refine ⟨fun c1=>?_,fun c1=>?_⟩
  ·have cj:j < nx:=by have:=of_decide_eq_true (show decide (((nx - j:Nat):Int) > 0)=true from c1);omega
   refine ⟨fun f m=>∃ (i2 j2:Nat) (va2 vx2:Value) (g2:Led) (wh wc wp:Value) (e:Int),i2+j2=i+j+1∧TailS sa 76 na i2 va2∧TailS sx 10 nx j2 vx2∧IsL wh g2.h.length∧IsL wc g2.c.length∧IsL wp g2.p.length∧((e≠0∧runL day g (restL day (A.drop i) (B.drop j))=.error e)∨(e=0∧LedOk g2∧(g2.h.length≤2*(i2+j2)∧g2.c.length≤i2+j2∧g2.p.length≤i2+j2)∧runL day g (restL day (A.drop i) (B.drop j))=runL day g2 (restL day (A.drop i2) (B.drop j2))))∧f=[(3,SV.c (.int .i64 day)),(8,SV.ptr 8 0),(10,SV.c vx2),(12,SV.c va2),(13,SV.ptr 48 0),(14,SV.c (.int .i64 e))]∧m=[(8,Blk.row 30 3 #[.slice none 0 0,.slice none 0 0,.slice none 0 0]),(3000,Blk.own sx 47 10 nx (cat EC.A B)),(3001,Blk.own sa 61 76 na (cat AC.A A)),(48,Blk.row 73 7 (LdA wh wc wp day)),(9501,Blk.own wh 120 2 (g2.h).length (cat sumA g2.h)),(9504,Blk.own wc 163 3 (g2.c).length (cat sumK g2.c)),(9505,Blk.own wp 163 3 (g2.p).length (cat sumK g2.p))],?_,?_⟩
   rotate_left
   ·rintro f1 m1 ⟨i2,j2,va2,vx2,g2,wh,wc,wp,e,hij,ta2,tx2,hh2,hc2,hp2,hE2,rfl,rfl⟩
    refine ⟨fun c=>?_,fun c=>?_⟩
    ·have c:(e != 0)=true:=c
     have c:e≠0:=by simpa using c
     rcases hE2 with ⟨-,hE2⟩ | ⟨hE2,-⟩
     ·refine ⟨_,rfl,nil3_fits,?_⟩
      exact ⟨_,[],bad e (by rw [hP,hR,hE2];rfl),⟨.inr ⟨rfl,rfl,rfl⟩,.inr ⟨rfl,rfl,rfl⟩,.inr ⟨rfl,rfl,rfl⟩,trivial⟩,rfl⟩
     ·exact absurd hE2 c
    ·have c:(e != 0)=false:=c
     have c:e=0:=by simpa using c
     rcases hE2 with ⟨hE2,-⟩ | ⟨-,hg2,hl2,hE2⟩
     ·exact absurd c hE2
     ·have t1:=ta2.1
      have t2:=tx2.1
      have t3:=ta.1
      have t4:=tx.1
      exact ⟨(na - i2)+(nx - j2),_,_,by omega,⟨i2,j2,va2,vx2,g2,wh,wc,wp,rfl,ta2,tx2,hg2,hh2,hc2,hp2,hl2,by rw [hR,hE2],rfl,rfl⟩,⟨rfl,rfl,rfl,rfl,rfl,trivial⟩,⟨rfl,.inl rfl,.inl rfl,rfl,.inl rfl,.inl rfl,.inl rfl,trivial⟩,rfl⟩
   obtain ⟨x,hx0⟩:∃ x,B[j]? = some x:=⟨_,List.getElem?_eq_getElem (show j < B.length by omega)⟩
   obtain ⟨gX,cX0,cX1,rfl,hvx2⟩:=tx.at cj
   cases hvx2
   have hdx:=drop_at hx0
   have LX:(cat EC.A B)[j*10+2]? = some (.int .i64 x.day):=(cat_get EC.size B j x 2 hx0 (by decide)).trans x.g2
   have hhead:∀ z,(A.drop i)[0]? = some z→¬ z.day≤x.day:=fun z hz=>by rw [List.drop_eq_nil_of_le (by omega)] at hz;cases hz
   refine ⟨_,fun w' _=>run_len_sl Tryz.underlying22 w',?_⟩
   refine ⟨fun _=>?_,fun c3=>absurd c3 (by simp only [beq_iff_eq,Bool.not_false];omega)⟩
   refine ⟨_,fun w' _=>run_len_sl Tryz.underlying23 w',?_⟩
   refine ⟨fun c4=>absurd c4 (by rw [decide_eq_false (by omega)];decide),fun _=>?_⟩
   refine ⟨by kernel_rfl,nofun,fun _=>?_⟩
   refine ⟨by omega,by omega,.inr ⟨3000,gX,_,nx,cX0,_,_,_,rfl,rfl,_,(by rw [offX0];exact LX),?_⟩⟩
   refine ⟨fun c2=>?_,fun c2=>?_⟩
   ·have c2:day < x.day:=of_decide_eq_true c2
    have hE3:restL day (A.drop i) (B.drop j)=[]:=by
     rw [hdx];exact rest_end sA.drop (by rw [← hdx];exact sX.drop) (merge_x hhead) c2
    exact ⟨_,_,⟨g,vh,vc,vp,hh,hc,hp,by omega,by rw [hP,hR,hE3];rfl,rfl,rfl⟩,⟨rfl,rfl,trivial⟩,⟨rfl,rfl,.inl rfl,.inl rfl,.inl rfl,trivial⟩,rfl⟩
   ·have c2:¬ day < x.day:=of_decide_eq_false c2
    have hE3:restL day (A.drop i) (B.drop j)=.inr x :: restL day (A.drop i) (B.drop (j+1)):=by
     rw [hdx];exact rest_x hhead (by omega)
    have AO:=enter_z (E:=(envC Tryz.prog tt Tryz.f7.ntmps w X (tiedK [] β) [21,23]).toEnv) (day:=day) rfl hg hh hc hp (by omega) (mX x (List.mem_of_getElem? hx0)).q
    have EA:=cat_extract EC.size hx0
    have hszX:(cat EC.A B).size=nx*10:=by rw [Go.SX.cat_size EC.size,lX]
    generalize x.A=AA at AO EA
    refine ⟨by omega,by omega,.inr ⟨3000,gX,_,nx,cX0,_,_,_,rfl,rfl,(by rw [offX0,hszX];show j*10+10≤nx*10;omega),AA,(by rw [offX0];exact EA),?_⟩⟩
    refine .inr (.inr (.inr ⟨[(9500,48)],[],[_,_],[_,_,_,_],_,AO,rfl,⟨.inl rfl,.inl rfl,.inl rfl,rfl,trivial⟩,by kernel_rfl,trivial,?_⟩))
    rintro r U ⟨g2,wh,wc,wp,k1,k2,k3,rfl,hM⟩
    refine ⟨by kernel_rfl,_,runs_lo18 (E:=(envC Tryz.prog tt Tryz.f7.ntmps w X (tiedK [] β) [21,23])) tt_ok Tryz.underlying22 (j:=ti47) rfl 1 rfl (by omega),?_⟩
    have hrun:runL day g (restL day (A.drop i) (B.drop j))=match entL day g x with
     | .error e=>.error e
     | .ok g'=>runL day g' (restL day (A.drop i) (B.drop (j+1))):=by rw [hE3];rfl
    have tn:=tx.next (by decide) cj
    cases hS:entL day g x with
    | error e =>
     rw [hS] at hM hrun
     obtain ⟨rfl,he⟩:=hM
     exact ⟨_,_,⟨i,j+1,_,_,g2,wh,wc,wp,e,by omega,ta,tn,k1,k2,k3,.inl ⟨he,hrun⟩,rfl,rfl⟩,⟨rfl,rfl,rfl,rfl,rfl,rfl,trivial⟩,⟨rfl,.inl rfl,.inl rfl,rfl,.inl rfl,.inl rfl,.inl rfl,trivial⟩,rfl⟩
    | ok g' =>
     rw [hS] at hM hrun
     obtain ⟨rfl,rfl⟩:=hM
     obtain ⟨s1,s2,s3,s4⟩:=ent_okL hg hS
     exact ⟨_,_,⟨i,j+1,_,_,g2,wh,wc,wp,0,by omega,ta,tn,k1,k2,k3,.inr ⟨rfl,s1,⟨by omega,by omega,by omega⟩,hrun⟩,rfl,rfl⟩,⟨rfl,rfl,rfl,rfl,rfl,rfl,trivial⟩,⟨rfl,.inl rfl,.inl rfl,rfl,.inl rfl,.inl rfl,.inl rfl,trivial⟩,rfl⟩
  ·have cj:j=nx:=by have:=of_decide_eq_false (show decide (((nx - j:Nat):Int) > 0)=false from c1);have:=tx.1;omega
   have hE3:restL day (A.drop i) (B.drop j)=[]:=by
    rw [List.drop_eq_nil_of_le (by omega),List.drop_eq_nil_of_le (by omega)];exact rest_nil day
   exact ⟨_,_,⟨g,vh,vc,vp,hh,hc,hp,by omega,by rw [hP,hR,hE3];rfl,rfl,rfl⟩,⟨rfl,rfl,trivial⟩,⟨rfl,rfl,.inl rfl,.inl rfl,.inl rfl,trivial⟩,rfl⟩
 ·have ci:i < na:=by have:=of_decide_eq_true (show decide (((na - i:Nat):Int) > 0)=true from c);omega
  refine ⟨fun _=>?_,nofun⟩
  refine ⟨fun f m=>∃ (i2 j2:Nat) (va2 vx2:Value) (g2:Led) (wh wc wp:Value) (e:Int),i2+j2=i+j+1∧TailS sa 76 na i2 va2∧TailS sx 10 nx j2 vx2∧IsL wh g2.h.length∧IsL wc g2.c.length∧IsL wp g2.p.length∧((e≠0∧runL day g (restL day (A.drop i) (B.drop j))=.error e)∨(e=0∧LedOk g2∧(g2.h.length≤2*(i2+j2)∧g2.c.length≤i2+j2∧g2.p.length≤i2+j2)∧runL day g (restL day (A.drop i) (B.drop j))=runL day g2 (restL day (A.drop i2) (B.drop j2))))∧f=[(3,SV.c (.int .i64 day)),(8,SV.ptr 8 0),(10,SV.c vx2),(12,SV.c va2),(13,SV.ptr 48 0),(14,SV.c (.int .i64 e))]∧m=[(8,Blk.row 30 3 #[.slice none 0 0,.slice none 0 0,.slice none 0 0]),(3000,Blk.own sx 47 10 nx (cat EC.A B)),(3001,Blk.own sa 61 76 na (cat AC.A A)),(48,Blk.row 73 7 (LdA wh wc wp day)),(9501,Blk.own wh 120 2 (g2.h).length (cat sumA g2.h)),(9504,Blk.own wc 163 3 (g2.c).length (cat sumK g2.c)),(9505,Blk.own wp 163 3 (g2.p).length (cat sumK g2.p))],?_,?_⟩
  rotate_left
  ·rintro f1 m1 ⟨i2,j2,va2,vx2,g2,wh,wc,wp,e,hij,ta2,tx2,hh2,hc2,hp2,hE2,rfl,rfl⟩
   refine ⟨fun c=>?_,fun c=>?_⟩
   ·have c:(e != 0)=true:=c
    have c:e≠0:=by simpa using c
    rcases hE2 with ⟨-,hE2⟩ | ⟨hE2,-⟩
    ·refine ⟨_,rfl,nil3_fits,?_⟩
     exact ⟨_,[],bad e (by rw [hP,hR,hE2];rfl),⟨.inr ⟨rfl,rfl,rfl⟩,.inr ⟨rfl,rfl,rfl⟩,.inr ⟨rfl,rfl,rfl⟩,trivial⟩,rfl⟩
    ·exact absurd hE2 c
   ·have c:(e != 0)=false:=c
    have c:e=0:=by simpa using c
    rcases hE2 with ⟨hE2,-⟩ | ⟨-,hg2,hl2,hE2⟩
    ·exact absurd c hE2
    ·have t1:=ta2.1
     have t2:=tx2.1
     have t3:=ta.1
     have t4:=tx.1
     exact ⟨(na - i2)+(nx - j2),_,_,by omega,⟨i2,j2,va2,vx2,g2,wh,wc,wp,rfl,ta2,tx2,hg2,hh2,hc2,hp2,hl2,by rw [hR,hE2],rfl,rfl⟩,⟨rfl,rfl,rfl,rfl,rfl,trivial⟩,⟨rfl,.inl rfl,.inl rfl,rfl,.inl rfl,.inl rfl,.inl rfl,trivial⟩,rfl⟩
  refine ⟨_,fun w' _=>run_len_sl Tryz.underlying22 w',?_⟩
  obtain ⟨a,ha0⟩:∃ a,A[i]? = some a:=⟨_,List.getElem?_eq_getElem (show i < A.length by omega)⟩
  obtain ⟨gA,cA0,cA1,rfl,hva2⟩:=ta.at ci
  cases hva2
  have hda:=drop_at ha0
  refine ⟨fun c=>?_,fun c=>?_⟩
  ·have cj:j < nx:=by have c:((((nx - j:Nat):Int)) == 0)=false:=c;simp only [beq_eq_false_iff_ne] at c;omega
   obtain ⟨x,hx0⟩:∃ x,B[j]? = some x:=⟨_,List.getElem?_eq_getElem (show j < B.length by omega)⟩
   obtain ⟨gX,cX0,cX1,rfl,hvx2⟩:=tx.at cj
   cases hvx2
   have hdx:=drop_at hx0
   refine ⟨_,fun w' _=>run_len_sl Tryz.underlying23 w',fun _=>?_,fun c=>absurd c (by rw [decide_eq_true (by omega)];decide)⟩
   have LA:(cat AC.A A)[i*76+4]? = some (.int .i64 a.day):=(cat_get AC.size A i a 4 ha0 (by decide)).trans a.g4
   have LX:(cat EC.A B)[j*10+2]? = some (.int .i64 x.day):=(cat_get EC.size B j x 2 hx0 (by decide)).trans x.g2
   refine ⟨by omega,by omega,.inr ⟨3001,gA,_,na,cA0,_,_,_,rfl,rfl,_,(by rw [offA0];exact LA),?_⟩⟩
   refine ⟨by omega,by omega,.inr ⟨3000,gX,_,nx,cX0,_,_,_,rfl,rfl,_,(by rw [offX0];exact LX),?_⟩⟩
   refine ⟨by kernel_rfl,fun c1=>?_,fun c1=>?_⟩
   ·have c1:a.day≤x.day:=of_decide_eq_true c1
    have hhead:∀ z,(B.drop j)[0]? = some z→a.day≤z.day:=fun z hz=>by rw [hdx] at hz;cases hz;exact c1
    refine ⟨by omega,by omega,.inr ⟨3001,gA,_,na,cA0,_,_,_,rfl,rfl,_,(by rw [offA0];exact LA),?_⟩⟩
    refine ⟨fun c2=>?_,fun c2=>?_⟩
    ·have c2:day < a.day:=of_decide_eq_true c2
     have hE3:restL day (A.drop i) (B.drop j)=[]:=by
      rw [hda];exact rest_end (by rw [← hda];exact sA.drop) sX.drop (merge_a hhead) c2
     exact ⟨_,_,⟨g,vh,vc,vp,hh,hc,hp,by omega,by rw [hP,hR,hE3];rfl,rfl,rfl⟩,⟨rfl,rfl,trivial⟩,⟨rfl,rfl,.inl rfl,.inl rfl,.inl rfl,trivial⟩,rfl⟩
    ·have c2:¬ day < a.day:=of_decide_eq_false c2
     have hE3:restL day (A.drop i) (B.drop j)=.inl a :: restL day (A.drop (i+1)) (B.drop j):=by
      rw [hda];exact rest_a hhead (by omega)
     have AO:=act_z (E:=(envC Tryz.prog tt Tryz.f7.ntmps w X (tiedK [] β) [21,23]).toEnv) (day:=day) rfl hg hh hc hp (by omega) (mA a (List.mem_of_getElem? ha0))
     have EA:=cat_extract AC.size ha0
     have hszA:(cat AC.A A).size=na*76:=by rw [Go.SX.cat_size AC.size,lA]
     generalize a.A=AA at AO EA
     refine ⟨by omega,by omega,.inr ⟨3001,gA,_,na,cA0,_,_,_,rfl,rfl,(by rw [offA0,hszA];show i*76+76≤na*76;omega),AA,(by rw [offA0];exact EA),?_⟩⟩
     refine .inr (.inr (.inr ⟨[(9500,48)],[],[_,_],[_,_,_,_],_,AO,rfl,⟨.inl rfl,.inl rfl,.inl rfl,rfl,trivial⟩,by kernel_rfl,trivial,?_⟩))
     rintro r U ⟨g2,wh,wc,wp,k1,k2,k3,rfl,hM⟩
     refine ⟨by kernel_rfl,_,runs_lo18 (E:=(envC Tryz.prog tt Tryz.f7.ntmps w X (tiedK [] β) [21,23])) tt_ok Tryz.underlying23 (j:=ti61) rfl 1 rfl (by omega),?_⟩
     have hrun:runL day g (restL day (A.drop i) (B.drop j))=match actL g a with
      | .error e=>.error e
      | .ok g'=>runL day g' (restL day (A.drop (i+1)) (B.drop j)):=by rw [hE3];rfl
     have tn:=ta.next (by decide) ci
     cases hS:actL g a with
     | error e =>
      rw [hS] at hM hrun
      obtain ⟨rfl,he⟩:=hM
      exact ⟨_,_,⟨i+1,j,_,_,g2,wh,wc,wp,e,by omega,tn,tx,k1,k2,k3,.inl ⟨he,hrun⟩,rfl,rfl⟩,⟨rfl,rfl,rfl,rfl,rfl,rfl,trivial⟩,⟨rfl,.inl rfl,.inl rfl,rfl,.inl rfl,.inl rfl,.inl rfl,trivial⟩,rfl⟩
     | ok g' =>
      rw [hS] at hM hrun
      obtain ⟨rfl,rfl⟩:=hM
      obtain ⟨s1,s2,s3,s4⟩:=act_okL hg hS
      exact ⟨_,_,⟨i+1,j,_,_,g2,wh,wc,wp,0,by omega,tn,tx,k1,k2,k3,.inr ⟨rfl,s1,⟨by omega,by omega,by rw [s4];omega⟩,hrun⟩,rfl,rfl⟩,⟨rfl,rfl,rfl,rfl,rfl,rfl,trivial⟩,⟨rfl,.inl rfl,.inl rfl,rfl,.inl rfl,.inl rfl,.inl rfl,trivial⟩,rfl⟩
   ·have c1:¬ a.day≤x.day:=of_decide_eq_false c1
    have hhead:∀ z,(A.drop i)[0]? = some z→¬ z.day≤x.day:=fun z hz=>by rw [hda] at hz;cases hz;exact c1
    refine ⟨by omega,by omega,.inr ⟨3000,gX,_,nx,cX0,_,_,_,rfl,rfl,_,(by rw [offX0];exact LX),?_⟩⟩
    refine ⟨fun c2=>?_,fun c2=>?_⟩
    ·have c2:day < x.day:=of_decide_eq_true c2
     have hE3:restL day (A.drop i) (B.drop j)=[]:=by
      rw [hdx];exact rest_end sA.drop (by rw [← hdx];exact sX.drop) (merge_x hhead) c2
     exact ⟨_,_,⟨g,vh,vc,vp,hh,hc,hp,by omega,by rw [hP,hR,hE3];rfl,rfl,rfl⟩,⟨rfl,rfl,trivial⟩,⟨rfl,rfl,.inl rfl,.inl rfl,.inl rfl,trivial⟩,rfl⟩
    ·have c2:¬ day < x.day:=of_decide_eq_false c2
     have hE3:restL day (A.drop i) (B.drop j)=.inr x :: restL day (A.drop i) (B.drop (j+1)):=by
      rw [hdx];exact rest_x hhead (by omega)
     have AO:=enter_z (E:=(envC Tryz.prog tt Tryz.f7.ntmps w X (tiedK [] β) [21,23]).toEnv) (day:=day) rfl hg hh hc hp (by omega) (mX x (List.mem_of_getElem? hx0)).q
     have EA:=cat_extract EC.size hx0
     have hszX:(cat EC.A B).size=nx*10:=by rw [Go.SX.cat_size EC.size,lX]
     generalize x.A=AA at AO EA
     refine ⟨by omega,by omega,.inr ⟨3000,gX,_,nx,cX0,_,_,_,rfl,rfl,(by rw [offX0,hszX];show j*10+10≤nx*10;omega),AA,(by rw [offX0];exact EA),?_⟩⟩
     refine .inr (.inr (.inr ⟨[(9500,48)],[],[_,_],[_,_,_,_],_,AO,rfl,⟨.inl rfl,.inl rfl,.inl rfl,rfl,trivial⟩,by kernel_rfl,trivial,?_⟩))
     rintro r U ⟨g2,wh,wc,wp,k1,k2,k3,rfl,hM⟩
     refine ⟨by kernel_rfl,_,runs_lo18 (E:=(envC Tryz.prog tt Tryz.f7.ntmps w X (tiedK [] β) [21,23])) tt_ok Tryz.underlying22 (j:=ti47) rfl 1 rfl (by omega),?_⟩
     have hrun:runL day g (restL day (A.drop i) (B.drop j))=match entL day g x with
      | .error e=>.error e
      | .ok g'=>runL day g' (restL day (A.drop i) (B.drop (j+1))):=by rw [hE3];rfl
     have tn:=tx.next (by decide) cj
     cases hS:entL day g x with
     | error e =>
      rw [hS] at hM hrun
      obtain ⟨rfl,he⟩:=hM
      exact ⟨_,_,⟨i,j+1,_,_,g2,wh,wc,wp,e,by omega,ta,tn,k1,k2,k3,.inl ⟨he,hrun⟩,rfl,rfl⟩,⟨rfl,rfl,rfl,rfl,rfl,rfl,trivial⟩,⟨rfl,.inl rfl,.inl rfl,rfl,.inl rfl,.inl rfl,.inl rfl,trivial⟩,rfl⟩
     | ok g' =>
      rw [hS] at hM hrun
      obtain ⟨rfl,rfl⟩:=hM
      obtain ⟨s1,s2,s3,s4⟩:=ent_okL hg hS
      exact ⟨_,_,⟨i,j+1,_,_,g2,wh,wc,wp,0,by omega,ta,tn,k1,k2,k3,.inr ⟨rfl,s1,⟨by omega,by omega,by omega⟩,hrun⟩,rfl,rfl⟩,⟨rfl,rfl,rfl,rfl,rfl,rfl,trivial⟩,⟨rfl,.inl rfl,.inl rfl,rfl,.inl rfl,.inl rfl,.inl rfl,trivial⟩,rfl⟩
  ·have cj:j=nx:=by have c:((((nx - j:Nat):Int)) == 0)=true:=c;simp only [beq_iff_eq] at c;have:=tx.1;omega
   have LA:(cat AC.A A)[i*76+4]? = some (.int .i64 a.day):=(cat_get AC.size A i a 4 ha0 (by decide)).trans a.g4
   have hhead:∀ z,(B.drop j)[0]? = some z→a.day≤z.day:=fun z hz=>by rw [List.drop_eq_nil_of_le (by omega)] at hz;cases hz
   refine ⟨by kernel_rfl,fun _=>?_,nofun⟩
   refine ⟨by omega,by omega,.inr ⟨3001,gA,_,na,cA0,_,_,_,rfl,rfl,_,(by rw [offA0];exact LA),?_⟩⟩
   refine ⟨fun c2=>?_,fun c2=>?_⟩
   ·have c2:day < a.day:=of_decide_eq_true c2
    have hE3:restL day (A.drop i) (B.drop j)=[]:=by
     rw [hda];exact rest_end (by rw [← hda];exact sA.drop) sX.drop (merge_a hhead) c2
    exact ⟨_,_,⟨g,vh,vc,vp,hh,hc,hp,by omega,by rw [hP,hR,hE3];rfl,rfl,rfl⟩,⟨rfl,rfl,trivial⟩,⟨rfl,rfl,.inl rfl,.inl rfl,.inl rfl,trivial⟩,rfl⟩
   ·have c2:¬ day < a.day:=of_decide_eq_false c2
    have hE3:restL day (A.drop i) (B.drop j)=.inl a :: restL day (A.drop (i+1)) (B.drop j):=by
     rw [hda];exact rest_a hhead (by omega)
    have AO:=act_z (E:=(envC Tryz.prog tt Tryz.f7.ntmps w X (tiedK [] β) [21,23]).toEnv) (day:=day) rfl hg hh hc hp (by omega) (mA a (List.mem_of_getElem? ha0))
    have EA:=cat_extract AC.size ha0
    have hszA:(cat AC.A A).size=na*76:=by rw [Go.SX.cat_size AC.size,lA]
    generalize a.A=AA at AO EA
    refine ⟨by omega,by omega,.inr ⟨3001,gA,_,na,cA0,_,_,_,rfl,rfl,(by rw [offA0,hszA];show i*76+76≤na*76;omega),AA,(by rw [offA0];exact EA),?_⟩⟩
    refine .inr (.inr (.inr ⟨[(9500,48)],[],[_,_],[_,_,_,_],_,AO,rfl,⟨.inl rfl,.inl rfl,.inl rfl,rfl,trivial⟩,by kernel_rfl,trivial,?_⟩))
    rintro r U ⟨g2,wh,wc,wp,k1,k2,k3,rfl,hM⟩
    refine ⟨by kernel_rfl,_,runs_lo18 (E:=(envC Tryz.prog tt Tryz.f7.ntmps w X (tiedK [] β) [21,23])) tt_ok Tryz.underlying23 (j:=ti61) rfl 1 rfl (by omega),?_⟩
    have hrun:runL day g (restL day (A.drop i) (B.drop j))=match actL g a with
     | .error e=>.error e
     | .ok g'=>runL day g' (restL day (A.drop (i+1)) (B.drop j)):=by rw [hE3];rfl
    have tn:=ta.next (by decide) ci
    cases hS:actL g a with
    | error e =>
     rw [hS] at hM hrun
     obtain ⟨rfl,he⟩:=hM
     exact ⟨_,_,⟨i+1,j,_,_,g2,wh,wc,wp,e,by omega,tn,tx,k1,k2,k3,.inl ⟨he,hrun⟩,rfl,rfl⟩,⟨rfl,rfl,rfl,rfl,rfl,rfl,trivial⟩,⟨rfl,.inl rfl,.inl rfl,rfl,.inl rfl,.inl rfl,.inl rfl,trivial⟩,rfl⟩
    | ok g' =>
     rw [hS] at hM hrun
     obtain ⟨rfl,rfl⟩:=hM
     obtain ⟨s1,s2,s3,s4⟩:=act_okL hg hS
     exact ⟨_,_,⟨i+1,j,_,_,g2,wh,wc,wp,0,by omega,tn,tx,k1,k2,k3,.inr ⟨rfl,s1,⟨by omega,by omega,by rw [s4];omega⟩,hrun⟩,rfl,rfl⟩,⟨rfl,rfl,rfl,rfl,rfl,rfl,trivial⟩,⟨rfl,.inl rfl,.inl rfl,rfl,.inl rfl,.inl rfl,.inl rfl,trivial⟩,rfl⟩
end Go.Proofs.YtkaakbpeegpnkaaGreatDoor
