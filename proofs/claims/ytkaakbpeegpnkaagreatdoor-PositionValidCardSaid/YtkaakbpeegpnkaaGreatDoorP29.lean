/- the reference: pay.. the reference: balances.. put and pay change one key: plain law.. position.Held; no more.. the reference: Held, put, pay, balances at lists of the caller.. the reference: enter.. the reference and the program go the same way: plain law. days, and what is left of two lists: plain law; no condition. -/
import Derived.Test.YtkaakbpeegpnkaaGreatDoorP28
set_option maxRecDepth 100000
set_option maxHeartbeats 4000000
namespace Go.Proofs.YtkaakbpeegpnkaaGreatDoor
open Go Go.RowKit Go.SX
def payS (k:Ky) (s:List (Ky×Int)×Bool×Int) (y:Ky×Int):List (Ky×Int)×Bool×Int :=
 if !s.2.1 && ltK2 k y.1 then (s.1++[(k,s.2.2),y],true,s.2.2)
 else if !s.2.1 && !ltK2 y.1 k then (s.1++[(k,w64 (s.2.2+y.2))],true,w64 (s.2.2+y.2))
 else (s.1++[y],s.2.1,s.2.2)
def payW (l:List (Ky×Int)) (k:Ky) (n:Int):List (Ky×Int)×Bool×Int:=l.foldl (payS k) ([],false,n)
def payR (l:List (Ky×Int)) (k:Ky) (n:Int):List (Ky×Int):=if (payW l k n).2.1 then (payW l k n).1 else (payW l k n).1++[(k,(payW l k n).2.2)]
theorem payW_one {l:List (Ky×Int)} {k:Ky} {n:Int} {i:Nat} {x:Ky×Int} (h:l[i]? = some x):payW (l.take (i+1)) k n=payS k (payW (l.take i) k n) x:=by
 unfold payW;rw [take_one h,List.foldl_append];rfl
theorem payS_len (k:Ky) (s:List (Ky×Int)×Bool×Int) (x:Ky×Int):(payS k s x).1.length+(if (payS k s x).2.1 then 0 else 1)≤s.1.length+(if s.2.1 then 0 else 1)+1:=by
 unfold payS
 rcases s with ⟨o,d,m⟩
 cases d<;>by_cases h:ltK2 k x.1=true<;>by_cases e:ltK2 x.1 k=true<;>simp [h,e]
theorem payW_len (l:List (Ky×Int)) (k:Ky) (n:Int):∀ i,(payW (l.take i) k n).1.length+(if (payW (l.take i) k n).2.1 then 0 else 1)≤i+1
 | 0=>by simp [payW]
 | i+1=>by
  rcases h:l[i]? with _ | x
  ·have h0:=payW_len l k n i
   rw [List.getElem?_eq_none_iff] at h
   rw [List.take_of_length_le h] at h0
   rw [List.take_of_length_le (by omega)]
   omega
  ·rw [payW_one h]
   have h0:=payW_len l k n i
   have h1:=payS_len k (payW (l.take i) k n) x
   omega
theorem payR_len (l:List (Ky×Int)) (k:Ky) (n:Int):(payR l k n).length≤l.length+1:=by
 have h:=payW_len l k n l.length
 rw [List.take_length] at h
 unfold payR
 cases e:(payW l k n).2.1 with
 | true=>rw [if_pos rfl];rw [e] at h;simpa using h
 | false=>rw [if_neg (by simp)];rw [e] at h;simpa using h
theorem fill_bal2 (x y:Ky×Int):Instr.fill (fun k=>some (k*ti85.size,ti85.size)) (madeCells ti85.zero (2*ti85.size)) [(0,.agg (sumK x)),(1,.agg (sumK y))]=some (sumK x++sumK y):=by kernel_rfl
theorem cat_two {α:Type} (f:α→Array Value) (x y:α):cat f [x,y]=f x++f y:=by
 rw [show [x,y]=[x]++[y] from rfl,cat_append,cat_one,cat_one]
theorem pay_r {E:Env} (hE:E.P=Tryz.prog) {v:Value} {xs:List (Ky×Int)} {k:Ky} {n:Int} (hv:Lst E v 3 xs.length (cat sumK xs)) (hn:xs.length≤1000000000000):OwnC E 74 [SV.c v,SV.c (.agg (sumK (k,n)))] [] (OwnL 9601 85 3 (payR xs k n).length (cat sumK (payR xs k n))):=by
 refine sx_ownC [] tt_ok mixed at74 E hE [SV.c v,SV.c (.agg (sumK (k,n)))] [] _ rfl rfl fun w X β hT=>?_
 obtain ⟨a,cap,rfl,hc,h4⟩:=(hv.of_old hT).shape
 refine ⟨rfl,fun q f m=>∃ (i:Nat) (x:Value) (N:Nat) (o:List (Ky×Int)) (d:Bool) (z:Int),q=xs.length - i∧i≤xs.length∧payW (xs.take i) k n=(o,d,z)∧N=o.length∧N+(if d then 0 else 1)≤i+1∧IsL x N∧f=[(0,SV.c (.slice a xs.length cap)),(3,SV.ptr 3 0),(5,SV.c x),(6,SV.c (.bool d)),(7,SV.c (.int .i64 (i:Nat)))]∧m=[(3,Blk.row 85 3 (sumK (k,z))),(9601,Blk.own x 85 3 N (cat sumK o))],xs.length,⟨_,_,⟨0,.slice none 0 0,0,[],false,n,by omega,by omega,rfl,rfl,by simp,.nil,rfl,rfl⟩,⟨rfl,rfl,rfl,rfl,rfl,trivial⟩,⟨rfl,.inr ⟨rfl,rfl,rfl⟩,trivial⟩,rfl⟩,?_⟩
 rintro q f m ⟨i,x,N,o,d,z,rfl,hi,hw,hN,hb,hx,rfl,rfl⟩
 refine ⟨_,fun w' _=>run_len_sl Tryz.underlying28 w',fun h=>?_,fun h=>?_⟩
 ·have h:i < xs.length:=by have:=of_decide_eq_true h;omega
  obtain ⟨b,of_,rfl,h5⟩:=h4 (by omega)
  obtain ⟨y,hy⟩:∃ y,xs[i]? = some y:=⟨_,List.getElem?_eq_getElem h⟩
  have hE':VOk (envC Tryz.prog tt Tryz.f74.ntmps w X (tiedK [] β)):=tt_ok
  have L1:=lst_at hE' h5 sumK_size hy (j:=2) (v:=.int .i64 y.2) rfl (ty:=3) (ti:=ti3) rfl rfl (p:=of_+(i:Int).toNat*3+2) rfl
  have L2:=lst_elem hE' h5 sumK_size hy (ty:=85) (ti:=ti85) rfl rfl rfl (p:=of_+(i:Int).toNat*3) rfl
  have hw1:=payW_one (k:=k) (n:=n) hy
  rw [hw] at hw1
  have X1:(sumK y).extract 0 (0+1*3)=sumK y:=by simp [sumK]
  obtain ⟨q,hq,hqb⟩:=info_bal
  have hmax:N+2≤1000000000002:=by cases d<;>simp at hb<;>omega
  have B1:=before_r (k,z) y
  have B2:=before_r y (k,z)
  refine ⟨fun hd=>?_,fun hd=>?_⟩
  ·have hd:d=false:=by simpa using hd
   subst hd
   refine ⟨by omega,by omega,.inl ⟨_,L2,.inl ⟨_,B1,by kernel_rfl,fun c=>?_,fun c=>?_⟩⟩⟩
   ·have c:ltK2 k y.1=true:=c
    have hw2:payW (xs.take (i+1)) k n=(o++[(k,z),y],true,z):=by rw [hw1];unfold payS;simp [c]
    have X3:(sumK (k,z)++sumK y).extract 0 (0+2*3)=sumK (k,z)++sumK y:=by simp [sumK]
    have O3:(sumK (k,z)++sumK y).all (·.oneCell')=true:=by simp [sumK,Value.oneCell']
    refine ⟨by omega,by omega,.inl ⟨_,L2,.inl ⟨by decide,by decide,_,fill_bal2 (k,z) y,rfl,by decide,9601,N,_,.inl rfl,by decide,O3,rfl,_,X3,?_⟩⟩⟩
    refine ⟨by omega,by unfold maxLen;omega,⟨q,hq,by rw [hqb];omega⟩,by change _=true;kernel_rfl,fun g2 cap2=>⟨by kernel_rfl,?_⟩⟩
    exact ⟨xs.length - (i+1),_,_,by omega,⟨i+1,_,(N+2),o++[(k,z),y],true,z,rfl,by omega,hw2,by simp;omega,by simp at hb ⊢;omega,.some,rfl,rfl⟩,⟨rfl,rfl,rfl,rfl,c_int (i64_succ (by omega)),trivial⟩,⟨rfl,.inl (own_eq (by rw [cat_append,cat_two])),trivial⟩,rfl⟩
   ·have c:ltK2 k y.1=false:=c
    refine ⟨fun _=>⟨by omega,by omega,.inl ⟨_,L2,.inl ⟨_,B2,by kernel_rfl,fun c2=>?_,fun c2=>?_⟩⟩⟩,fun h=>absurd h (by decide)⟩
    ·have c2:ltK2 y.1 k=false:=by have c2:(!ltK2 y.1 k)=true:=c2;simpa using c2
     have hw2:payW (xs.take (i+1)) k n=(o++[(k,w64 (z+y.2))],true,w64 (z+y.2)):=by rw [hw1];unfold payS;simp [c,c2]
     have X4:(sumK (k,w64 (z+y.2))).extract 0 (0+1*3)=sumK (k,w64 (z+y.2)):=by simp [sumK]
     refine ⟨_,rfl,by omega,by omega,.inl ⟨_,L1,by decide,rfl,sumK (k,w64 (z+y.2)),rfl,by kernel_rfl,?_⟩⟩
     refine .inl ⟨by decide,by decide,_,fill_bal1 (k,w64 (z+y.2)),rfl,by decide,9601,N,_,.inl rfl,by decide,(sumK_fits _).one,rfl,_,X4,?_⟩
     refine ⟨by omega,by unfold maxLen;omega,⟨q,hq,by rw [hqb];omega⟩,trivial,fun g2 cap2=>?_⟩
     exact ⟨xs.length - (i+1),_,_,by omega,⟨i+1,_,(N+1),o++[(k,w64 (z+y.2))],true,w64 (z+y.2),rfl,by omega,hw2,by simp;omega,by simp at hb ⊢;omega,.some,rfl,rfl⟩,⟨rfl,rfl,rfl,rfl,c_int (i64_succ (by omega)),trivial⟩,⟨rfl,.inl (own_eq (by rw [cat_append,cat_one])),trivial⟩,rfl⟩
    ·have c2:ltK2 y.1 k=true:=by have c2:(!ltK2 y.1 k)=false:=c2;simpa using c2
     have hw2:payW (xs.take (i+1)) k n=(o++[y],false,z):=by rw [hw1];unfold payS;simp [c,c2]
     refine ⟨by omega,by omega,.inl ⟨_,L2,.inl ⟨by decide,by decide,_,fill_bal1 y,rfl,by decide,9601,N,_,.inl rfl,by decide,(sumK_fits _).one,rfl,_,X1,?_⟩⟩⟩
     refine ⟨by omega,by unfold maxLen;omega,⟨q,hq,by rw [hqb];omega⟩,trivial,fun g2 cap2=>?_⟩
     exact ⟨xs.length - (i+1),_,_,by omega,⟨i+1,_,(N+1),o++[y],false,z,rfl,by omega,hw2,by simp;omega,by simp at hb ⊢;omega,.some,rfl,rfl⟩,⟨rfl,rfl,rfl,rfl,c_int (i64_succ (by omega)),trivial⟩,⟨rfl,.inl (own_eq (by rw [cat_append,cat_one])),trivial⟩,rfl⟩
  ·have hd:d=true:=by simpa using hd
   subst hd
   have hw2:payW (xs.take (i+1)) k n=(o++[y],true,z):=by rw [hw1];unfold payS;simp
   refine ⟨by kernel_rfl,nofun,fun _=>⟨nofun,fun _=>⟨by kernel_rfl,nofun,fun _=>?_⟩⟩⟩
   refine ⟨by omega,by omega,.inl ⟨_,L2,.inl ⟨by decide,by decide,_,fill_bal1 y,rfl,by decide,9601,N,_,.inl rfl,by decide,(sumK_fits _).one,rfl,_,X1,?_⟩⟩⟩
   refine ⟨by omega,by unfold maxLen;omega,⟨q,hq,by rw [hqb];omega⟩,trivial,fun g2 cap2=>?_⟩
   exact ⟨xs.length - (i+1),_,_,by omega,⟨i+1,_,(N+1),o++[y],true,z,rfl,by omega,hw2,by simp;omega,by simp at hb ⊢;omega,.some,rfl,rfl⟩,⟨rfl,rfl,rfl,rfl,c_int (i64_succ (by omega)),trivial⟩,⟨rfl,.inl (own_eq (by rw [cat_append,cat_one])),trivial⟩,rfl⟩
 ·have h:i=xs.length:=by have:=of_decide_eq_false h;omega
  subst h
  rw [List.take_length] at hw
  obtain ⟨q,hq,hqb⟩:=info_bal
  refine ⟨fun hd=>?_,fun hd=>?_⟩
  ·have hd:d=false:=by simpa using hd
   subst hd
   have e:payR xs k n=o++[(k,z)]:=by unfold payR;rw [hw];rfl
   have hb:N+1≤xs.length+1:=by simpa using hb
   have en:(o++[(k,z)]).length=N+1:=by rw [hN];simp
   have eA:cat sumK o++sumK (k,z)=cat sumK (o++[(k,z)]):=by rw [cat_append,cat_one]
   have X2:(sumK (k,z)).extract 0 (0+1*3)=sumK (k,z):=by simp [sumK]
   rw [e,en,← eA]
   refine .inl ⟨by decide,by decide,_,fill_bal1 (k,z),rfl,by decide,9601,N,_,.inl rfl,by decide,(sumK_fits _).one,rfl,_,X2,?_⟩
   refine ⟨by omega,by unfold maxLen;omega,⟨q,hq,by rw [hqb];omega⟩,trivial,fun g2 cap2=>?_⟩
   exact ⟨[(9601,Blk.own _ 85 3 (N+1) (cat sumK o++sumK (k,z)))],[],⟨.some,rfl⟩,⟨.inl rfl,trivial⟩,rfl⟩
  ·have hd:d=true:=by simpa using hd
   subst hd
   have e:payR xs k n=o:=by unfold payR;rw [hw];rfl
   rw [e,← hN]
   exact ⟨[(9601,Blk.own x 85 3 N (cat sumK o))],[],⟨hx,rfl⟩,⟨.inl rfl,trivial⟩,rfl⟩
theorem nzf_take {κ:Type} {l:List (κ×Int)} {i:Nat} {y:κ×Int} (h:l[i]? = some y):nzf (l.take (i+1))=if y.2=0 then nzf (l.take i) else nzf (l.take i)++[y]:=by
 rw [take_one h];unfold nzf;rw [List.filter_append]
 by_cases e:y.2=0
 ·rw [if_pos e];simp [e]
 ·rw [if_neg e];simp [e]
theorem nzf_len {κ:Type} (l:List (κ×Int)) (i:Nat):(nzf (l.take i)).length≤i:=by
 have h1:(nzf (l.take i)).length≤(l.take i).length:=List.length_filter_le _ _
 have h2:(l.take i).length≤i:=by rw [List.length_take];omega
 omega
theorem amtB_one (C:List (Ky×Int)) (y:Ky×Int):amtB (C++[y])=(amtB C && inB y.2 (-1000000000000000) 1000000000000000):=by unfold amtB;rw [List.all_append];simp
theorem bal_r {E:Env} (hE:E.P=Tryz.prog) {v:Value} {xs:List (Ky×Int)} (hv:Lst E v 3 xs.length (cat sumK xs)) (hn:xs.length≤1000000000000):OwnC E 75 [SV.c v] [] (fun r U=>∃ s n,n=(nzf xs).length∧IsL s n∧r=.tuple #[s,.bool (amtB (nzf xs))]∧U=[(9602,Blk.own s 85 3 n (cat sumK (nzf xs)))]):=by
 refine sx_ownC [] tt_ok mixed at75 E hE [SV.c v] [] _ rfl rfl fun w X β hT=>?_
 obtain ⟨a,cap,rfl,hc,h4⟩:=(hv.of_old hT).shape
 refine ⟨fun q f m=>∃ (i:Nat) (x:Value) (N:Nat) (o:List (Ky×Int)),q=xs.length - i∧i≤xs.length∧nzf (xs.take i)=o∧N=o.length∧N≤i∧IsL x N∧f=[(0,SV.c (.slice a xs.length cap)),(4,SV.c x),(5,SV.c (.bool (amtB o))),(6,SV.c (.int .i64 (i:Nat)))]∧m=[(9602,Blk.own x 85 3 N (cat sumK o))],xs.length,⟨_,_,⟨0,.slice none 0 0,0,[],by omega,by omega,rfl,rfl,by omega,.nil,rfl,rfl⟩,⟨rfl,rfl,rfl,rfl,trivial⟩,⟨.inr ⟨rfl,rfl,rfl⟩,trivial⟩,rfl⟩,?_⟩
 rintro q f m ⟨i,x,N,o,rfl,hi,hw,hN,hb,hx,rfl,rfl⟩
 refine ⟨_,fun w' _=>run_len_sl Tryz.underlying28 w',fun h=>?_,fun h=>?_⟩
 ·have h:i < xs.length:=by have:=of_decide_eq_true h;omega
  obtain ⟨b,of_,rfl,h5⟩:=h4 (by omega)
  obtain ⟨y,hy⟩:∃ y,xs[i]? = some y:=⟨_,List.getElem?_eq_getElem h⟩
  have hE':VOk (envC Tryz.prog tt Tryz.f75.ntmps w X (tiedK [] β)):=tt_ok
  have L1:=lst_at hE' h5 sumK_size hy (j:=2) (v:=.int .i64 y.2) rfl (ty:=3) (ti:=ti3) rfl rfl (p:=of_+(i:Int).toNat*3+2) rfl
  have L2:=lst_elem hE' h5 sumK_size hy (ty:=85) (ti:=ti85) rfl rfl rfl (p:=of_+(i:Int).toNat*3) rfl
  have hw1:=nzf_take hy
  rw [hw] at hw1
  have X1:(sumK y).extract 0 (0+1*3)=sumK y:=by simp [sumK]
  obtain ⟨q,hq,hqb⟩:=info_bal
  have F1:=far_r y.2
  refine ⟨by omega,by omega,.inl ⟨_,L1,fun c=>?_,fun c=>?_⟩⟩
  ·have c:¬ y.2=0:=by have c:(y.2 != 0)=true:=c;simpa using c
   rw [if_neg c] at hw1
   have hg:=amtB_one o y
   refine ⟨by omega,by omega,.inl ⟨_,L2,.inl ⟨by decide,by decide,_,fill_bal1 y,rfl,by decide,9602,N,_,.inl rfl,by decide,(sumK_fits _).one,rfl,_,X1,?_⟩⟩⟩
   refine ⟨by omega,by unfold maxLen;omega,⟨q,hq,by rw [hqb];omega⟩,trivial,fun g2 cap2=>?_⟩
   refine ⟨fun d=>⟨by omega,by omega,.inl ⟨_,L1,.inl ⟨_,F1,?_⟩⟩⟩,fun d=>?_⟩
   ·have d:amtB o=true:=d
    exact ⟨xs.length - (i+1),_,_,by omega,⟨i+1,_,(N+1),o++[y],rfl,by omega,hw1,by simp;omega,by omega,.some,rfl,rfl⟩,⟨rfl,rfl,c_bool (by rw [hg,d,Bool.not_not,Bool.true_and]),c_int (i64_succ (by omega)),trivial⟩,⟨.inl (own_eq (by rw [cat_append,cat_one])),trivial⟩,rfl⟩
   ·have d:amtB o=false:=d
    exact ⟨xs.length - (i+1),_,_,by omega,⟨i+1,_,(N+1),o++[y],rfl,by omega,hw1,by simp;omega,by omega,.some,rfl,rfl⟩,⟨rfl,rfl,c_bool (by rw [hg,d,Bool.false_and]),c_int (i64_succ (by omega)),trivial⟩,⟨.inl (own_eq (by rw [cat_append,cat_one])),trivial⟩,rfl⟩
  ·have c:y.2=0:=by have c:(y.2 != 0)=false:=c;simpa using c
   rw [if_pos c] at hw1
   exact ⟨xs.length - (i+1),_,_,by omega,⟨i+1,_,N,o,rfl,by omega,hw1,hN,by omega,hx,rfl,rfl⟩,⟨rfl,rfl,rfl,c_int (i64_succ (by omega)),trivial⟩,⟨.inl rfl,trivial⟩,rfl⟩
 ·have h:i=xs.length:=by have:=of_decide_eq_false h;omega
  subst h
  rw [List.take_length] at hw
  exact ⟨[(9602,Blk.own x 85 3 N (cat sumK o))],[],⟨x,N,by rw [hw];exact hN,hx,by rw [hw];rfl,by rw [hw]⟩,⟨.inl rfl,trivial⟩,rfl⟩
def putT (k:Bs) (n:Int):List (Bs×Int)→Bool→List (Bs×Int)
 | [],d=>if d then [] else [(k,n)]
 | x :: r,d=>(if !d && !ltB x.1 k then [(k,n)] else [])++((if x.1=k then [] else [x])++putT k n r (d || !ltB x.1 k))
theorem putT_fold (k:Bs) (n:Int):∀ (l:List (Bs×Int)) (o:List (Bs×Int)) (d:Bool),(let s:=l.foldl (putS k n) (o,d);if s.2 then s.1 else s.1++[(k,n)])=o++putT k n l d
 | [],o,d=>by cases d<;>simp [putT]
 | x :: r,o,d=>by
  rw [List.foldl_cons]
  have h:=putT_fold k n r (putS k n (o,d) x).1 (putS k n (o,d) x).2
  refine Eq.trans h ?_
  rw [putT]
  unfold putS
  cases d<;>by_cases h:ltB x.1 k=true<;>by_cases e:x.1=k<;>simp [h,e,ltB_irr]
theorem putR_eq (l:List (Bs×Int)) (k:Bs) (n:Int):putR l k n=putT k n l false:=by
 have h:=putT_fold k n l [] false
 rw [List.nil_append] at h
 exact h
theorem putT_done (k:Bs) (n:Int):∀ {l:List (Bs×Int)},(∀ x∈l,ltB k x.1=true)→putT k n l true=l
 | [],_=>rfl
 | x :: r,h=>by
  have hx:=h x (by simp)
  have e:¬ x.1=k:=fun e=>by rw [e,ltB_irr] at hx;cases hx
  have hr:=putT_done k n (l:=r) fun y hy=>h y (List.mem_cons_of_mem _ hy)
  rw [putT,Bool.true_or,hr]
  simp [e]
theorem putR_upd {l:List (Bs×Int)} (hs:SrtA ltB l) (k:Bs) (n:Int):Upd ltB l k n (putR l k n):=by
 rw [putR_eq]
 have key:∀ (s p:List (Bs×Int)),SrtA ltB (p++s)→(∀ x∈p,ltB x.1 k=true)→Upd ltB (p++s) k n (p++putT k n s false):=by
  intro s
  induction s with
  | nil=>exact fun p hs hp=>Upd.ins ltB_ok hs hp (by simp) n
  | cons x r ih =>
   intro p hs hp
   obtain ⟨h1,h2,h3⟩:=hs.parts
   by_cases c:ltB x.1 k=true
   ·have e:¬ x.1=k:=fun e=>by rw [e,ltB_irr] at c;cases c
    have h:=ih (p++[x]) (by rw [List.append_assoc];exact hs) (fun y hy=>by
     rcases List.mem_append.1 hy with hy | hy
     ·exact hp y hy
     ·rw [List.mem_singleton.1 hy];exact c)
    rw [List.append_assoc,List.append_assoc] at h
    rw [putT];simpa [c,e] using h
   ·have c:ltB x.1 k=false:=by simpa using c
    by_cases e:x.1=k
    ·have hr:putT k n r true=r:=putT_done k n fun y hy=>by rw [← e];exact h2 y hy
     have hu:=Upd.set (n:=x.2) ltB_ok hs n
     rw [putT,c,Bool.not_false,Bool.or_true,hr]
     obtain ⟨x1,x2⟩:=x
     have e:x1=k:=e
     subst e
     simpa using hu
    ·have c2:ltB k x.1=true:=by
       cases c2:ltB k x.1 with
       | true=>rfl
       | false=>exact absurd (ltB_tri _ _ c c2) e
     have hr:putT k n r true=r:=putT_done k n fun y hy=>ltB_tr _ _ _ c2 (h2 y hy)
     rw [putT,c,Bool.not_false,Bool.or_true,hr]
     have hu:=Upd.ins ltB_ok hs hp (fun y hy=>by
      rcases List.mem_cons.1 hy with rfl | hy
      ·exact c2
      ·exact ltB_tr _ _ _ c2 (h2 y hy)) n
     simpa [e] using hu
 exact key l [] hs (by simp)
def payT (k:Ky):List (Ky×Int)→Bool→Int→List (Ky×Int)
 | [],d,z=>if d then [] else [(k,z)]
 | x :: r,d,z=>if !d && ltK2 k x.1 then (k,z) :: x :: payT k r true z
  else if !d && !ltK2 x.1 k then (k,w64 (z+x.2)) :: payT k r true (w64 (z+x.2))
  else x :: payT k r d z
theorem payT_fold (k:Ky):∀ (l:List (Ky×Int)) (o:List (Ky×Int)) (d:Bool) (z:Int),(let s:=l.foldl (payS k) (o,d,z);if s.2.1 then s.1 else s.1++[(k,s.2.2)])=o++payT k l d z
 | [],o,d,z=>by cases d<;>simp [payT]
 | x :: r,o,d,z=>by
  rw [List.foldl_cons]
  have h:=payT_fold k r (payS k (o,d,z) x).1 (payS k (o,d,z) x).2.1 (payS k (o,d,z) x).2.2
  refine Eq.trans h ?_
  rw [payT]
  unfold payS
  cases d<;>by_cases h:ltK2 k x.1=true<;>by_cases e:ltK2 x.1 k=true<;>simp [h,e]
theorem payR_eq (l:List (Ky×Int)) (k:Ky) (n:Int):payR l k n=payT k l false n:=by
 have h:=payT_fold k l [] false n
 rw [List.nil_append] at h
 exact h
theorem payT_done (k:Ky):∀ (l:List (Ky×Int)) (z:Int),payT k l true z=l
 | [],_=>rfl
 | x :: r,z=>by rw [payT,payT_done k r z];simp
theorem payR_upd {l:List (Ky×Int)} (hs:SrtA ltK2 l) (k:Ky) {n:Int} (hn:w64 n=n):Upd ltK2 l k (w64 (getA l k+n)) (payR l k n):=by
 rw [payR_eq]
 have key:∀ (s p:List (Ky×Int)),SrtA ltK2 (p++s)→(∀ x∈p,ltK2 x.1 k=true)→Upd ltK2 (p++s) k (w64 (getA (p++s) k+n)) (p++payT k s false n):=by
  intro s
  induction s with
  | nil =>
   intro p hs hp
   have hg:getA (p++[]) k=0:=getA_none fun x hx=>by
    rw [List.append_nil] at hx;exact ltK2_ok.ne (hp x hx)
   rw [hg,Int.zero_add,hn]
   exact Upd.ins ltK2_ok hs hp (by simp) n
  | cons x r ih =>
   intro p hs hp
   obtain ⟨h1,h2,h3⟩:=hs.parts
   by_cases c2:ltK2 k x.1=true
   ·have hall:∀ y∈x :: r,ltK2 k y.1=true:=fun y hy=>by
      rcases List.mem_cons.1 hy with rfl | hy
      ·exact c2
      ·exact ltK2_ok.tr _ _ _ c2 (h2 y hy)
    have hg:getA (p++x :: r) k=0:=getA_none fun y hy=>by
     rcases List.mem_append.1 hy with hy | hy
     ·exact ltK2_ok.ne (hp y hy)
     ·exact (ltK2_ok.ne (hall y hy)).symm
    rw [hg,Int.zero_add,hn,payT,c2,payT_done]
    exact Upd.ins ltK2_ok hs hp hall n
   ·have c2:ltK2 k x.1=false:=by simpa using c2
    by_cases c:ltK2 x.1 k=true
    ·have h:=ih (p++[x]) (by rw [List.append_assoc];exact hs) (fun y hy=>by
       rcases List.mem_append.1 hy with hy | hy
       ·exact hp y hy
       ·rw [List.mem_singleton.1 hy];exact c)
     rw [List.append_assoc,List.append_assoc] at h
     rw [payT,c,c2];simpa using h
    ·have c:ltK2 x.1 k=false:=by simpa using c
     have e:x.1=k:=ltK2_ok.tri _ _ c c2
     obtain ⟨x1,x2⟩:=x
     have e:x1=k:=e
     subst e
     have hg:getA (p++(x1,x2) :: r) x1=x2:=by
      rw [getA_skip fun y hy=>ltK2_ok.ne (hp y hy),getA_hit]
     rw [hg,payT,c,Int.add_comm x2 n]
     have hu:=Upd.set ltK2_ok hs (w64 (n+x2))
     simpa [payT_done] using hu
 exact key l [] hs (by simp)
theorem held_z {E:Env} (hE:E.P=Tryz.prog) {v vc vp:Value} {xs:List (Bs×Int)} {k:Bs} (hv:Lst E v 2 xs.length (cat sumA xs)) (hn:xs.length≤1000000000000):OwnC E 16 [SV.c (.agg #[v,vc,vp]),SV.c (.string (S k))] [] (fun x U=>x=.int .i64 (getA xs k)∧U=[]):=by
 refine sx_ownC [] tt_ok mixed at16 E hE [SV.c (.agg #[v,vc,vp]),SV.c (.string (S k))] [] _ rfl rfl fun w X β hT=>?_
 obtain ⟨a,cap,rfl,hc,h4⟩:=(hv.of_old hT).shape
 refine ⟨rfl,_,rfl,_,fun w' _=>run_len_sl Tryz.underlying27 w',?_⟩
 refine ⟨fun q f m=>∃ (i:Nat),q=xs.length - i∧i≤xs.length∧(∀ x∈xs.take i,x.1≠k)∧f=[(1,SV.c (.string (S k))),(8,SV.c (.slice a xs.length cap)),(9,SV.c (.int .i64 (xs.length:Nat))),(10,SV.c (.int .i64 (i:Nat)))]∧m=[],xs.length,⟨_,_,⟨0,rfl,by omega,fun x h=>by simp at h,rfl,rfl⟩,⟨rfl,rfl,rfl,rfl,trivial⟩,trivial,rfl⟩,?_⟩
 rintro q f m ⟨i,rfl,hi,hk,rfl,rfl⟩
 refine ⟨fun h=>?_,fun h=>?_⟩
 ·have h:i < xs.length:=by have:=of_decide_eq_true h;omega
  obtain ⟨b,o,rfl,h5⟩:=h4 (by omega)
  obtain ⟨y,hy⟩:∃ y,xs[i]? = some y:=⟨_,List.getElem?_eq_getElem h⟩
  have hE':VOk (envC Tryz.prog tt Tryz.f16.ntmps w X (tiedK [] β)):=tt_ok
  have L2:=lst_elem hE' h5 sumA_size hy (ty:=90) (ti:=ti90) rfl rfl rfl (p:=o+(i:Int).toNat*2) rfl
  refine ⟨by omega,by omega,.inl ⟨_,L2,sumA_fits y,_,rfl,fun c=>?_,fun c=>?_⟩⟩
  ·have c:y.1=k:=by have c:=(S_beq y.1 k).symm.trans c;simpa using c
   have e:getA xs k=y.2:=by
    have e1:xs=xs.take i++y :: xs.drop (i+1):=by rw [← drop_at hy,List.take_append_drop]
    rw [e1,getA_skip hk,← c];exact getA_hit (k:=y.1) (n:=y.2)
   exact ⟨_,rfl,[],[],⟨by rw [e];rfl,rfl⟩,trivial,rfl⟩
  ·have c:¬ y.1=k:=by have c:=(S_beq y.1 k).symm.trans c;simpa using c
   have hk':∀ x∈xs.take (i+1),x.1≠k:=fun x hx=>by
    rw [take_one hy] at hx
    rcases List.mem_append.1 hx with hx | hx
    ·exact hk x hx
    ·rw [List.mem_singleton.1 hx];exact c
   exact ⟨xs.length - (i+1),_,_,by omega,⟨i+1,rfl,by omega,hk',rfl,rfl⟩,⟨rfl,rfl,rfl,c_int (i64_succ (by omega)),trivial⟩,trivial,rfl⟩
 ·have h:i=xs.length:=by have:=of_decide_eq_false h;omega
  subst h
  rw [List.take_length] at hk
  exact ⟨[],[],⟨by rw [getA_none hk];rfl,rfl⟩,trivial,rfl⟩
theorem sumA_one (x:Bs×Int):(sumA x).all (·.oneCell')=true:=(sumA_fits x).one
theorem sumK_one (x:Ky×Int):(sumK x).all (·.oneCell')=true:=(sumK_fits x).one
theorem held_ro {E:Env} (hE:E.P=Tryz.prog) {x vc vp:Value} {H:List (Bs×Int)} {k:Bs} {n:Nat} (hn:n=H.length) (hb:n≤1000000000000):OwnC E 17 [SV.c (.agg #[x,vc,vp]),SV.c (.string (S k))] [(9610,Blk.own x 90 2 n (cat sumA H))] (fun y U=>y=.int .i64 (getA H k)∧U=[(9610,Blk.own x 90 2 n (cat sumA H))]):=by
 subst hn
 refine (OwnC.with_own (k:=9610) (v:=x) (e:=90) (sz:=2) (n:=H.length) (A:=cat sumA H) (pre:=[]) rfl rfl (cat_all sumA_one H) (by rw [hE];exact at17.enters) (fun E0 h hl=>held_r (h.trans hE) hl hb) (fun x U h=>by rw [h.2];rfl)).mono ?_
 rintro y U ⟨U0,⟨h1,h2⟩,h3⟩
 exact ⟨h1,by rw [h3,h2]⟩
def LentQ (k0:Key) (x:Value) (e:TypeId) (sz n:Nat) (A:Array Value) (k1:Key) (n1:Nat) (A1:Array Value) (y:Value) (U:MemL):Prop:=IsL y n1∧U=[(k0,Blk.own x e sz n A),(k1,Blk.own y e sz n1 A1)]
theorem put_ro {E:Env} (hE:E.P=Tryz.prog) {x:Value} {H:List (Bs×Int)} {k:Bs} {m:Int} {n:Nat} (hn:n=H.length) (hb:n≤1000000000000):OwnC E 73 [SV.c x,SV.c (.string (S k)),SV.c (.int .i64 m)] [(9610,Blk.own x 90 2 n (cat sumA H))] (LentQ 9610 x 90 2 n (cat sumA H) 9600 (putR H k m).length (cat sumA (putR H k m))):=by
 subst hn
 refine (OwnC.with_own (k:=9610) (v:=x) (e:=90) (sz:=2) (n:=H.length) (A:=cat sumA H) (pre:=[]) rfl rfl (cat_all sumA_one H) (by rw [hE];exact at73.enters) (fun E0 h hl=>put_r (h.trans hE) hl hb) (fun x U h=>by rw [h.2];rfl)).mono ?_
 rintro y U ⟨U0,⟨h1,h2⟩,h3⟩
 exact ⟨h1,by rw [h3,h2]⟩
theorem pay_ro {E:Env} (hE:E.P=Tryz.prog) {x:Value} {C:List (Ky×Int)} {k:Ky} {m:Int} {n:Nat} (hn:n=C.length) (hb:n≤1000000000000):OwnC E 74 [SV.c x,SV.c (.agg (sumK (k,m)))] [(9611,Blk.own x 85 3 n (cat sumK C))] (LentQ 9611 x 85 3 n (cat sumK C) 9601 (payR C k m).length (cat sumK (payR C k m))):=by
 subst hn
 refine (OwnC.with_own (k:=9611) (v:=x) (e:=85) (sz:=3) (n:=C.length) (A:=cat sumK C) (pre:=[]) rfl rfl (cat_all sumK_one C) (by rw [hE];exact at74.enters) (fun E0 h hl=>pay_r (h.trans hE) hl hb) (fun x U h=>by rw [h.2];rfl)).mono ?_
 rintro y U ⟨U0,⟨h1,h2⟩,h3⟩
 exact ⟨h1,by rw [h3,h2]⟩
theorem bal_ro {E:Env} (hE:E.P=Tryz.prog) {x:Value} {C:List (Ky×Int)} {n:Nat} (hn:n=C.length) (hb:n≤1000000000000):OwnC E 75 [SV.c x] [(9611,Blk.own x 85 3 n (cat sumK C))] (fun r U=>∃ s n1,n1=(nzf C).length∧IsL s n1∧r=.tuple #[s,.bool (amtB (nzf C))]∧U=[(9611,Blk.own x 85 3 n (cat sumK C)),(9602,Blk.own s 85 3 n1 (cat sumK (nzf C)))]):=by
 subst hn
 refine (OwnC.with_own (k:=9611) (v:=x) (e:=85) (sz:=3) (n:=C.length) (A:=cat sumK C) (pre:=[]) rfl rfl (cat_all sumK_one C) (by rw [hE];exact at75.enters) (fun E0 h hl=>bal_r (h.trans hE) hl hb) (fun x U h=>by obtain ⟨s,n1,-,-,-,rfl⟩:=h;rfl)).mono ?_
 rintro y U ⟨U0,⟨s,n1,h1,h2,h3,h4⟩,h5⟩
 exact ⟨s,n1,h1,h2,h3,by rw [h5,h4]⟩
def cashR (day:Int) (g:Led) (x:EC):Led:=if x.settle≤day then { g with c:=payR g.c (x.cur,0) x.amt } else { g with p:=payR g.p (x.cur,x.settle) x.amt }
def entR (day:Int) (g:Led) (x:EC):Except Int Led :=
 if x.kind=1 then
  if w64 (getA g.h x.ins+x.qty) < 0 then .error 181
  else if w64 (getA g.h x.ins+x.qty) > 1000000000000000 then .error 171
  else .ok (cashR day { g with h:=putR g.h x.ins (w64 (getA g.h x.ins+x.qty)) } x)
 else .ok (cashR day g x)
def RefQ (R:Except Int Led) (r:Value) (U:MemL):Prop:=∃ (g:Led) (vh vc vp:Value),IsL vh g.h.length∧IsL vc g.c.length∧IsL vp g.p.length∧U=[(9701,Blk.own vh 90 2 g.h.length (cat sumA g.h)),(9702,Blk.own vc 85 3 g.c.length (cat sumK g.c)),(9703,Blk.own vp 85 3 g.p.length (cat sumK g.p)),(9700,Blk.row 30 3 #[vh,vc,vp])]∧match R with
 | .error e=>r=.int .i64 e∧e≠0
 | .ok g2=>r=.int .i64 0∧g=g2
theorem fill_b2 (c:Bs) (m:Int) {pl:List (Nat×Nat)} (hpl:pl=[(0,1),(1,1),(2,1)]):Instr.fill (fun k=>pl[k]?) ti85.zero [(0,.string (S c)),(2,.int .i64 m)]=some (sumK ((c,0),m)):=by
 subst hpl;rfl
theorem enter_r {E:Env} (hE:E.P=Tryz.prog) {g:Led} {vh vc vp:Value} {day:Int} (hh:IsL vh g.h.length) (hc:IsL vc g.c.length) (hp:IsL vp g.p.length) (hl:g.h.length≤10000000000∧g.c.length≤10000000000∧g.p.length≤10000000000) {x:EC}:OwnC E 37 [SV.ptr 9700 0,SV.c (.agg x.A),SV.c (.int .i64 day)] [(9701,Blk.own vh 90 2 g.h.length (cat sumA g.h)),(9702,Blk.own vc 85 3 g.c.length (cat sumK g.c)),(9703,Blk.own vp 85 3 g.p.length (cat sumK g.p)),(9700,Blk.row 30 3 #[vh,vc,vp])] (RefQ (entR day g x)):=by
 refine sx_ownC [] tt_ok mixed at37 E hE [SV.ptr 9700 0,SV.c (.agg x.A),SV.c (.int .i64 day)] [(9701,Blk.own vh 90 2 g.h.length (cat sumA g.h)),(9702,Blk.own vc 85 3 g.c.length (cat sumK g.c)),(9703,Blk.own vp 85 3 g.p.length (cat sumK g.p)),(9700,Blk.row 30 3 #[vh,vc,vp])] _ rfl rfl fun w X β hT=>?_
 have hE':(envC Tryz.prog tt Tryz.f37.ntmps w X (tiedK [(9701,Blk.own vh 90 2 g.h.length (cat sumA g.h)),(9702,Blk.own vc 85 3 g.c.length (cat sumK g.c)),(9703,Blk.own vp 85 3 g.p.length (cat sumK g.p)),(9700,Blk.row 30 3 #[vh,vc,vp])] β)).toEnv.P=Tryz.prog:=rfl
 refine ⟨rfl,_,rfl,fun k1=>?_,fun k1=>?_⟩
 ·have k1:x.kind=1:=by have k1:(x.kind == 1)=true:=k1;simpa using k1
  have HO:=held_ro hE' (x:=vh) (vc:=vc) (vp:=vp) (H:=g.h) (k:=x.ins) rfl (by omega)
  refine ⟨_,rfl,?_⟩
  refine .inr (.inr (.inl ⟨[(9610,9701)],[_,_],[_],_,[_],HO,rfl,⟨.inl rfl,trivial⟩,by kernel_rfl,by kernel_rfl,?_⟩))
  refine ⟨_,rfl,by kernel_rfl,fun c1=>?_,fun c1=>?_⟩
  ·have c1:w64 (getA g.h x.ins+x.qty) < 0:=of_decide_eq_true c1
   have eR:entR day g x=.error 181:=by unfold entR;rw [if_pos k1,if_pos c1]
   rw [eR]
   exact ⟨[(9701,Blk.own vh 90 2 g.h.length (cat sumA g.h)),(9702,Blk.own vc 85 3 g.c.length (cat sumK g.c)),(9703,Blk.own vp 85 3 g.p.length (cat sumK g.p)),(9700,Blk.row 30 3 #[vh,vc,vp])],[],⟨g,vh,vc,vp,hh,hc,hp,rfl,rfl,by decide⟩,⟨.inl rfl,.inl rfl,.inl rfl,rfl,trivial⟩,rfl⟩
  ·have c1:¬ w64 (getA g.h x.ins+x.qty) < 0:=of_decide_eq_false c1
   refine ⟨fun c2=>?_,fun c2=>?_⟩
   ·have c2:w64 (getA g.h x.ins+x.qty) > 1000000000000000:=of_decide_eq_true c2
    have eR:entR day g x=.error 171:=by unfold entR;rw [if_pos k1,if_neg c1,if_pos c2]
    rw [eR]
    exact ⟨[(9701,Blk.own vh 90 2 g.h.length (cat sumA g.h)),(9702,Blk.own vc 85 3 g.c.length (cat sumK g.c)),(9703,Blk.own vp 85 3 g.p.length (cat sumK g.p)),(9700,Blk.row 30 3 #[vh,vc,vp])],[],⟨g,vh,vc,vp,hh,hc,hp,rfl,rfl,by decide⟩,⟨.inl rfl,.inl rfl,.inl rfl,rfl,trivial⟩,rfl⟩
   ·have c2:¬ w64 (getA g.h x.ins+x.qty) > 1000000000000000:=of_decide_eq_false c2
    have eR:entR day g x=.ok (cashR day { g with h:=putR g.h x.ins (w64 (getA g.h x.ins+x.qty)) } x):=by unfold entR;rw [if_pos k1,if_neg c1,if_neg c2]
    rw [eR]
    have TO:=put_ro hE' (x:=vh) (H:=g.h) (k:=x.ins) (m:=w64 (getA g.h x.ins+x.qty)) rfl (by omega)
    refine ⟨_,rfl,_,rfl,?_⟩
    refine .inr (.inr (.inr ⟨[(9610,9701)],[9600],[_,_,_],[_],_,TO,rfl,⟨.inl rfl,trivial⟩,by kernel_rfl,(by change _=true;kernel_rfl),?_⟩))
    rintro r U ⟨hv2,rfl⟩
    generalize putR g.h x.ins (w64 (getA g.h x.ins+x.qty))=H2 at hv2 ⊢
    obtain ⟨yb,yd,rfl⟩:=hv2.len
    refine ⟨by kernel_rfl,by decide,rfl,#[.slice yb H2.length yd,vc,vp],rfl,by kernel_rfl,?_⟩
    refine ⟨_,rfl,fun s1=>?_,fun s1=>?_⟩
    ·have s1:x.settle≤day:=of_decide_eq_true s1
     have PO:=pay_ro hE' (x:=vc) (C:=g.c) (k:=(x.cur,0)) (m:=x.amt) rfl (by omega)
     have eC:cashR day { g with h:=H2 } x=⟨H2,payR g.c (x.cur,0) x.amt,g.p⟩:=by unfold cashR;rw [if_pos s1]
     rw [eC]
     refine ⟨_,rfl,_,rfl,_,rfl,_,fill_b2 x.cur x.amt rfl,?_⟩
     refine .inr (.inr (.inr ⟨[(9611,9702)],[9601],[_,_],[_],_,PO,rfl,⟨.inl rfl,trivial⟩,by kernel_rfl,(by change _=true;kernel_rfl),?_⟩))
     rintro r U ⟨hv,rfl⟩
     generalize payR g.c (x.cur,0) x.amt=C2 at hv ⊢
     obtain ⟨ya,yc,rfl⟩:=hv.len
     refine ⟨by kernel_rfl,by decide,rfl,#[.slice yb H2.length yd,.slice ya C2.length yc,vp],rfl,by kernel_rfl,?_⟩
     exact ⟨[(9701,Blk.own (.slice yb H2.length yd) 90 2 H2.length (cat sumA H2)),(9702,Blk.own (.slice ya C2.length yc) 85 3 C2.length (cat sumK C2)),(9703,Blk.own vp 85 3 g.p.length (cat sumK g.p)),(9700,Blk.row 30 3 #[.slice yb H2.length yd,.slice ya C2.length yc,vp])],[(9701,9600),(9702,9601)],⟨⟨H2,C2,g.p⟩,.slice yb H2.length yd,.slice ya C2.length yc,vp,hv2,hv,hp,rfl,rfl,rfl⟩,⟨.inl rfl,.inl rfl,.inl rfl,rfl,trivial⟩,rfl⟩
    ·have s1:¬ x.settle≤day:=of_decide_eq_false s1
     have PO:=pay_ro hE' (x:=vp) (C:=g.p) (k:=(x.cur,x.settle)) (m:=x.amt) rfl (by omega)
     have eC:cashR day { g with h:=H2 } x=⟨H2,g.c,payR g.p (x.cur,x.settle) x.amt⟩:=by unfold cashR;rw [if_neg s1]
     rw [eC]
     refine ⟨_,rfl,_,rfl,_,rfl,_,rfl,_,fill_bal ((x.cur,x.settle),x.amt) rfl,?_⟩
     refine .inr (.inr (.inr ⟨[(9611,9703)],[9601],[_,_],[_],_,PO,rfl,⟨.inl rfl,trivial⟩,by kernel_rfl,(by change _=true;kernel_rfl),?_⟩))
     rintro r U ⟨hv,rfl⟩
     generalize payR g.p (x.cur,x.settle) x.amt=C2 at hv ⊢
     obtain ⟨ya,yc,rfl⟩:=hv.len
     refine ⟨by kernel_rfl,by decide,rfl,#[.slice yb H2.length yd,vc,.slice ya C2.length yc],rfl,by kernel_rfl,?_⟩
     exact ⟨[(9701,Blk.own (.slice yb H2.length yd) 90 2 H2.length (cat sumA H2)),(9702,Blk.own vc 85 3 g.c.length (cat sumK g.c)),(9703,Blk.own (.slice ya C2.length yc) 85 3 C2.length (cat sumK C2)),(9700,Blk.row 30 3 #[.slice yb H2.length yd,vc,.slice ya C2.length yc])],[(9701,9600),(9703,9601)],⟨⟨H2,g.c,C2⟩,.slice yb H2.length yd,vc,.slice ya C2.length yc,hv2,hc,hv,rfl,rfl,rfl⟩,⟨.inl rfl,.inl rfl,.inl rfl,rfl,trivial⟩,rfl⟩
 ·have k1:¬ x.kind=1:=by have k1:(x.kind == 1)=false:=k1;simpa using k1
  have eR:entR day g x=.ok (cashR day g x):=by unfold entR;rw [if_neg k1]
  rw [eR]
  refine ⟨_,rfl,fun s1=>?_,fun s1=>?_⟩
  ·have s1:x.settle≤day:=of_decide_eq_true s1
   have PO:=pay_ro hE' (x:=vc) (C:=g.c) (k:=(x.cur,0)) (m:=x.amt) rfl (by omega)
   refine ⟨_,rfl,_,rfl,_,rfl,_,fill_b2 x.cur x.amt rfl,?_⟩
   refine .inr (.inr (.inr ⟨[(9611,9702)],[9601],[_,_],[_],_,PO,rfl,⟨.inl rfl,trivial⟩,by kernel_rfl,(by change _=true;kernel_rfl),?_⟩))
   rintro r U ⟨hv,rfl⟩
   obtain ⟨ya,yc,rfl⟩:=hv.len
   have eC:cashR day g x=⟨g.h,payR g.c (x.cur,0) x.amt,g.p⟩:=by unfold cashR;rw [if_pos s1]
   rw [eC]
   refine ⟨by kernel_rfl,by decide,rfl,#[vh,.slice ya (payR g.c (x.cur,0) x.amt).length yc,vp],rfl,by kernel_rfl,?_⟩
   exact ⟨[(9701,Blk.own vh 90 2 g.h.length (cat sumA g.h)),(9702,Blk.own (.slice ya (payR g.c (x.cur,0) x.amt).length yc) 85 3 (payR g.c (x.cur,0) x.amt).length (cat sumK (payR g.c (x.cur,0) x.amt))),(9703,Blk.own vp 85 3 g.p.length (cat sumK g.p)),(9700,Blk.row 30 3 #[vh,.slice ya (payR g.c (x.cur,0) x.amt).length yc,vp])],[(9702,9601)],⟨⟨g.h,payR g.c (x.cur,0) x.amt,g.p⟩,vh,.slice ya (payR g.c (x.cur,0) x.amt).length yc,vp,hh,hv,hp,rfl,rfl,rfl⟩,⟨.inl rfl,.inl rfl,.inl rfl,rfl,trivial⟩,rfl⟩
  ·have s1:¬ x.settle≤day:=of_decide_eq_false s1
   have PO:=pay_ro hE' (x:=vp) (C:=g.p) (k:=(x.cur,x.settle)) (m:=x.amt) rfl (by omega)
   refine ⟨_,rfl,_,rfl,_,rfl,_,rfl,_,fill_bal ((x.cur,x.settle),x.amt) rfl,?_⟩
   refine .inr (.inr (.inr ⟨[(9611,9703)],[9601],[_,_],[_],_,PO,rfl,⟨.inl rfl,trivial⟩,by kernel_rfl,(by change _=true;kernel_rfl),?_⟩))
   rintro r U ⟨hv,rfl⟩
   obtain ⟨ya,yc,rfl⟩:=hv.len
   have eC:cashR day g x=⟨g.h,g.c,payR g.p (x.cur,x.settle) x.amt⟩:=by unfold cashR;rw [if_neg s1]
   rw [eC]
   refine ⟨by kernel_rfl,by decide,rfl,#[vh,vc,.slice ya (payR g.p (x.cur,x.settle) x.amt).length yc],rfl,by kernel_rfl,?_⟩
   exact ⟨[(9701,Blk.own vh 90 2 g.h.length (cat sumA g.h)),(9702,Blk.own vc 85 3 g.c.length (cat sumK g.c)),(9703,Blk.own (.slice ya (payR g.p (x.cur,x.settle) x.amt).length yc) 85 3 (payR g.p (x.cur,x.settle) x.amt).length (cat sumK (payR g.p (x.cur,x.settle) x.amt))),(9700,Blk.row 30 3 #[vh,vc,.slice ya (payR g.p (x.cur,x.settle) x.amt).length yc])],[(9703,9601)],⟨⟨g.h,g.c,payR g.p (x.cur,x.settle) x.amt⟩,vh,vc,.slice ya (payR g.p (x.cur,x.settle) x.amt).length yc,hh,hc,hv,rfl,rfl,rfl⟩,⟨.inl rfl,.inl rfl,.inl rfl,rfl,trivial⟩,rfl⟩
def actR (g:Led) (a:AC):Except Int Led :=
 if (applyA a (getA g.h a.ins)).2≠0 then .error (applyA a (getA g.h a.ins)).2
 else if a.kind=3 then
  if w64 ((applyA a (getA g.h a.ins)).1.qty+getA (putR g.h a.ins 0) a.into) > 1000000000000000 then .error 171
  else .ok ⟨putR (putR g.h a.ins 0) (applyA a (getA g.h a.ins)).1.ins (w64 ((applyA a (getA g.h a.ins)).1.qty+getA (putR g.h a.ins 0) a.into)),payR g.c (a.cur,0) (applyA a (getA g.h a.ins)).1.cash,g.p⟩
 else .ok ⟨putR g.h (applyA a (getA g.h a.ins)).1.ins (applyA a (getA g.h a.ins)).1.qty,payR g.c (a.cur,0) (applyA a (getA g.h a.ins)).1.cash,g.p⟩
def stepR (day:Int) (g:Led):Ev→Except Int Led
 | .inl a=>actR g a
 | .inr x=>entR day g x
def runR (day:Int):Led→List Ev→Except Int Led
 | g,[]=>.ok g
 | g,o :: r=>match stepR day g o with
  | .error e=>.error e
  | .ok g'=>runR day g' r
def finR (g:Except Int Led):Led×Int:=match g with
 | .error e=>(.zero,e)
 | .ok g=>pfL ⟨nzf g.h,nzf g.c,nzf g.p⟩
structure SimG (r g:Led):Prop where
 h:Sim ltB r.h g.h
 c:Sim ltK2 r.c g.c
 p:Sim ltK2 r.p g.p
theorem SimG.zero:SimG .zero .zero:=⟨Sim.nil _,Sim.nil _,Sim.nil _⟩
def HOk (H:List (Bs×Int)):Prop:=(SrtA ltB H∧NzA H)∧HB H
theorem HOk.set {H:List (Bs×Int)} (h:HOk H) (k:Bs) {v:Int} (hv:0≤v∧v≤1000000000000000):HOk (setA ltB H k v) :=
 ⟨⟨(setA_upd ltB_ok h.1.1 k v).srt,setA_nz ltB_ok h.1.1 h.1.2 k v⟩,HB.set h.2 h.1.1 hv⟩
theorem HOk.hold {H H':List (Bs×Int)} (h:HOk H) {k:Bs} {n:Int} (e:holdL H k n=.ok H'):HOk H'∧H'=setA ltB H k (getA H k+n)∧0≤getA H k+n∧getA H k+n≤1000000000000000:=by
 unfold holdL at e
 split at e
 ·cases e
 ·split at e
  ·cases e
  ·cases e
   exact ⟨h.set k (by omega),rfl,by omega,by omega⟩
theorem pay_ok8 {f:List (Ky×Int)} (h:SrtA ltK2 f∧NzA f) (k:Ky) (n:Int):SrtA ltK2 (payL f k n)∧NzA (payL f k n) :=
 ⟨(setA_upd ltK2_ok h.1 k _).srt,setA_nz ltK2_ok h.1 h.2 k _⟩
theorem LedOk.hok {g:Led} (h:LedOk g):HOk g.h:=⟨h.h,h.b⟩
theorem settle_ok {day:Int} {g:Led} (h:LedOk g) (x:EC):LedOk (settleL day g x):=by
 unfold settleL
 split
 ·exact ⟨h.h,pay_ok8 h.c _ _,h.p,h.b⟩
 ·exact ⟨h.h,h.c,pay_ok8 h.p _ _,h.b⟩
theorem act_okL {g g':Led} (h:LedOk g) {a:AC} (e:actL g a=.ok g'):LedOk g'∧g'.h.length≤g.h.length+2∧g'.c.length≤g.c.length+1∧g'.p=g.p:=by
 unfold actL at e
 split at e
 ·cases e
 ·split at e
  ·cases e
  ·rename_i H hH
   cases e
   obtain ⟨h1,h2,-,-⟩:=(h.hok.set a.ins (v:=0) (by decide)).hold hH
   refine ⟨⟨h1.1,pay_ok8 h.c _ _,h.p,h1.2⟩,?_,setA_len _ _ _,rfl⟩
   show H.length≤_
   rw [h2]
   have l1:=setA_len (lt:=ltB) (setA ltB g.h a.ins 0) (applyA a (getA g.h a.ins)).1.ins (getA (setA ltB g.h a.ins 0) (applyA a (getA g.h a.ins)).1.ins+(applyA a (getA g.h a.ins)).1.qty)
   have l2:=setA_len (lt:=ltB) g.h a.ins 0
   omega
theorem settle_len (day:Int) (g:Led) (x:EC):(settleL day g x).c.length≤g.c.length+1∧(settleL day g x).p.length≤g.p.length+1:=by
 unfold settleL
 split
 ·exact ⟨setA_len _ _ _,by simp⟩
 ·exact ⟨by simp,setA_len _ _ _⟩
theorem ent_okL {day:Int} {g g':Led} (h:LedOk g) {x:EC} (e:entL day g x=.ok g'):LedOk g'∧g'.h.length≤g.h.length+1∧g'.c.length≤g.c.length+1∧g'.p.length≤g.p.length+1:=by
 have hs:=settle_ok (day:=day) h x
 have hl:=settle_len day g x
 unfold entL at e
 split at e
 ·cases e
  exact ⟨hs,by rw [settle_h];omega,hl.1,hl.2⟩
 ·split at e
  ·cases e
  ·rename_i H hH
   cases e
   obtain ⟨h1,h2,-,-⟩:=h.hok.hold hH
   refine ⟨⟨h1.1,hs.c,hs.p,h1.2⟩,?_,hl.1,hl.2⟩
   show H.length≤_
   rw [h2];exact setA_len _ _ _
theorem step_okL {day:Int} {g g':Led} (h:LedOk g) {o:Ev} (e:stepL day g o=.ok g'):LedOk g'∧g'.h.length≤g.h.length+2∧g'.c.length≤g.c.length+1∧g'.p.length≤g.p.length+1:=by
 cases o with
 | inl a =>
  obtain ⟨h1,h2,h3,h4⟩:=act_okL h e
  exact ⟨h1,h2,h3,by rw [h4];omega⟩
 | inr x =>
  obtain ⟨h1,h2,h3,h4⟩:=ent_okL h e
  exact ⟨h1,by omega,h3,h4⟩
theorem putR_sim {r l:List (Bs×Int)} (h:Sim ltB r l) (hs:SrtA ltB l) (k:Bs) (v:Int):Sim ltB (putR r k v) (setA ltB l k v):=h.set ltB_ok hs (putR_upd h.srt k v)
theorem payR_sim {r l:List (Ky×Int)} (h:Sim ltK2 r l) (hs:SrtA ltK2 l) (k:Ky) {n:Int} (hn:w64 n=n):Sim ltK2 (payR r k n) (payL l k n):=by
 have u:=payR_upd h.srt k hn
 rw [h.get] at u
 exact h.set ltK2_ok hs u
def SameR:Except Int Led→Except Int Led→Prop
 | .error e,.error e'=>e=e'
 | .ok g,.ok r=>SimG r g
 | _,_=>False
theorem apply_cash {a:AC} {q:Int} (h:(applyA a q).2=0):w64 (applyA a q).1.cash=(applyA a q).1.cash:=by
 unfold applyA at h ⊢
 split at h
 ·cases h
 rename_i h1
 split at h
 ·cases h
 rename_i h2
 split at h
 ·cases h
 rename_i h3
 split at h
 ·rename_i h4;exact absurd h h4
 rename_i h4
 rw [if_neg h1,if_neg h2,if_neg h3,if_neg h4]
 show w64 (rndI (rndQ (mulQ (paidQ a q) a.cash).1 2 6)).1=(rndI (rndQ (mulQ (paidQ a q) a.cash).1 2 6)).1
 refine w64_in ?_
 unfold rndI
 split
 ·show -9223372036854775808≤(0:Int)∧(0:Int)≤9223372036854775807
  decide
 ·split
  ·show -9223372036854775808≤(0:Int)∧(0:Int)≤9223372036854775807
   decide
  ·rename_i h5;simp only;omega
theorem act_sim {g r:Led} (h:LedOk g) (hs:SimG r g) (a:AC):SameR (actL g a) (actR r a):=by
 have hg:=hs.h.get a.ins
 unfold actL actR
 rw [hg]
 by_cases h1:(applyA a (getA g.h a.ins)).2≠0
 ·rw [if_pos h1,if_pos h1];rfl
 rw [if_neg h1,if_neg h1]
 obtain ⟨q1,q2,q3,q4,q5,q6⟩:=apply_ok (Classical.not_not.1 h1)
 have hc:=apply_cash (Classical.not_not.1 h1)
 have hC:=payR_sim hs.c h.c.1 (a.cur,0) hc
 have h0:=h.hok.set a.ins (v:=0) (by decide)
 have s0:=putR_sim hs.h h.h.1 a.ins 0
 generalize (applyA a (getA g.h a.ins)).1=x at q3 q4 q6 hC ⊢
 by_cases h3:a.kind=3
 ·rw [if_pos h3]
  have hi:x.ins=a.into:=by rw [q6];unfold intoA;rw [if_pos h3]
  rw [s0.get,hi]
  have hb:=HB.get h0.2 a.into
  have ew:w64 (x.qty+getA (setA ltB g.h a.ins 0) a.into)=getA (setA ltB g.h a.ins 0) a.into+x.qty:=by rw [w64_in (by omega)];omega
  rw [ew]
  unfold holdL
  rw [if_neg (by omega)]
  by_cases h4:getA (setA ltB g.h a.ins 0) a.into+x.qty > 1000000000000000
  ·rw [if_pos h4,if_pos h4];rfl
  ·rw [if_neg h4,if_neg h4]
   exact ⟨putR_sim s0 h0.1.1 a.into _,hC,hs.p⟩
 ·rw [if_neg h3]
  have hi:x.ins=a.ins:=by rw [q6];unfold intoA;rw [if_neg h3]
  rw [hi]
  have hz:getA (setA ltB g.h a.ins 0) a.ins=0:=by rw [(setA_upd ltB_ok h.h.1 a.ins 0).get,if_pos rfl]
  unfold holdL
  rw [hz,if_neg (by omega),if_neg (by omega)]
  refine ⟨⟨(putR_upd hs.h.srt a.ins x.qty).srt,fun k'=>?_⟩,hC,hs.p⟩
  show getA (putR r.h a.ins x.qty) k'=getA (setA ltB (setA ltB g.h a.ins 0) a.ins (0+x.qty)) k'
  rw [(putR_upd hs.h.srt a.ins x.qty).get,(setA_upd ltB_ok h0.1.1 a.ins (0+x.qty)).get,(setA_upd ltB_ok h.h.1 a.ins 0).get,hs.h.get,Int.zero_add]
  by_cases hk:k'=a.ins
  ·rw [if_pos hk,if_pos hk]
  ·rw [if_neg hk,if_neg hk,if_neg hk]
structure EOk (x:EC):Prop where
 q : -1000000000000000≤x.qty∧x.qty≤1000000000000000
 m:w64 x.amt=x.amt
 d:0≤x.day∧x.day≤73048
 k:x.kind=1∨x.kind=2∨(x.kind=0∧x.qty=0)
theorem inB_iff {n lo hi:Int}:inB n lo hi=true↔lo≤n∧n≤hi:=by
 unfold inB
 rw [Bool.and_eq_true,decide_eq_true_eq,decide_eq_true_eq]
theorem EC.beq_nil {x:EC} {key:List UInt8} {known:Int} (h:x.beq (.nil key known)=true):x.kind=0∧x.day=0∧x.qty=0∧x.amt=0:=by
 unfold EC.beq EC.nil at h
 simp only [Bool.and_eq_true,beq_iff_eq] at h
 exact ⟨h.1,h.2.2.1,h.2.2.2.2.2.1,h.2.2.2.2.2.2.1⟩
theorem EOk.of {x:EC} (h:validE x=true):EOk x:=by
 unfold validE at h
 simp only [Bool.and_eq_true] at h
 obtain ⟨-,h⟩:=h
 split at h
 ·obtain ⟨h1,h2,h3,h4⟩:=EC.beq_nil h
  exact ⟨by omega,by rw [h4];rfl,by omega,.inr (.inr ⟨h1,h3⟩)⟩
 ·simp only [Bool.and_eq_true,bodyE,inB_iff,decide_eq_true_eq] at h
  obtain ⟨⟨h1,h2,h3,-⟩,h4⟩:=h
  have hm:w64 x.amt=x.amt:=w64_in (by omega)
  unfold kindE at h4
  split at h4
  ·rename_i hk
   simp only [Bool.and_eq_true,inB_iff] at h4
   exact ⟨h4.2.2,hm,by omega,.inl hk⟩
  ·split at h4
   ·rename_i hk
    simp only [Bool.and_eq_true,beq_iff_eq] at h4
    exact ⟨by omega,hm,by omega,.inr (.inl hk)⟩
   ·cases h4
theorem settle_sim {day:Int} {g r:Led} (h:LedOk g) (hs:SimG r g) {x:EC} (hx:EOk x) {H R:List (Bs×Int)} (hh:Sim ltB R H):SimG (cashR day { r with h:=R } x) { settleL day g x with h:=H }:=by
 unfold cashR settleL
 split
 ·exact ⟨hh,payR_sim hs.c h.c.1 _ hx.m,hs.p⟩
 ·exact ⟨hh,hs.c,payR_sim hs.p h.p.1 _ hx.m⟩
theorem ent_sim {day:Int} {g r:Led} (h:LedOk g) (hs:SimG r g) {x:EC} (hx:EOk x):SameR (entL day g x) (entR day r x):=by
 have hb:=HB.get h.b x.ins
 have hg:=hs.h.get x.ins
 have hq:=hx.q
 unfold entL entR
 rcases hx.k with k1 | k1 | ⟨k1,k2⟩
 ·rw [if_neg (by omega),if_pos k1,hg,w64_in (n:=getA g.h x.ins+x.qty) (by omega)]
  unfold holdL
  by_cases h1:getA g.h x.ins+x.qty < 0
  ·rw [if_pos h1,if_pos h1];rfl
  ·rw [if_neg h1,if_neg h1]
   by_cases h2:getA g.h x.ins+x.qty > 1000000000000000
   ·rw [if_pos h2,if_pos h2];rfl
   ·rw [if_neg h2,if_neg h2]
    exact settle_sim h hs hx (putR_sim hs.h h.h.1 x.ins _)
 ·rw [if_pos k1,if_neg (by omega)]
  have:=settle_sim (day:=day) h hs hx (H:=(settleL day g x).h) (R:=r.h) (by rw [settle_h];exact hs.h)
  exact this
 ·rw [if_neg (by omega),if_neg (by omega)]
  have e:holdL g.h x.ins x.qty=.ok g.h:=by
   unfold holdL
   rw [k2,if_neg (by omega),if_neg (by omega),Int.add_zero]
   rw [← setA_eq ltB_ok h.h.1 h.h.2 (Upd.same h.h.1 x.ins) h.h.2]
  rw [e]
  exact settle_sim h hs hx hs.h
theorem run_sim {day:Int}:∀ (ops:List Ev) {g r:Led},LedOk g→SimG r g→(∀ x,Sum.inr x∈ops→EOk x)→finR (runR day r ops)=finL (runL day g ops)
 | [],g,r,h,hs,_=>by
  show pfL ⟨nzf r.h,nzf r.c,nzf r.p⟩=finL (.ok g)
  rw [hs.h.nzf ltB_ok h.h.1 h.h.2,hs.c.nzf ltK2_ok h.c.1 h.c.2,hs.p.nzf ltK2_ok h.p.1 h.p.2]
  rfl
 | o :: l,g,r,h,hs,hx=>by
  have S:SameR (stepL day g o) (stepR day r o):=by
   cases o with
   | inl a=>exact act_sim h hs a
   | inr x=>exact ent_sim h hs (hx x (by simp))
  rw [runL,runR]
  cases e1:stepL day g o with
  | error e =>
   rw [e1] at S
   cases e2:stepR day r o with
   | error e' =>
    rw [e2] at S
    have S:e=e':=S
    subst S;rfl
   | ok r'=>rw [e2] at S;exact S.elim
  | ok g' =>
   rw [e1] at S
   cases e2:stepR day r o with
   | error e'=>rw [e2] at S;exact S.elim
   | ok r' =>
    rw [e2] at S
    exact run_sim l (step_okL h e1).1 S fun x hx'=>hx x (by simp [hx'])
def atP (xs:List EC) (al:List AC) (k day:Int):Led×Int :=
 if chkX xs≠0 then (.zero,chkX xs) else if chkA al≠0 then (.zero,chkA al) else if inB day 0 73048=false then (.zero,50) else finL (runL day .zero (opsL (visA al k) (visX xs k) day))
theorem visX_ok {xs:List EC} {k:Int}:∀ x∈visX xs k,x∈xs∧EOk x:=fun x hx=>by
 unfold visX at hx
 split at hx
 ·rename_i h
  obtain ⟨i,-,hi⟩:=List.mem_filterMap.1 hx
  have hm:=List.mem_of_getElem? hi
  refine ⟨hm,.of ?_⟩
  unfold chkX at h
  split at h
  ·rename_i h';exact List.all_eq_true.1 h' x hm
  ·cases h
 ·cases hx
theorem visA_mem {al:List AC} {k:Int}:∀ x∈visA al k,x∈al∧validA x=true:=fun x hx=>by
 unfold visA at hx
 split at hx
 ·rename_i h
  obtain ⟨i,-,hi⟩:=List.mem_filterMap.1 hx
  have hm:=List.mem_of_getElem? hi
  refine ⟨hm,?_⟩
  unfold chkA at h
  split at h
  ·rename_i h';exact List.all_eq_true.1 h' x hm
  ·cases h
 ·cases hx
theorem ops_mem {al:List AC} {xs:List EC} {day:Int} {o:Ev} (h:o∈opsL al xs day):(∃ a∈al,o=.inl a)∨∃ x∈xs,o=.inr x:=by
 unfold opsL at h
 have h:=(stabK_stab dayO _).perm.mem_iff.1 h
 obtain ⟨h,-⟩:=List.mem_filter.1 h
 rcases List.mem_append.1 h with h | h
 ·obtain ⟨a,ha,rfl⟩:=List.mem_map.1 h
  exact .inl ⟨a,ha,rfl⟩
 ·obtain ⟨x,hx,rfl⟩:=List.mem_map.1 h
  exact .inr ⟨x,hx,rfl⟩
theorem at_sim (xs:List EC) (al:List AC) (k day:Int):finR (runR day .zero (opsL (visA al k) (visX xs k) day))=finL (runL day .zero (opsL (visA al k) (visX xs k) day)) :=
 run_sim _ .zero .zero fun x hx=>by
  rcases ops_mem hx with ⟨a,-,h⟩ | ⟨x',hx',h⟩
  ·cases h
  ·cases h;exact (visX_ok x hx').2
def insD (d:Int):List Int→List Int
 | []=>[d]
 | a :: r=>if a < d then a :: insD d r else if a=d then a :: r else d :: a :: r
def insM (l:List Int) (d most:Int):List Int:=if d > most then l else insD d l
theorem insD_mem (d:Int):∀ (l:List Int) (z:Int),z∈insD d l↔z∈l∨z=d
 | [],z=>by simp [insD]
 | a :: r,z=>by
  rw [insD]
  split
  ·rw [List.mem_cons,insD_mem d r z,List.mem_cons]
   constructor
   ·rintro (h | h | h)
    ·exact .inl (.inl h)
    ·exact .inl (.inr h)
    ·exact .inr h
   ·rintro ((h | h) | h)
    ·exact .inl h
    ·exact .inr (.inl h)
    ·exact .inr (.inr h)
  ·split
   ·rename_i h
    constructor
    ·exact .inl
    ·rintro (h2 | h2)
     ·exact h2
     ·rw [h2,← h];simp
   ·rw [List.mem_cons]
    constructor
    ·rintro (h | h)
     ·exact .inr h
     ·exact .inl h
    ·rintro (h | h)
     ·exact .inr h
     ·exact .inl h
theorem insD_pw (d:Int):∀ {l:List Int},l.Pairwise (· < ·)→(insD d l).Pairwise (· < ·)
 | [],_=>by simp [insD]
 | a :: r,h=>by
  obtain ⟨h1,h2⟩:=List.pairwise_cons.1 h
  rw [insD]
  split
  ·rename_i h3
   refine List.pairwise_cons.2 ⟨fun z hz=>?_,insD_pw d h2⟩
   rcases (insD_mem d r z).1 hz with h4 | h4
   ·exact h1 z h4
   ·omega
  ·split
   ·exact h
   ·refine List.pairwise_cons.2 ⟨fun z hz=>?_,h⟩
    rcases List.mem_cons.1 hz with h4 | h4
    ·omega
    ·have:=h1 z h4;omega
theorem insD_at (d:Int):∀ (l:List Int) (i:Nat),(∀ (j:Nat) y,j < i→l[j]? = some y→y < d)→(∀ y,l[i]? = some y→¬ y < d)→i≤l.length→insD d l=if l[i]? = some d then l else l.take i++d :: l.drop i
 | [],i,_,_,h=>by
  have:i=0:=by simp at h;exact h
  subst this;rfl
 | a :: r,0,_,h2,_=>by
  have h3:=h2 a rfl
  rw [insD,if_neg h3]
  by_cases e:a=d
  ·rw [if_pos e,if_pos (by rw [e];rfl)]
  ·rw [if_neg e,if_neg (fun h=>e (by cases h;rfl))];rfl
 | a :: r,i+1,h1,h2,h3=>by
  have h4:=h1 0 a (by omega) rfl
  rw [insD,if_pos h4,insD_at d r i (fun j y hj hy=>h1 (j+1) y (by omega) (by simpa using hy)) (fun y hy=>h2 y (by simpa using hy)) (by simp at h3;omega)]
  show (a :: if r[i]? = some d then r else r.take i++d :: r.drop i)=if r[i]? = some d then a :: r else a :: r.take i++d :: r.drop i
  split<;>rfl
theorem insD_len (d:Int):∀ (l:List Int),(insD d l).length≤l.length+1
 | []=>by simp [insD]
 | a :: r=>by
  have:=insD_len d r
  rw [insD]
  split
  ·simp only [List.length_cons];omega
  ·split<;>simp only [List.length_cons]<;>omega
theorem insM_len (l:List Int) (d most:Int):(insM l d most).length≤l.length+1:=by
 unfold insM
 split
 ·omega
 ·exact insD_len d l
def daysD (most:Int) (l:List Int) (ds:List Int):List Int:=ds.foldl (fun l d=>insM l d most) l
theorem daysD_one {most:Int} {l ds:List Int} {i:Nat} {d:Int} (h:ds[i]? = some d):daysD most l (ds.take (i+1))=insM (daysD most l (ds.take i)) d most:=by
 rw [take_one h]
 unfold daysD
 rw [List.foldl_append];rfl
theorem daysD_app (most:Int) (l ds es:List Int):daysD most l (ds++es)=daysD most (daysD most l ds) es:=by unfold daysD;rw [List.foldl_append]
theorem daysD_ok (most:Int):∀ (ds l:List Int),l.Pairwise (· < ·)→(daysD most l ds).Pairwise (· < ·)∧∀ z,z∈daysD most l ds↔z∈l∨(z≤most∧z∈ds)
 | [],l,h=>⟨h,fun z=>by simp [daysD]⟩
 | d :: r,l,h=>by
  have hp:(insM l d most).Pairwise (· < ·):=by
   unfold insM
   split
   ·exact h
   ·exact insD_pw d h
  obtain ⟨h1,h2⟩:=daysD_ok most r _ hp
  refine ⟨h1,fun z=>(h2 z).trans ?_⟩
  have hm:z∈insM l d most↔z∈l∨(z=d∧d≤most):=by
   unfold insM
   split
   ·constructor
    ·exact .inl
    ·rintro (h | h)
     ·exact h
     ·omega
   ·rw [insD_mem]
    constructor
    ·rintro (h | h)
     ·exact .inl h
     ·exact .inr ⟨h,by omega⟩
    ·rintro (h | h)
     ·exact .inl h
     ·exact .inr h.1
  rw [hm,List.mem_cons]
  constructor
  ·rintro ((h | ⟨h,h'⟩) | ⟨h,h'⟩)
   ·exact .inl h
   ·exact .inr ⟨by omega,.inl h⟩
   ·exact .inr ⟨h,.inr h'⟩
  ·rintro (h | ⟨h,h' | h'⟩)
   ·exact .inl (.inl h)
   ·exact .inl (.inr ⟨h',by omega⟩)
   ·exact .inr ⟨h,h'⟩
theorem daysD_len (most:Int):∀ (ds l:List Int),(daysD most l ds).length≤l.length+ds.length
 | [],l=>by simp [daysD]
 | d :: r,l=>by
  have h1:=daysD_len most r (insM l d most)
  have h2:=insM_len l d most
  show (daysD most (insM l d most) r).length≤_
  simp only [List.length_cons];omega
def allD (al:List AC) (xs:List EC) (day:Int):List Int:=daysD day [] (al.map AC.day++xs.map EC.day)
def onD (al:List AC) (xs:List EC) (d:Int):List Ev:=(al.filter fun a=>decide (a.day=d)).map (Sum.inl:AC→Ev)++(xs.filter fun x=>decide (x.day=d)).map (Sum.inr:EC→Ev)
theorem ops_all (al:List AC) (xs:List EC) (day:Int):opsL al xs day=(allD al xs day).flatMap (onD al xs):=by
 obtain ⟨h1,h2⟩:=daysD_ok day (al.map AC.day++xs.map EC.day) [] .nil
 refine ops_days al xs day h1 fun d=>(h2 d).trans ?_
 rw [List.mem_append,List.mem_map,List.mem_map]
 constructor
 ·rintro (h | ⟨h,h'⟩)
  ·cases h
  ·exact ⟨h,h'⟩
 ·exact fun h=>.inr h
/-! ### what is left of the two lists of the program -/
def restL (day:Int) (al:List AC) (xs:List EC):List Ev:=(mergeK dayO (al.map (Sum.inl:AC→Ev)) (xs.map (Sum.inr:EC→Ev))).filter fun o=>decide (dayO o≤day)
theorem srt_inl {al:List AC} (h:Srt AC.day al):Srt dayO (al.map (Sum.inl:AC→Ev)):=List.pairwise_map.2 h
theorem srt_inr {xs:List EC} (h:Srt EC.day xs):Srt dayO (xs.map (Sum.inr:EC→Ev)):=List.pairwise_map.2 h
theorem rest_end {day:Int} {al:List AC} {xs:List EC} (ha:Srt AC.day al) (hx:Srt EC.day xs) {o:Ev} {r:List Ev} (h:mergeK dayO (al.map (Sum.inl:AC→Ev)) (xs.map (Sum.inr:EC→Ev))=o :: r) (hd:day < dayO o):restL day al xs=[]:=by
 have hs:=merge_srt dayO (srt_inl ha) (srt_inr hx)
 unfold restL
 rw [h] at hs ⊢
 obtain ⟨h1,-⟩:=List.pairwise_cons.1 hs
 refine List.filter_eq_nil_iff.2 fun z hz=>?_
 simp only [decide_eq_true_eq]
 rcases List.mem_cons.1 hz with rfl | hz
 ·omega
 ·have:=h1 z hz;omega
theorem merge_a {a:AC} {al:List AC} {xs:List EC} (h:∀ x,xs[0]? = some x→a.day≤x.day):mergeK dayO ((a :: al).map (Sum.inl:AC→Ev)) (xs.map (Sum.inr:EC→Ev))=.inl a :: mergeK dayO (al.map (Sum.inl:AC→Ev)) (xs.map (Sum.inr:EC→Ev)):=by
 cases xs with
 | nil=>rw [List.map_nil,mergeK_nr,mergeK_nr];rfl
 | cons x r =>
  have:=h x rfl
  show mergeK dayO (.inl a :: _) (.inr x :: _)=_
  rw [mergeK_cons,if_pos (show dayO (.inl a)≤dayO (.inr x) from this)];rfl
theorem merge_x {x:EC} {al:List AC} {xs:List EC} (h:∀ a,al[0]? = some a→¬ a.day≤x.day):mergeK dayO (al.map (Sum.inl:AC→Ev)) ((x :: xs).map (Sum.inr:EC→Ev))=.inr x :: mergeK dayO (al.map (Sum.inl:AC→Ev)) (xs.map (Sum.inr:EC→Ev)):=by
 cases al with
 | nil=>rw [List.map_nil,mergeK_nl,mergeK_nl];rfl
 | cons a r =>
  have:=h a rfl
  show mergeK dayO (.inl a :: _) (.inr x :: _)=_
  rw [mergeK_cons,if_neg (show ¬ dayO (.inl a)≤dayO (.inr x) from this)];rfl
theorem rest_a {day:Int} {a:AC} {al:List AC} {xs:List EC} (h:∀ x,xs[0]? = some x→a.day≤x.day) (hd:a.day≤day):restL day (a :: al) xs=.inl a :: restL day al xs:=by
 unfold restL
 rw [merge_a h,List.filter_cons,if_pos (decide_eq_true (show dayO (.inl a)≤day from hd))]
theorem rest_x {day:Int} {x:EC} {al:List AC} {xs:List EC} (h:∀ a,al[0]? = some a→¬ a.day≤x.day) (hd:x.day≤day):restL day al (x :: xs)=.inr x :: restL day al xs:=by
 unfold restL
 rw [merge_x h,List.filter_cons,if_pos (decide_eq_true (show dayO (.inr x)≤day from hd))]
theorem rest_nil (day:Int):restL day [] []=[]:=by
 unfold restL
 rw [List.map_nil,List.map_nil,mergeK_nl]
 rfl
theorem rest_all (al:List AC) (xs:List EC) (day:Int):restL day (stabK AC.day al) (stabK EC.day xs)=opsL al xs day:=(ops_merge al xs day).symm
end Go.Proofs.YtkaakbpeegpnkaaGreatDoor
