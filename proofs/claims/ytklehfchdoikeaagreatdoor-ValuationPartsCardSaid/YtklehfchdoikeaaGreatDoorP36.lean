/- what a made action pays: plain law. what a fund has after ma; no condition. -/
import Derived.Test.YtklehfchdoikeaaGreatDoorP35
import Derived.Test.YtklehfchdoikeaaGreatDoorP21
set_option maxRecDepth 100000
set_option maxHeartbeats 4000000
namespace Go.Proofs.YtklehfchdoikeaaGreatDoor
open Go Go.RowKit Go.SX
structure MkB (D:Int) (x:EC):Prop where
 v:x.void=false
 d:0<=x.day/\D<=x.day+1/\x.day<=D+7
 s:x.day<=x.settle/\x.settle<=73048/\x.settle<=D+10
 a : -100000<=x.amt/\x.amt<=100000
 c:x.cur∈jJ
 k:(x.kind=1/\x.ins∈bK/\x.qty≠0/\-2000<=x.qty/\x.qty<=2000)\/(x.kind=2/\x.ins=[]/\x.qty=0)
def MkX (D:Int) (x:EC):Prop:=x=.nil x.key x.known\/MkB D x
theorem Km {c:Bs} (h:c∈bK):cB c=true:=by
 simp only [bK,List.mem_cons,List.not_mem_nil,or_false] at h
 rcases h with rfl | rfl | rfl | rfl<;>decide
theorem wr {n lo hi:Int} (h1:lo<=n) (h2:n<=hi):inB n lo hi=true:=by
 unfold inB;rw [decide_eq_true h1,decide_eq_true h2];rfl
/-! ### a book that grows -/
/-! ### the same of actions -/
def cF:List Bs:=[[69,85,82],[71,66,80],[85,83,68]]
structure PfM (i j k:Nat) (d:Int) (g:Led):Prop where
 h:SrtA ltB g.h
 hx:∀ x∈g.h,x.1∈bK.take i/\1<=x.2/\x.2<=1000000
 hl:g.h.length<=i
 c:SrtA kU g.c
 cx:∀ x∈g.c,x.1.1∈cF.take j/\x.1.2=0/\x.2≠0/\-1000000<=x.2/\x.2<=1000000
 cl:g.c.length<=j
 p:SrtA kU g.p
 px:∀ x∈g.p,x.1.1∈cF.take k/\x.1.2=d/\x.2≠0/\-1000000<=x.2/\x.2<=1000000
 pl:g.p.length<=k
theorem PfM.zero {d:Int}:PfM 0 0 0 d .zero:=⟨.nil,(fun x hx=>by cases hx),Nat.le_refl _,.nil,(fun x hx=>by cases hx),Nat.le_refl _,.nil,(fun x hx=>by cases hx),Nat.le_refl _⟩
theorem iZ {l:List Bs} {i j:Nat} (h:i<=j) {x:Bs} (hx:x∈l.take i):x∈l.take j:=by
 rw [<- Nat.min_eq_left h,<- List.take_take] at hx
 exact List.mem_of_mem_take hx
theorem PfM.mono {i j k i' j' k':Nat} {d:Int} {g:Led} (h:PfM i j k d g) (hi:i<=i') (hj:j<=j') (hk:k<=k'):PfM i' j' k' d g :=
 ⟨h.h,fun x hx=>⟨iZ hi (h.hx x hx).1,(h.hx x hx).2⟩,Nat.le_trans h.hl hi,h.c,fun x hx=>⟨iZ hj (h.cx x hx).1,(h.cx x hx).2⟩,Nat.le_trans h.cl hj,h.p,fun x hx=>⟨iZ hk (h.px x hx).1,(h.px x hx).2⟩,Nat.le_trans h.pl hk⟩
theorem sq {κ:Type} {lt:κ->κ->Bool} {l:List (κ×Int)} {y:κ×Int} (h:SrtA lt l) (hy:∀ x∈l,lt x.1 y.1=true):SrtA lt (l++[y]):=by
 refine List.pairwise_append.2 ⟨h,.cons (fun _ h=>by cases h) .nil,fun a ha b hb=>?_⟩
 have:b=y:=by simpa using hb
 rw [this];exact hy a ha
theorem FN {i:Nat} {s a:Bs} (hs:bK[i]? = some s) (ha:a∈bK.take i):ltB a s=true/\s∈bK.take (i+1):=by
 have hi:=(List.getElem?_eq_some_iff.1 hs).1
 have hi:i < 4:=hi
 have h4:i=0\/i=1\/i=2\/i=3:=by omega
 rcases h4 with rfl | rfl | rfl | rfl
 ·cases ha
 all_goals
  simp only [bK,List.getElem?_cons_succ,List.getElem?_cons_zero,Option.some.injEq] at hs
  subst hs
  simp only [bK,List.take_succ_cons,List.take_zero,List.mem_cons,List.not_mem_nil,or_false] at ha
 ·subst ha;decide
 ·rcases ha with rfl | rfl<;>decide
 ·rcases ha with rfl | rfl | rfl<;>decide
theorem CC {i:Nat} {s a:Bs} (hs:cF[i]? = some s) (ha:a∈cF.take i):ltB a s=true:=by
 have hi:=(List.getElem?_eq_some_iff.1 hs).1
 have hi:i < 3:=hi
 have h4:i=0\/i=1\/i=2:=by omega
 rcases h4 with rfl | rfl | rfl
 ·cases ha
 all_goals
  simp only [cF,List.getElem?_cons_succ,List.getElem?_cons_zero,Option.some.injEq] at hs
  subst hs
  simp only [cF,List.take_succ_cons,List.take_zero,List.mem_cons,List.not_mem_nil,or_false] at ha
 ·subst ha;decide
 ·rcases ha with rfl | rfl<;>decide
theorem kT {l:List Bs} {i:Nat} {s:Bs} (hs:l[i]? = some s):s∈l.take (i+1):=by
 rw [List.take_add_one,hs];simp
theorem PfM.addH {i j k:Nat} {d:Int} {g:Led} (h:PfM i j k d g) {s:Bs} (hs:bK[i]? = some s) {n:Int} (hn:1<=n/\n<=1000000):PfM (i+1) j k d ⟨g.h++[(s,n)],g.c,g.p⟩:=by
 refine ⟨sq h.h fun x hx=>(FN hs (h.hx x hx).1).1,fun x hx=>?_,by rw [List.length_append];have:=h.hl;simp;omega,h.c,h.cx,h.cl,h.p,h.px,h.pl⟩
 rcases List.mem_append.1 hx with hx | hx
 ·exact ⟨iZ (Nat.le_succ i) (h.hx x hx).1,(h.hx x hx).2⟩
 ·have:x=(s,n):=by simpa using hx
  rw [this];exact ⟨kT hs,hn⟩
theorem PfM.addC {i j k:Nat} {d:Int} {g:Led} (h:PfM i j k d g) {s:Bs} (hs:cF[j]? = some s) {n:Int} (h0:n≠0) (hn : -1000000<=n/\n<=1000000):PfM i (j+1) k d ⟨g.h,g.c++[((s,0),n)],g.p⟩:=by
 refine ⟨h.h,h.hx,h.hl,sq h.c fun x hx=>?_,fun x hx=>?_,by rw [List.length_append];have:=h.cl;simp;omega,h.p,h.px,h.pl⟩
 ·unfold kU
  rw [if_pos (CC hs (h.cx x hx).1)]
 ·rcases List.mem_append.1 hx with hx | hx
  ·exact ⟨iZ (Nat.le_succ j) (h.cx x hx).1,(h.cx x hx).2⟩
  ·have:x=((s,0),n):=by simpa using hx
   rw [this];exact ⟨kT hs,rfl,h0,hn⟩
theorem PfM.addP {i j k:Nat} {d:Int} {g:Led} (h:PfM i j k d g) {s:Bs} (hs:cF[k]? = some s) {n:Int} (h0:n≠0) (hn : -1000000<=n/\n<=1000000):PfM i j (k+1) d ⟨g.h,g.c,g.p++[((s,d),n)]⟩:=by
 refine ⟨h.h,h.hx,h.hl,h.c,h.cx,h.cl,sq h.p fun x hx=>?_,fun x hx=>?_,by rw [List.length_append];have:=h.pl;simp;omega⟩
 ·unfold kU
  rw [if_pos (CC hs (h.px x hx).1)]
 ·rcases List.mem_append.1 hx with hx | hx
  ·exact ⟨iZ (Nat.le_succ k) (h.px x hx).1,(h.px x hx).2⟩
  ·have:x=((s,d),n):=by simpa using hx
   rw [this];exact ⟨kT hs,rfl,h0,hn⟩
theorem yZ {c:Bs} {j:Nat} (h:c∈cF.take j):aF c=true/\c.length=3:=by
 have h:=List.mem_of_mem_take h
 simp only [cF,List.mem_cons,List.not_mem_nil,or_false] at h
 rcases h with rfl | rfl | rfl<;>exact ⟨by decide,rfl⟩
theorem PfM.valid {j k:Nat} {d:Int} {g:Led} (h:PfM 4 j k d g) (hj:j<=3) (_hk:k<=3) (hd:0<=d/\d<=73048):bP g=true:=by
 have l1:=h.hl
 have l2:=h.cl
 unfold bP
 rw [decide_eq_false (by omega),decide_eq_false (by omega)]
 simp only [Bool.not_false,Bool.and_eq_true,Bool.true_and]
 refine ⟨?_,BW ⟨h.c,fun x hx=>(h.cx x hx).2.2.1⟩ (fun x hx=>⟨(yZ (h.cx x hx).1).1,by rw [(h.cx x hx).2.1];rfl⟩) ?_,BW ⟨h.p,fun x hx=>(h.px x hx).2.2.1⟩ (fun x hx=>⟨(yZ (h.px x hx).1).1,by rw [(h.px x hx).2.1];exact wr hd.1 hd.2⟩) ?_,?_⟩
 ·refine cN fun i hi=>?_
  obtain ⟨x,hx⟩:∃ x,g.h[i]? = some x:=⟨_,List.getElem?_eq_getElem hi⟩
  have hm:=h.hx x (List.mem_of_getElem? hx)
  unfold okH
  rw [hx]
  simp only [Bool.and_eq_true]
  refine ⟨Km (List.mem_of_mem_take hm.1),wr hm.2.1 (by omega),?_⟩
  rw [Bool.or_eq_true]
  by_cases h0:i=0
  ·exact .inl (decide_eq_true h0)
  ·obtain ⟨y,hy⟩:∃ y,g.h[i - 1]? = some y:=⟨_,List.getElem?_eq_getElem (by omega)⟩
   rw [hy]
   exact .inr (FR h.h (by omega) hx hy)
 ·exact List.all_eq_true.2 fun x hx=>wr (by have:=h.cx x hx;omega) (by have:=h.cx x hx;omega)
 ·exact List.all_eq_true.2 fun x hx=>wr (by have:=h.px x hx;omega) (by have:=h.px x hx;omega)
 ·exact List.all_eq_true.2 fun x hx=>by rw [(h.cx x hx).2.1];rfl
theorem Jr:Gen 71 [] 1 (RS (·∈bK)):=by
 intro zs k hk
 obtain ⟨r1,k1,a1,b1,⟨l,rfl,c1⟩,O1⟩:=BV (xs:=[[65,67,77,69],[66,79,78,68],[71,79,76,68],[88,49]]) (by decide) (by decide) zs k (by omega)
 refine ⟨_,k1,by omega,by omega,⟨l,rfl,c1⟩,fun E v d hE hv=>?_⟩
 refine aQ [] ai ak Uo E hE d (53,2,tb v k,tb v k1) [SV.ptr 1000 0] _ rfl rfl fun w b hT=>?_
 have hv:=hv.of_old hE.symm hT
 exact ⟨by decide,by decide,kN [[65,67,77,69],[66,79,78,68],[71,79,76,68],[88,49]],by kernel_rfl,rfl,.inr ⟨_,_,_,O1 _ v 1000 4 (by decide) rfl hv,⟨rfl,rfl,trivial⟩,rfl,rfl,rfl,trivial⟩⟩
theorem Ip:Gen 66 [] 1 (RS (·∈jJ)):=by
 intro zs k hk
 obtain ⟨r1,k1,a1,b1,⟨l,rfl,c1⟩,O1⟩:=BV (xs:=[[85,83,68],[85,83,68],[69,85,82],[71,66,80]]) (by decide) (by decide) zs k (by omega)
 refine ⟨_,k1,by omega,by omega,⟨l,rfl,by simp at c1;rcases c1 with rfl | rfl | rfl<;>simp [jJ]⟩,fun E v d hE hv=>?_⟩
 refine aQ [] ai ak PR E hE d (53,2,tb v k,tb v k1) [SV.ptr 1000 0] _ rfl rfl fun w b hT=>?_
 have hv:=hv.of_old hE.symm hT
 exact ⟨by decide,by decide,kN [[85,83,68],[85,83,68],[69,85,82],[71,66,80]],by kernel_rfl,rfl,.inr ⟨_,_,_,O1 _ v 1000 4 (by decide) rfl hv,⟨rfl,rfl,trivial⟩,rfl,rfl,rfl,trivial⟩⟩
/-! ### what the laws need of made books -/
theorem MkX.live {D:Int} {x:EC} (h:MkX D x) (hv:x.void=false):MkB D x:=by
 rcases h with h | h
 ·rw [h] at hv;cases hv
 ·exact h
theorem MkX.first {D:Int} {x:EC} (h:MkX D x) (hv:x.void=false) (hD:0<=D) (key:Bs):MkX D { x with key:=key,day:=max 0 (D - 1) }/\(x.kind=1->MkX D { x with key:=key,day:=max 0 (D - 1),qty:=2000 }):=by
 have hb:=h.live hv
 have h1:=hb.d
 have h2:=hb.s
 refine ⟨.inr ⟨hv,⟨by show (0:Int)<=max 0 (D - 1);omega,by show D<=max 0 (D - 1)+1;omega,by show max 0 (D - 1)<=D+7;omega⟩,⟨by show max 0 (D - 1)<=x.settle;omega,h2.2⟩,hb.a,hb.c,hb.k⟩,fun hk=>.inr ⟨hv,⟨by show (0:Int)<=max 0 (D - 1);omega,by show D<=max 0 (D - 1)+1;omega,by show max 0 (D - 1)<=D+7;omega⟩,⟨by show max 0 (D - 1)<=x.settle;omega,h2.2⟩,hb.a,hb.c,?_⟩⟩
 rcases hb.k with ⟨k1,k2,-⟩ | ⟨k1,-⟩
 ·exact .inl ⟨k1,k2,by show (2000:Int)≠0;decide,by show (-2000:Int)<=2000;decide,by show (2000:Int)<=2000;decide⟩
 ·omega
theorem GD:Gen 138 [] 1 (RI fun i=>i≠0/\-1000000<=i/\i<=1000000):=by
 intro zs k hk
 obtain ⟨r1,k1,a1,b1,⟨i,rfl,c1⟩,O1⟩:=py (lo:=-300000) (hi:=1000000) (by decide) (by decide) (by decide) zs k (by omega)
 by_cases h:i=0
 ·subst h
  refine ⟨_,k1,by omega,by omega,⟨1,rfl,by decide⟩,fun E v d hE hv=>?_⟩
  refine aQ [] ai ak Mh E hE d (53,2,tb v k,tb v k1) [SV.ptr 1000 0] _ rfl rfl fun w b hT=>?_
  have hv:=hv.of_old hE.symm hT
  exact .inr ⟨_,_,_,O1 _ v 1000 rfl hv,⟨rfl,trivial⟩,rfl,fun _=>⟨rfl,rfl,trivial⟩,nf rfl⟩
 ·refine ⟨_,k1,by omega,by omega,⟨i,rfl,h,by omega,by omega⟩,fun E v d hE hv=>?_⟩
  refine aQ [] ai ak Mh E hE d (53,2,tb v k,tb v k1) [SV.ptr 1000 0] _ rfl rfl fun w b hT=>?_
  have hv:=hv.of_old hE.symm hT
  exact .inr ⟨_,_,_,O1 _ v 1000 rfl hv,⟨rfl,trivial⟩,rfl,fun e=>absurd (eq_of_beq e) h,fun _=>⟨rfl,rfl,trivial⟩⟩
def PfG (D:Int) (k:Nat) (v:Value) (x:Value) (U:aA):Prop:=∃ (g:Led) (k':Nat) (xh xc xp:Value),k<=k'/\k'<=k+100/\PfM 4 3 3 (min 73048 (D+1)) g/\IsL xh g.h.length/\IsL xc g.c.length/\IsL xp g.p.length/\x=.agg #[xh,xc,xp]/\U=(1000,Blk.row 53 2 (tb v k')) :: pfM xh xc xp g
theorem Ej (c:Bs) (n:Int) {pl:List (Nat×Nat)} (hpl:pl=[(0,1),(1,1),(2,1)]):Instr.fill (fun k=>pl[k]?) dw.zero [(0,.string (S c)),(2,.int .i64 n)]=some (cj ((c,0),n)):=by
 subst hpl;rfl
theorem xM {E:Env} (hE:E.P=Tryz.prog) {v:Value} {zs:List Int} (hv:Tp E v zs) {k:Nat} (hk:k+4000<=4000000000000000000) {day:Int} (hD:0<=day/\day<=73048):OwnC E 67 [SV.ptr 1000 0,SV.c (.int .i64 day)] [(1000,Blk.row 53 2 (tb v k))] (PfG day k v):=by
 refine aD [14] ai ak Us E hE [SV.ptr 1000 0,SV.c (.int .i64 day)] [(1000,Blk.row 53 2 (tb v k))] _ rfl rfl fun w X β hT=>?_
 have hv':Tp (aY Tryz.prog tt Tryz.f67.ntmps w X (aJ [(1000,Blk.row 53 2 (tb v k))] β)).toEnv v zs:=hv.of_old hE.symm hT
 refine .inl ⟨by decide,by decide,kN bK,by kernel_rfl,rfl,?_⟩
 refine ⟨fun q f m=>∃ (i k2:Nat) (H:List (Bs×Int)) (x:Value) (n:Nat),q=4 - i/\i<=4/\k<=k2/\k2<=k+3*i/\n=H.length/\IsL x n/\PfM i 0 0 (min 73048 (day+1)) ⟨H,[],[]⟩/\f=[(0,SV.ptr 1000 0),(1,SV.c (.int .i64 day)),(4,SV.ptr 4 0),(5,SV.ptr 5 0),(6,SV.sl 10 0 4 4),(7,SV.c (.int .i64 (i:Nat)))]/\m=[(1000,Blk.row 53 2 (tb v k2)),(4,Blk.row 25 3 De.zero),(5,Blk.row 25 3 #[x,.slice none 0 0,.slice none 0 0]),(9506,Blk.own x 59 2 n (cat dI H)),(10,Blk.row 9 4 (kN bK))],4,⟨_,_,⟨0,k,[],.slice none 0 0,0,by omega,by omega,by omega,by omega,rfl,.nil,.zero,rfl,rfl⟩,⟨rfl,rfl,rfl,rfl,rfl,rfl,trivial⟩,⟨rfl,rfl,rfl,.inr ⟨rfl,rfl,rfl⟩,rfl,trivial⟩,rfl⟩,?_⟩
 rintro q f m ⟨i,k2,H,x,n,rfl,hi,hk1,hk2,hn,hx,hM,rfl,rfl⟩
 refine ⟨fun h=>?_,fun h=>?_⟩
 ·have h:i < 4:=by have:=af h;omega
  obtain ⟨r3,k3,a3,b3,⟨t,rfl⟩,O3⟩:=cU (a:=2) (b:=3) (by decide) zs k2 (by omega)
  refine .inr (.inl ⟨_,_,_,O3 _ v 1000 rfl hv',⟨rfl,trivial⟩,rfl,fun ht=>?_,fun ht=>?_⟩)
  ·obtain ⟨r4,k4,a4,b4,⟨i4,rfl,c4⟩,O4⟩:=dX (xs:=[10,5000,1000000]) (by decide) (by decide) zs k3 (by omega)
   have q4:10<=i4/\i4<=1000000:=by simp at c4;omega
   obtain ⟨r5,k5,a5,b5,⟨i5,rfl,c5⟩,O5⟩:=bQ (n:=i4) (by omega) zs k4 (by omega)
   have hl:H.length<=i:=hM.hl
   have hs:bK[i]? = some bK[i]:=List.getElem?_eq_getElem h
   refine ⟨_,rfl,by omega,by omega,_,i0 h,?_⟩
   refine .inl ⟨by decide,by decide,cd [10,5000,1000000],by kernel_rfl,rfl,.inr (.inl ⟨_,_,_,O4 _ v 1000 25 (by decide) rfl hv',⟨rfl,rfl,trivial⟩,rfl,?_⟩)⟩
   refine .inr (.inl ⟨_,_,_,O5 _ v 1000 rfl hv',⟨rfl,trivial⟩,rfl,?_⟩)
   obtain ⟨q,hq,hb'⟩:=Ho
   refine ⟨_,HX (bK[i],IntKind.i64.wrap (1+i5)) rfl,.inl ⟨by decide,by decide,_,Eh (bK[i],IntKind.i64.wrap (1+i5)),rfl,by decide,9506,n,_,.inl rfl,by decide,sm _,rfl,_,rfl,?_⟩⟩
   refine ⟨by omega,by unfold maxLen;omega,⟨q,hq,by rw [hb'];omega⟩,by change _=true;kernel_rfl,fun g2 cap2=>?_⟩
   have q5:IntKind.i64.wrap (1+i5)=1+i5:=i64_in (by omega)
   refine ⟨by decide,rfl,_,rfl,by kernel_rfl,4 - (i+1),_,_,by omega,⟨i+1,k5,H++[(bK[i],IntKind.i64.wrap (1+i5))],_,n+1,rfl,by omega,by omega,by omega,by rw [hn,List.length_append];rfl,.some,?_,rfl,rfl⟩,⟨rfl,rfl,rfl,rfl,rfl,ar (ax (by omega)),trivial⟩,⟨rfl,rfl,rfl,.inl (bC (fg H _)),rfl,trivial⟩,rfl⟩
   exact hM.addH hs (by rw [q5];omega)
  ·exact ⟨4 - (i+1),_,_,by omega,⟨i+1,k3,H,x,n,rfl,by omega,by omega,by omega,hn,hx,hM.mono (by omega) (by omega) (by omega),rfl,rfl⟩,⟨rfl,rfl,rfl,rfl,rfl,ar (ax (by omega)),trivial⟩,⟨rfl,rfl,rfl,.inl rfl,rfl,trivial⟩,rfl⟩
 have h:i=4:=by have:=ag h;omega
 subst h
 refine .inl ⟨by decide,by decide,kN cF,by kernel_rfl,rfl,?_⟩
 refine ⟨fun q f m=>∃ (j k3:Nat) (g:Led) (xc xp:Value) (nc np:Nat),q=3 - j/\j<=3/\k<=k3/\k3<=k+20+4*j/\g.h=H/\nc=g.c.length/\np=g.p.length/\IsL xc nc/\IsL xp np/\PfM 4 j j (min 73048 (day+1)) g/\f=[(0,SV.ptr 1000 0),(1,SV.c (.int .i64 day)),(4,SV.ptr 4 0),(5,SV.ptr 5 0),(8,SV.sl 33 0 3 3),(9,SV.c (.int .i64 (j:Nat)))]/\m=[(1000,Blk.row 53 2 (tb v k3)),(4,Blk.row 25 3 De.zero),(5,Blk.row 25 3 #[x,xc,xp]),(9506,Blk.own x 59 2 n (cat dI H)),(9507,Blk.own xc 88 3 nc (cat cj g.c)),(9508,Blk.own xp 88 3 np (cat cj g.p)),(33,Blk.row 9 3 (kN cF))],3,⟨_,_,⟨0,k2,⟨H,[],[]⟩,.slice none 0 0,.slice none 0 0,0,0,by omega,by omega,by omega,by omega,rfl,rfl,rfl,.nil,.nil,hM,rfl,rfl⟩,⟨rfl,rfl,rfl,rfl,rfl,rfl,trivial⟩,⟨rfl,rfl,rfl,.inl rfl,.inr ⟨rfl,rfl,rfl⟩,.inr ⟨rfl,rfl,rfl⟩,rfl,trivial⟩,rfl⟩,?_⟩
 rintro q f m ⟨j,k3,g,xc,xp,nc,np,rfl,hj,hk3,hk4,hgh,hnc,hnp,hxc,hxp,hM2,rfl,rfl⟩
 refine ⟨fun h=>?_,fun h=>?_⟩
 ·have h:j < 3:=by have:=af h;omega
  have hs:cF[j]? = some cF[j]:=List.getElem?_eq_getElem h
  have hlc:g.c.length<=j:=hM2.cl
  have hlp:g.p.length<=j:=hM2.pl
  refine ⟨fun f m=>∃ (k5:Nat) (C:List (Ky×Int)) (ya:Value) (na:Nat),k3<=k5/\k5<=k3+2/\na=C.length/\IsL ya na/\PfM 4 (j+1) j (min 73048 (day+1)) ⟨H,C,g.p⟩/\f=[(0,SV.ptr 1000 0),(1,SV.c (.int .i64 day)),(4,SV.ptr 4 0),(5,SV.ptr 5 0),(8,SV.sl 33 0 3 3),(9,SV.c (.int .i64 (j:Nat)))]/\m=[(1000,Blk.row 53 2 (tb v k5)),(4,Blk.row 25 3 De.zero),(5,Blk.row 25 3 #[x,ya,xp]),(9506,Blk.own x 59 2 n (cat dI H)),(9507,Blk.own ya 88 3 na (cat cj C)),(9508,Blk.own xp 88 3 np (cat cj g.p)),(33,Blk.row 9 3 (kN cF))],?_,?_⟩
  ·obtain ⟨r5,k5,a5,b5,⟨t,rfl⟩,O5⟩:=cU (a:=1) (b:=2) (by decide) zs k3 (by omega)
   refine .inr (.inl ⟨_,_,_,O5 _ v 1000 rfl hv',⟨rfl,trivial⟩,rfl,fun ht=>?_,fun ht=>?_⟩)
   ·obtain ⟨r6,k6,a6,b6,⟨i6,rfl,c6⟩,O6⟩:=GD zs k5 (by omega)
    obtain ⟨q,hq,hb'⟩:=yj
    refine ⟨_,rfl,by omega,by omega,_,i0 h,.inr (.inl ⟨_,_,_,O6 _ v 1000 rfl hv',⟨rfl,trivial⟩,rfl,?_⟩)⟩
    refine ⟨_,Ej cF[j] i6 rfl,.inl ⟨by decide,by decide,_,uW ((cF[j],0),i6),rfl,by decide,9507,nc,_,.inl rfl,by decide,gO _,rfl,_,rfl,?_⟩⟩
    refine ⟨by omega,by unfold maxLen;omega,⟨q,hq,by rw [hb'];omega⟩,by change _=true;kernel_rfl,fun g2 cap2=>?_⟩
    refine ⟨by decide,rfl,_,rfl,by kernel_rfl,_,_,⟨k6,g.c++[((cF[j],0),i6)],_,nc+1,by omega,by omega,by rw [hnc,List.length_append];rfl,.some,?_,rfl,rfl⟩,⟨rfl,rfl,rfl,rfl,rfl,rfl,trivial⟩,⟨rfl,rfl,rfl,.inl rfl,.inl (bC (fg g.c _)),.inl rfl,rfl,trivial⟩,rfl⟩
    have:=hM2.addC hs c6.1 c6.2
    rw [hgh] at this
    exact this
   ·refine ⟨_,_,⟨k5,g.c,xc,nc,by omega,by omega,hnc,hxc,?_,rfl,rfl⟩,⟨rfl,rfl,rfl,rfl,rfl,rfl,trivial⟩,⟨rfl,rfl,rfl,.inl rfl,.inl rfl,.inl rfl,rfl,trivial⟩,rfl⟩
    have:=hM2.mono (Nat.le_refl 4) (Nat.le_succ j) (Nat.le_refl j)
    rw [<- hgh]
    exact this
  rintro f1 m1 ⟨k5,C,ya,na,a5,b5,hna,hya,hM3,rfl,rfl⟩
  obtain ⟨r6,k6,a6,b6,⟨t,rfl⟩,O6⟩:=cU (a:=1) (b:=4) (by decide) zs k5 (by omega)
  refine .inr (.inl ⟨_,_,_,O6 _ v 1000 rfl hv',⟨rfl,trivial⟩,rfl,fun ht=>?_,fun ht=>?_⟩)
  ·obtain ⟨r7,k7,a7,b7,⟨i7,rfl,c7⟩,O7⟩:=GD zs k6 (by omega)
   obtain ⟨q,hq,hb'⟩:=yj
   have ed:IntKind.i64.wrap (day+1)=day+1:=i64_in (by omega)
   refine ⟨_,rfl,by omega,by omega,_,i0 h,_,fun w' _=>zZ _ _ w',.inr (.inl ⟨_,_,_,O7 _ v 1000 rfl hv',⟨rfl,trivial⟩,rfl,?_⟩)⟩
   rw [ed]
   refine ⟨_,HZ ((cF[j],min 73048 (day+1)),i7) rfl,.inl ⟨by decide,by decide,_,uW ((cF[j],min 73048 (day+1)),i7),rfl,by decide,9508,np,_,.inl rfl,by decide,gO _,rfl,_,rfl,?_⟩⟩
   refine ⟨by omega,by unfold maxLen;omega,⟨q,hq,by rw [hb'];omega⟩,by change _=true;kernel_rfl,fun g2 cap2=>?_⟩
   refine ⟨by decide,rfl,_,rfl,by kernel_rfl,3 - (j+1),_,_,by omega,⟨j+1,k7,⟨H,C,g.p++[((cF[j],min 73048 (day+1)),i7)]⟩,ya,_,na,np+1,rfl,by omega,by omega,by omega,rfl,hna,by show np+1=(g.p++[_]).length;rw [hnp,List.length_append];rfl,hya,.some,?_,rfl,rfl⟩,⟨rfl,rfl,rfl,rfl,rfl,ar (ax (by omega)),trivial⟩,⟨rfl,rfl,rfl,.inl rfl,.inl rfl,.inl (bC (fg g.p _)),rfl,trivial⟩,rfl⟩
   exact hM3.addP hs c7.1 c7.2
  ·exact ⟨3 - (j+1),_,_,by omega,⟨j+1,k6,⟨H,C,g.p⟩,ya,xp,na,np,rfl,by omega,by omega,by omega,rfl,hna,hnp,hya,hxp,hM3.mono (Nat.le_refl 4) (Nat.le_refl _) (Nat.le_succ j),rfl,rfl⟩,⟨rfl,rfl,rfl,rfl,rfl,ar (ax (by omega)),trivial⟩,⟨rfl,rfl,rfl,.inl rfl,.inl rfl,.inl rfl,rfl,trivial⟩,rfl⟩
 ·have h:j=3:=by have:=ag h;omega
  subst h
  subst hgh
  subst hn
  subst hnc
  subst hnp
  exact ⟨Cs (fD hx) (fD hxc) (fD hxp),(1000,Blk.row 53 2 (tb v k3)) :: pfM x xc xp g,[],⟨g,k3,x,xc,xp,by omega,by omega,hM2,hx,hxc,hxp,rfl,rfl⟩,⟨rfl,.inl rfl,.inl rfl,.inl rfl,trivial⟩,rfl⟩
end Go.Proofs.YtklehfchdoikeaaGreatDoor
