/- Made lists of actions; a cell turned in a list; the law ActionSpoilt; no condition. -/
import Derived.Test.YtnfmpddhcjkjbaaGreatDoorP27
import Derived.Test.YtnfmpddhcjkjbaaGreatDoorP22
set_option maxRecDepth 100000
set_option maxHeartbeats 4000000
namespace Go.Proofs.YtnfmpddhcjkjbaaGreatDoor
open Go Go.RowKit Go.SX
def ActQ (n:Nat) (k:Nat) (v:Value) (x:Value) (U:MemL):Prop:=∃ (xs:List AC) (k':Nat),k≤k'∧k'≤k+1000∧IsL x n∧xs.length=n∧(∀ a∈xs,a.In)∧U=[(1000,Blk.row 42 2 (tb v k')),(3000,Blk.own x 29 76 n (cat AC.A xs))]
theorem actions_z {E:Env} (hE:E.P=Tryz.prog) {v:Value} {zs:List Int} (hv:Tp E v zs) {n k:Nat} (hn:n≤8) (hk:k+1000≤4000000000000000000) (day:Int):OwnC E 44 [SV.ptr 1000 0,SV.c (.int .i64 (n:Nat)),SV.c (.int .i64 day)] [(1000,Blk.row 42 2 (tb v k))] (ActQ n k v):=by
 refine sx_ownC [] tt_ok mixed at44 E hE [SV.ptr 1000 0,SV.c (.int .i64 (n:Nat)),SV.c (.int .i64 day)] [(1000,Blk.row 42 2 (tb v k))] _ rfl rfl fun w X β hT=>?_
 have hv':Tp (envC Tryz.prog tt Tryz.f44.ntmps w X (tiedK [(1000,Blk.row 42 2 (tb v k))] β)).toEnv v zs:=hv.of_old hE.symm hT
 obtain ⟨r1,k1,a1,b1,⟨i1,rfl,c1⟩,O1⟩:=next_g (n:=3) (by decide) zs k (by omega)
 refine .inr (.inl ⟨_,_,_,O1 _ v 1000 rfl hv',⟨rfl,trivial⟩,rfl,?_⟩)
 refine ⟨fun q f m=>∃ (i k2:Nat) (xs:List AC) (x:Value) (known:Int),q=n - i∧i≤n∧k≤k2∧k2≤k+1+100*i∧IsL x i∧xs.length=i∧(∀ a∈xs,a.In)∧f=[(0,SV.ptr 1000 0),(1,SV.c (.int .i64 (n:Nat))),(2,SV.c (.int .i64 day)),(7,SV.c x),(8,SV.c (.int .i64 known)),(9,SV.c (.int .i64 (i:Nat)))]∧m=[(1000,Blk.row 42 2 (tb v k2)),(3000,Blk.own x 29 76 i (cat AC.A xs))],n,⟨_,_,⟨0,k1,[],.slice none 0 0,i1,by omega,by omega,by omega,by omega,.nil,rfl,fun a h=>by simp at h,rfl,rfl⟩,⟨rfl,rfl,rfl,rfl,rfl,rfl,trivial⟩,⟨rfl,.inr ⟨rfl,rfl,rfl⟩,trivial⟩,rfl⟩,?_⟩
 rintro q f m ⟨i,k2,xs,x,known,rfl,hi,hk1,hk2,hx,hxs,hin,rfl,rfl⟩
 refine ⟨fun h=>?_,fun h=>?_⟩
 ·have h:i < n:=by have:=of_decide_eq_true h;omega
  obtain ⟨r3,k3,a3,b3,⟨i3,rfl,c3⟩,O3⟩:=pick_g (xs:=[0,1,4]) (by decide) (by decide) zs k2 (by omega)
  obtain ⟨r4,k4,a4,b4,⟨y,rfl,c4⟩,O4⟩:=action_g day (IntKind.i64.wrap (known+IntKind.i64.wrap (1+i3))) zs k3 (by omega)
  refine .inl ⟨by decide,by decide,ints [0,1,4],by kernel_rfl,rfl,.inr (.inl ⟨_,_,_,O3 _ v 1000 19 (by decide) rfl hv',⟨rfl,rfl,trivial⟩,rfl,?_⟩)⟩
  have F1:=fill_act1 y
  have F2:=y.fits.one
  have F3:=y.ext76
  have F4:y.A.size=1*76:=y.size
  have F5:cat AC.A xs++y.A=cat AC.A (xs++[y]):=cat_snoc xs y
  have F6:=y.fits
  generalize hY:y.A=YA at F1 F2 F3 F4 F5 F6 O4
  refine .inr (.inl ⟨_,_,_,O4 _ v 1000 rfl hv',⟨rfl,trivial⟩,rfl,.inl ⟨by decide,by decide,_,F1,F4,by decide,3000,i,_,.inl rfl,by decide,F2,F4,_,F3,?_⟩⟩)
  obtain ⟨q,hq,hb⟩:=info_act
  refine ⟨by omega,by unfold maxLen;omega,⟨q,hq,by rw [hb];omega⟩,trivial,fun g2 cap2=>?_⟩
  refine ⟨n - (i+1),_,_,by omega,⟨i+1,k4,xs++[y],_,_,rfl,by omega,by omega,by omega,.some,by simp [hxs],?_,rfl,rfl⟩,⟨rfl,rfl,rfl,rfl,rfl,c_int (i64_succ (by omega)),trivial⟩,⟨rfl,.inl (own_eq F5),trivial⟩,rfl⟩
  intro a ha
  rcases List.mem_append.1 ha with h | h
  ·exact hin a h
  ·have:a=y:=by simpa using h
   rw [this];exact c4
 ·have h:i=n:=by have:=of_decide_eq_false h;omega
  subst h
  exact ⟨[(1000,Blk.row 42 2 (tb v k2)),(3000,Blk.own x 29 76 i (cat AC.A xs))],[],⟨xs,k2,by omega,by omega,hx,hxs,hin,rfl⟩,⟨rfl,.inl rfl,trivial⟩,rfl⟩
theorem splice_left8 {P Q:Array Value} {off:Nat} {vs:List Value} (h:off+vs.length≤P.size):splice (P++Q) off vs=splice P off vs++Q:=by
 apply Array.ext_getElem?
 intro t
 rw [splice_get,Array.getElem?_append,Array.getElem?_append,splice_get,splice_size]
 have hs:(P++Q).size=P.size+Q.size:=Array.size_append
 by_cases h1:t < off∨off+vs.length≤t
 ·rw [if_pos h1,if_pos h1]
 ·rw [if_neg h1,if_neg h1]
  have h2:t < P.size:=by omega
  rw [if_pos h2]
  simp only [hs]
  rw [if_pos (by omega),if_pos h2]
theorem splice_right8 {P Q:Array Value} {off:Nat} {vs:List Value}:splice (P++Q) (P.size+off) vs=P++splice Q off vs:=by
 apply Array.ext_getElem?
 intro t
 rw [splice_get,Array.getElem?_append,Array.getElem?_append,splice_get]
 have hs:(P++Q).size=P.size+Q.size:=Array.size_append
 by_cases h2:t < P.size
 ·rw [if_pos h2,if_pos h2,if_pos (by omega)]
 ·rw [if_neg h2,if_neg h2]
  by_cases h1:t - P.size < off∨off+vs.length≤t - P.size
  ·rw [if_pos h1,if_pos (by omega)]
  ·rw [if_neg h1,if_neg (by omega)]
   rw [show t - (P.size+off)=t - P.size - off by omega]
   simp only [hs]
   by_cases h3:t - P.size < Q.size
   ·rw [if_pos h3,if_pos (by omega)]
   ·rw [if_neg h3,if_neg (by omega)]
theorem cat_splice8 {α:Type} {g:α→Array Value} {s:Nat} (hg:∀ x,(g x).size=s) {x':α} {j:Nat} {vs:List Value}:∀ {l:List α} {i:Nat} {x:α},l[i]? = some x→j+vs.length≤s→splice (g x) j vs=g x'→splice (cat g l) (i*s+j) vs=cat g (l.set i x')
 | [],i,x,h,_,_=>by simp at h
 | y :: r,0,x,h,hj,he=>by
  simp only [List.getElem?_cons_zero,Option.some.injEq] at h
  subst h
  rw [cat,List.set_cons_zero,cat,Nat.zero_mul,Nat.zero_add,splice_left8 (by rw [hg];exact hj),he]
 | y :: r,i+1,x,h,hj,he=>by
  rw [cat,List.set_cons_succ,cat,show (i+1)*s+j=(g y).size+(i*s+j) by rw [hg,Nat.add_mul];omega,splice_right8,cat_splice8 hg (by simpa using h) hj he]
theorem cat_set18 {α:Type} {g:α→Array Value} {s:Nat} (hg:∀ x,(g x).size=s) {x':α} {j:Nat} {v:Value} {l:List α} {i:Nat} {x:α} (h:l[i]? = some x) (hj:j < s) (he:(g x).setIfInBounds j v=g x'):(cat g l).setIfInBounds (i*s+j) v=cat g (l.set i x') :=
 cat_splice8 (vs:=[v]) hg h (show j+1≤s from hj) he
theorem AC.set1 (a:AC) (l:List UInt8):a.A.setIfInBounds (0+1) (.string (S l))=({ a with key:=l }:AC).A:=by kernel_rfl
theorem AC.set2 (a:AC) (l:List UInt8):a.A.setIfInBounds (0+2) (.string (S l))=({ a with ins:=l }:AC).A:=by kernel_rfl
theorem AC.set4 (a:AC) (n:Int):a.A.setIfInBounds (0+4) (.int .i64 n)=({ a with day:=n }:AC).A:=by kernel_rfl
theorem AC.set8 (a:AC) (l:List UInt8):a.A.setIfInBounds (0+73) (.string (S l))=({ a with cur:=l }:AC).A:=by kernel_rfl
theorem AC.set9 (a:AC) (n:Int):a.A.setIfInBounds (0+74) (.int .i64 n)=({ a with known:=n }:AC).A:=by kernel_rfl
theorem AC.set10 (a:AC) (b:Bool):a.A.setIfInBounds (0+75) (.bool b)=({ a with void:=b }:AC).A:=by kernel_rfl
theorem fill_rats5 (a b c d e:RQ):Instr.fill (fun k=>some (k*ti27.size,ti27.size)) (madeCells ti27.zero (5*ti27.size)) [(0,.agg a.A),(1,.agg b.A),(2,.agg c.A),(3,.agg d.A),(4,.agg e.A)]=some (rats [a,b,c,d,e]):=by kernel_rfl
theorem off76 (p:Nat):offAt 0 ((p:Nat):Int) ti29.size=p*76:=by
 show offAt 0 ((p:Nat):Int) 76=p*76
 simp [offAt]
theorem books_own {E:Env} (hE:E.P=Tryz.prog) {x:Value} {xs:List AC} {n:Nat} {k:Int} (hn:n=xs.length) (hb:n≤1000000000000) (hin:∀ y∈xs,y.In):OwnC E 9 [SV.c x,SV.c (.int .i64 k)] [(3000,Blk.own x 29 76 n (cat AC.A xs))] (fun r U=>r=.bool true∧U=[(3000,Blk.own x 29 76 n (cat AC.A xs))]):=by
 subst hn
 refine (OwnC.with_own (k:=3000) (v:=x) (e:=29) (sz:=76) (n:=xs.length) (A:=cat AC.A xs) (pre:=[]) rfl rfl (cat_all AC.all1 xs) (by rw [hE];exact at9.enters) (fun E0 h hl=>books_z (h.trans hE) hl hb hin) (fun x U h=>by rw [h.2];rfl)).mono ?_
 rintro y U ⟨U0,⟨h1,h2⟩,h3⟩
 exact ⟨h1,by rw [h3,h2]⟩
theorem actionSpoilt_f {v:Value} {zs:List Int} {n:Int} {r:RQ} (hr:r.In) (hn : -9223372036854775808≤n∧n≤9223372036854775807) (w:World) (hv:Tp (envC Tryz.prog tt Tryz.f10.ntmps w [] []).toEnv v zs):Calls Tryz.prog 10 #[v,.int .i64 n,.agg r.A] w fun e w'=>e=.returned (.bool true)∧Below w.heap.size w w':=by
 refine sx_atX [] tt_ok mixed at10 [v,.int .i64 n,.agg r.A] _ w rfl ?_
 have hv0:=hv
 obtain ⟨a,cap,rfl,-⟩:=hv0
 refine ⟨r.A_size,_,fill_tape a zs.length cap rfl,rfl,?_⟩
 generalize hvv:Value.slice a zs.length cap=v at *
 obtain ⟨r1,k1,a1,b1,⟨i1,rfl,c1⟩,O1⟩:=next_g (n:=8) (by decide) zs 0 (by omega)
 obtain ⟨j,rfl⟩:∃ j:Nat,i1=(j:Nat):=⟨i1.toNat,by omega⟩
 have e1:IntKind.i64.wrap (1+((j:Nat):Int))=((j+1:Nat):Int):=by rw [i64_in (by omega)];omega
 have A1:=actions_z (E:=(envC Tryz.prog tt Tryz.f10.ntmps w [] []).toEnv) rfl hv (n:=j+1) (k:=k1) (by omega) (by omega) 9497
 rw [← e1] at A1
 refine .inr (.inl ⟨_,_,_,O1 _ v 13 rfl hv,⟨rfl,trivial⟩,rfl,?_⟩)
 refine .inr (.inr (.inr ⟨[(1000,13)],[3000],[_,_,_],[_],_,A1,rfl,⟨rfl,trivial⟩,rfl,trivial,?_⟩))
 rintro x U ⟨xs,k2,a2,b2,hx,hxs,hin,rfl⟩
 refine ⟨rfl,?_⟩
 rcases hx with ⟨-,h0⟩ | ⟨g,cp,rfl⟩
 ·omega
 obtain ⟨r3,k3,a3,b3,⟨i3,rfl,c3⟩,O3⟩:=next_g (n:=30) (by decide) zs k2 (by omega)
 refine .inr (.inl ⟨_,_,_,O3 _ v 13 rfl hv,⟨rfl,trivial⟩,rfl,?_⟩)
 have B1:=books_own (E:=(envC Tryz.prog tt Tryz.f10.ntmps w [] []).toEnv) rfl (x:=.slice (some ⟨g,0,none⟩) (j+1) cp) (xs:=xs) (n:=j+1) (k:=i3) (by omega) (by omega) hin
 refine .inr (.inr (.inl ⟨[],[_,_],[_],_,[_],B1,rfl,⟨.inl rfl,trivial⟩,rfl,rfl,?_⟩))
 refine ⟨fun h=>absurd h (by decide),fun _=>?_⟩
 refine ⟨_,fun w' _=>run_len_sl Tryz.underlying66 w',?_⟩
 obtain ⟨r5,k5,a5,b5,⟨i5,rfl,c5⟩,O5⟩:=next_g (n:=((j+1:Nat):Int)) (by omega) zs k3 (by omega)
 obtain ⟨p,rfl⟩:∃ p:Nat,i5=(p:Nat):=⟨i5.toNat,by omega⟩
 have hp:p < j+1:=by omega
 refine .inr (.inl ⟨_,_,_,O5 _ v 13 rfl hv,⟨rfl,trivial⟩,rfl,by omega,by omega,?_⟩)
 obtain ⟨r6,k6,a6,b6,⟨i6,rfl,c6⟩,O6⟩:=pick_g (xs:=[n,0,-1,1,1000000,1000001,73049]) (by simp) (by simp) zs k5 (by omega)
 have d6 : -9223372036854775808≤i6∧i6≤9223372036854775807:=by simp at c6;omega
 refine .inl ⟨by decide,by decide,ints [n,0,-1,1,1000000,1000001,73049],by kernel_rfl,rfl,.inr (.inl ⟨_,_,_,O6 _ v 13 32 (by decide) rfl hv,⟨rfl,rfl,trivial⟩,rfl,?_⟩)⟩
 obtain ⟨r7,k7,a7,b7,⟨i7,rfl,c7⟩,O7⟩:=next_g (n:=11) (by decide) zs k6 (by omega)
 refine .inr (.inl ⟨_,_,_,O7 _ v 13 rfl hv,⟨rfl,trivial⟩,rfl,?_⟩)
 obtain ⟨y,hy⟩:∃ y,xs[p]? = some y:=⟨_,List.getElem?_eq_getElem (show p < xs.length by omega)⟩
 have yi:=hin y (List.mem_of_getElem? hy)
 have hsz:(cat AC.A xs).size=(j+1)*76:=by rw [Go.SX.cat_size AC.size,hxs]
 have hlt:∀ q,q < 76→offAt 0 ((p:Nat):Int) ti29.size+q < (cat AC.A xs).size:=fun q hq=>by
  rw [off76,hsz]
  have:(p+1)*76≤(j+1)*76:=Nat.mul_le_mul_right 76 hp
  omega
 have hset:∀ (q:Nat) (u:Value) (y':AC),q < 76→y.A.setIfInBounds q u=y'.A→(cat AC.A xs).setIfInBounds (offAt 0 ((p:Nat):Int) ti29.size+q) u=cat AC.A (xs.set p y'):=fun q u y' hq he=>by
  rw [off76];exact cat_set18 AC.size hy hq he
 have hin':∀ y':AC,y'.In→∀ z∈xs.set p y',z.In:=fun y' hy' z hz=>by
  rcases List.mem_or_eq_of_mem_set hz with h | h
  ·exact hin z h
  ·rw [h];exact hy'
 have hget:∀ y':AC,(cat AC.A (xs.set p y')).extract (offAt 0 ((p:Nat):Int) ti29.size) (offAt 0 ((p:Nat):Int) ti29.size+ti29.size)=y'.A:=fun y'=>by
  rw [off76]
  exact cat_extract AC.size (by rw [List.getElem?_set_self (by omega)])
 have hlen:∀ y':AC,offAt 0 ((p:Nat):Int) ti29.size+ti29.size≤(cat AC.A (xs.set p y')).size:=fun y'=>by
  rw [off76,Go.SX.cat_size AC.size,List.length_set,hxs]
  have:(p+1)*76≤(j+1)*76:=Nat.mul_le_mul_right 76 hp
  show p*76+76≤_
  omega
 have B2:=fun (y':AC) (h:y'.In)=>books_own (E:=(envC Tryz.prog tt Tryz.f10.ntmps w [] []).toEnv) rfl (x:=.slice (some ⟨g,0,none⟩) (j+1) cp) (xs:=xs.set p y') (n:=j+1) (k:=30) (by rw [List.length_set];omega) (by omega) (hin' y' h)
 have M1:=made_of (n:=5) (d:=1) (by decide) (by decide) (by decide) (by decide)
 have X1:=fun (y':AC) (h:y'.In)=>actionExact_f h 10 (mkQ_in 5 1)
 refine ⟨fun h=>?_,fun h=>?_⟩
 ·have S1:=hset 0 _ _ (by decide) (AC.set0 y i6)
  have y'i:({ y with kind:=i6 }:AC).In:=⟨yi.cash,yi.key,yi.ins,yi.into,yi.cur,yi.num,yi.den⟩
  generalize ({ y with kind:=i6 }:AC)=y' at S1 y'i
  refine ⟨3000,g,_,_,cp,_,_,_,rfl,rfl,hlt 0 (by decide),rfl,_,S1,?_⟩
  refine .inr (.inr (.inl ⟨[],[_,_],[_],_,[_],B2 y' y'i,rfl,⟨.inl rfl,trivial⟩,rfl,rfl,fun _=>?_,fun h=>absurd h (by decide)⟩))
  refine .inr ⟨3000,g,_,_,cp,_,_,_,rfl,rfl,hlen y',_,hget y',.inl ⟨_,M1,.inl ⟨_,X1 y' y'i,fun _=>.inl ⟨_,known_f,?_⟩,fun h=>absurd h (by decide)⟩⟩⟩
  exact ⟨by kernel_rfl,rfl,trivial⟩
 refine ⟨fun h=>?_,fun h=>?_⟩
 ·obtain ⟨r8,k8,a8,b8,⟨l8,rfl,c8⟩,O8⟩:=one_g (xs:=[[],[120]]) (by simp) (by simp) zs k7 (by omega)
  have dl:l8.length≤9223372036854775807:=by
   simp at c8
   rcases c8 with rfl | rfl<;>decide
  have S1:=hset 1 _ _ (by decide) (AC.set1 y l8)
  have y'i:({ y with key:=l8 }:AC).In:=⟨yi.cash,dl,yi.ins,yi.into,yi.cur,yi.num,yi.den⟩
  generalize ({ y with key:=l8 }:AC)=y' at S1 y'i
  refine .inl ⟨by decide,by decide,strs [[],[120]],by kernel_rfl,rfl,.inr (.inl ⟨_,_,_,O8 _ v 13 54 (by decide) rfl hv,⟨rfl,rfl,trivial⟩,rfl,⟨3000,g,_,_,cp,_,_,_,rfl,rfl,hlt 1 (by decide),rfl,_,S1,?_⟩⟩)⟩
  refine .inr (.inr (.inl ⟨[],[_,_],[_],_,[_],B2 y' y'i,rfl,⟨.inl rfl,trivial⟩,rfl,rfl,fun _=>?_,fun h=>absurd h (by decide)⟩))
  refine .inr ⟨3000,g,_,_,cp,_,_,_,rfl,rfl,hlen y',_,hget y',.inl ⟨_,M1,.inl ⟨_,X1 y' y'i,fun _=>.inl ⟨_,known_f,?_⟩,fun h=>absurd h (by decide)⟩⟩⟩
  exact ⟨by kernel_rfl,rfl,trivial⟩
 refine ⟨fun h=>?_,fun h=>?_⟩
 ·obtain ⟨r8,k8,a8,b8,⟨l8,rfl,c8⟩,O8⟩:=one_g (xs:=[[],[97,99,109,101],[78,69,87,67,79]]) (by simp) (by simp) zs k7 (by omega)
  have dl:l8.length≤9223372036854775807:=by
   simp at c8
   rcases c8 with rfl | rfl | rfl<;>decide
  have S1:=hset 2 _ _ (by decide) (AC.set2 y l8)
  have y'i:({ y with ins:=l8 }:AC).In:=⟨yi.cash,yi.key,dl,yi.into,yi.cur,yi.num,yi.den⟩
  generalize ({ y with ins:=l8 }:AC)=y' at S1 y'i
  refine .inl ⟨by decide,by decide,strs [[],[97,99,109,101],[78,69,87,67,79]],by kernel_rfl,rfl,.inr (.inl ⟨_,_,_,O8 _ v 13 62 (by decide) rfl hv,⟨rfl,rfl,trivial⟩,rfl,⟨3000,g,_,_,cp,_,_,_,rfl,rfl,hlt 2 (by decide),rfl,_,S1,?_⟩⟩)⟩
  refine .inr (.inr (.inl ⟨[],[_,_],[_],_,[_],B2 y' y'i,rfl,⟨.inl rfl,trivial⟩,rfl,rfl,fun _=>?_,fun h=>absurd h (by decide)⟩))
  refine .inr ⟨3000,g,_,_,cp,_,_,_,rfl,rfl,hlen y',_,hget y',.inl ⟨_,M1,.inl ⟨_,X1 y' y'i,fun _=>.inl ⟨_,known_f,?_⟩,fun h=>absurd h (by decide)⟩⟩⟩
  exact ⟨by kernel_rfl,rfl,trivial⟩
 refine ⟨fun h=>?_,fun h=>?_⟩
 ·have G2:(cat AC.A xs)[offAt 0 ((p:Nat):Int) ti29.size+2]? = some (.string (S y.ins)):=by rw [off76,cat_get AC.size xs p y 2 hy (by decide)];exact y.g2
  obtain ⟨r8,k8,a8,b8,⟨l8,rfl,c8⟩,O8⟩:=one_g (xs:=[[],[78,69,87,67,79],[98],y.ins]) (by simp) (by simp) zs k7 (by omega)
  have dl:l8.length≤9223372036854775807:=by
   simp at c8
   rcases c8 with rfl | rfl | rfl | rfl
   ·decide
   ·decide
   ·decide
   ·exact yi.ins
  have S1:=hset 3 _ _ (by decide) (AC.set3 y l8)
  have y'i:({ y with into:=l8 }:AC).In:=⟨yi.cash,yi.key,yi.ins,dl,yi.cur,yi.num,yi.den⟩
  generalize ({ y with into:=l8 }:AC)=y' at S1 y'i
  refine .inr ⟨3000,g,_,_,cp,_,_,_,rfl,rfl,_,G2,.inl ⟨by decide,by decide,strs [[],[78,69,87,67,79],[98],y.ins],by kernel_rfl,rfl,.inr (.inl ⟨_,_,_,O8 _ v 13 74 (by decide) rfl hv,⟨rfl,rfl,trivial⟩,rfl,⟨3000,g,_,_,cp,_,_,_,rfl,rfl,hlt 3 (by decide),rfl,_,S1,?_⟩⟩)⟩⟩
  refine .inr (.inr (.inl ⟨[],[_,_],[_],_,[_],B2 y' y'i,rfl,⟨.inl rfl,trivial⟩,rfl,rfl,fun _=>?_,fun h=>absurd h (by decide)⟩))
  refine .inr ⟨3000,g,_,_,cp,_,_,_,rfl,rfl,hlen y',_,hget y',.inl ⟨_,M1,.inl ⟨_,X1 y' y'i,fun _=>.inl ⟨_,known_f,?_⟩,fun h=>absurd h (by decide)⟩⟩⟩
  exact ⟨by kernel_rfl,rfl,trivial⟩
 refine ⟨fun h=>?_,fun h=>?_⟩
 ·have S1:=hset 4 _ _ (by decide) (AC.set4 y i6)
  have y'i:({ y with day:=i6 }:AC).In:=⟨yi.cash,yi.key,yi.ins,yi.into,yi.cur,yi.num,yi.den⟩
  generalize ({ y with day:=i6 }:AC)=y' at S1 y'i
  refine ⟨3000,g,_,_,cp,_,_,_,rfl,rfl,hlt 4 (by decide),rfl,_,S1,?_⟩
  refine .inr (.inr (.inl ⟨[],[_,_],[_],_,[_],B2 y' y'i,rfl,⟨.inl rfl,trivial⟩,rfl,rfl,fun _=>?_,fun h=>absurd h (by decide)⟩))
  refine .inr ⟨3000,g,_,_,cp,_,_,_,rfl,rfl,hlen y',_,hget y',.inl ⟨_,M1,.inl ⟨_,X1 y' y'i,fun _=>.inl ⟨_,known_f,?_⟩,fun h=>absurd h (by decide)⟩⟩⟩
  exact ⟨by kernel_rfl,rfl,trivial⟩
 refine ⟨fun h=>?_,fun h=>?_⟩
 ·have S1:=hset 5 _ _ (by decide) (AC.set5 y i6)
  have y'i:({ y with num:=i6 }:AC).In:=⟨yi.cash,yi.key,yi.ins,yi.into,yi.cur,d6,yi.den⟩
  generalize ({ y with num:=i6 }:AC)=y' at S1 y'i
  refine ⟨3000,g,_,_,cp,_,_,_,rfl,rfl,hlt 5 (by decide),rfl,_,S1,?_⟩
  refine .inr (.inr (.inl ⟨[],[_,_],[_],_,[_],B2 y' y'i,rfl,⟨.inl rfl,trivial⟩,rfl,rfl,fun _=>?_,fun h=>absurd h (by decide)⟩))
  refine .inr ⟨3000,g,_,_,cp,_,_,_,rfl,rfl,hlen y',_,hget y',.inl ⟨_,M1,.inl ⟨_,X1 y' y'i,fun _=>.inl ⟨_,known_f,?_⟩,fun h=>absurd h (by decide)⟩⟩⟩
  exact ⟨by kernel_rfl,rfl,trivial⟩
 refine ⟨fun h=>?_,fun h=>?_⟩
 ·have S1:=hset 6 _ _ (by decide) (AC.set6 y i6)
  have y'i:({ y with den:=i6 }:AC).In:=⟨yi.cash,yi.key,yi.ins,yi.into,yi.cur,yi.num,d6⟩
  generalize ({ y with den:=i6 }:AC)=y' at S1 y'i
  refine ⟨3000,g,_,_,cp,_,_,_,rfl,rfl,hlt 6 (by decide),rfl,_,S1,?_⟩
  refine .inr (.inr (.inl ⟨[],[_,_],[_],_,[_],B2 y' y'i,rfl,⟨.inl rfl,trivial⟩,rfl,rfl,fun _=>?_,fun h=>absurd h (by decide)⟩))
  refine .inr ⟨3000,g,_,_,cp,_,_,_,rfl,rfl,hlen y',_,hget y',.inl ⟨_,M1,.inl ⟨_,X1 y' y'i,fun _=>.inl ⟨_,known_f,?_⟩,fun h=>absurd h (by decide)⟩⟩⟩
  exact ⟨by kernel_rfl,rfl,trivial⟩
 refine ⟨fun h=>?_,fun h=>?_⟩
 ·have Ma:=made_of (n:=0) (d:=1) (by decide) (by decide) (by decide) (by decide)
  have Mb:=made_of (n:=1) (d:=3) (by decide) (by decide) (by decide) (by decide)
  have Mc:=made_of (n:=-1) (d:=1) (by decide) (by decide) (by decide) (by decide)
  have Md:=made_of (n:=2000000000) (d:=1) (by decide) (by decide) (by decide) (by decide)
  have ia:=mkQ_in 0 1
  have ib:=mkQ_in 1 3
  have ic:=mkQ_in (-1) 1
  have id':=mkQ_in 2000000000 1
  generalize (mkQ 0 1).1=qa at Ma ia
  generalize (mkQ 1 3).1=qb at Mb ib
  generalize (mkQ (-1) 1).1=qc at Mc ic
  generalize (mkQ 2000000000 1).1=qd at Md id'
  have hin5:∀ x∈[r,qa,qb,qc,qd],x.In:=by
   intro x hx
   simp at hx
   rcases hx with rfl | rfl | rfl | rfl | rfl
   ·exact hr
   ·exact ia
   ·exact ib
   ·exact ic
   ·exact id'
  obtain ⟨r8,k8,a8,b8,⟨x8,rfl,c8⟩,O8⟩:=pickratio5_g hin5 zs k7 (by omega)
  have S1:splice (cat AC.A xs) (offAt 0 ((p:Nat):Int) ti29.size+7) x8.A.toList=cat AC.A (xs.set p { y with cash:=x8 }):=by
   rw [off76]
   exact cat_splice8 AC.size hy (by rw [Array.length_toList,RQ.A_size];omega) (AC.setcash y x8)
  have y'i:({ y with cash:=x8 }:AC).In:=⟨c8,yi.key,yi.ins,yi.into,yi.cur,yi.num,yi.den⟩
  generalize ({ y with cash:=x8 }:AC)=y' at S1 y'i
  have H7:offAt 0 ((p:Nat):Int) ti29.size+7+ti27.size≤(cat AC.A xs).size:=by
   have h1:=hlt 75 (by decide)
   show offAt 0 ((p:Nat):Int) ti29.size+7+66≤_
   omega
  refine .inl ⟨_,Ma,.inl ⟨_,Mb,.inl ⟨_,Mc,.inl ⟨_,Md,.inl ⟨by decide,by decide,rats [r,qa,qb,qc,qd],fill_rats5 _ _ _ _ _,by simp [rats,RQ.A_size];rfl,.inr (.inl ⟨_,_,_,O8 _ v 13 105 (by decide) rfl hv,⟨rfl,rfl,trivial⟩,rfl,?_⟩)⟩⟩⟩⟩⟩
  refine ⟨3000,g,_,_,cp,_,_,_,rfl,rfl,H7,RQ.A_fits _,_,S1,by kernel_rfl,?_⟩
  refine .inr (.inr (.inl ⟨[],[_,_],[_],_,[_],B2 y' y'i,rfl,⟨.inl rfl,trivial⟩,rfl,rfl,fun _=>?_,fun h=>absurd h (by decide)⟩))
  refine .inr ⟨3000,g,_,_,cp,_,_,_,rfl,rfl,hlen y',_,hget y',.inl ⟨_,M1,.inl ⟨_,X1 y' y'i,fun _=>.inl ⟨_,known_f,?_⟩,fun h=>absurd h (by decide)⟩⟩⟩
  exact ⟨by kernel_rfl,rfl,trivial⟩
 refine ⟨fun h=>?_,fun h=>?_⟩
 ·obtain ⟨r8,k8,a8,b8,⟨l8,rfl,c8⟩,O8⟩:=one_g (xs:=[[],[117,115,100]]) (by simp) (by simp) zs k7 (by omega)
  have dl:l8.length≤9223372036854775807:=by
   simp at c8
   rcases c8 with rfl | rfl<;>decide
  have S1:=hset 73 _ _ (by decide) (AC.set8 y l8)
  have y'i:({ y with cur:=l8 }:AC).In:=⟨yi.cash,yi.key,yi.ins,yi.into,dl,yi.num,yi.den⟩
  generalize ({ y with cur:=l8 }:AC)=y' at S1 y'i
  refine .inl ⟨by decide,by decide,strs [[],[117,115,100]],by kernel_rfl,rfl,.inr (.inl ⟨_,_,_,O8 _ v 13 113 (by decide) rfl hv,⟨rfl,rfl,trivial⟩,rfl,⟨3000,g,_,_,cp,_,_,_,rfl,rfl,hlt 73 (by decide),rfl,_,S1,?_⟩⟩)⟩
  refine .inr (.inr (.inl ⟨[],[_,_],[_],_,[_],B2 y' y'i,rfl,⟨.inl rfl,trivial⟩,rfl,rfl,fun _=>?_,fun h=>absurd h (by decide)⟩))
  refine .inr ⟨3000,g,_,_,cp,_,_,_,rfl,rfl,hlen y',_,hget y',.inl ⟨_,M1,.inl ⟨_,X1 y' y'i,fun _=>.inl ⟨_,known_f,?_⟩,fun h=>absurd h (by decide)⟩⟩⟩
  exact ⟨by kernel_rfl,rfl,trivial⟩
 refine ⟨fun h=>?_,fun h=>?_⟩
 ·have S1:=hset 74 _ _ (by decide) (AC.set9 y i6)
  have y'i:({ y with known:=i6 }:AC).In:=⟨yi.cash,yi.key,yi.ins,yi.into,yi.cur,yi.num,yi.den⟩
  generalize ({ y with known:=i6 }:AC)=y' at S1 y'i
  refine ⟨3000,g,_,_,cp,_,_,_,rfl,rfl,hlt 74 (by decide),rfl,_,S1,?_⟩
  refine .inr (.inr (.inl ⟨[],[_,_],[_],_,[_],B2 y' y'i,rfl,⟨.inl rfl,trivial⟩,rfl,rfl,fun _=>?_,fun h=>absurd h (by decide)⟩))
  refine .inr ⟨3000,g,_,_,cp,_,_,_,rfl,rfl,hlen y',_,hget y',.inl ⟨_,M1,.inl ⟨_,X1 y' y'i,fun _=>.inl ⟨_,known_f,?_⟩,fun h=>absurd h (by decide)⟩⟩⟩
  exact ⟨by kernel_rfl,rfl,trivial⟩
 ·have G2:(cat AC.A xs)[offAt 0 ((p:Nat):Int) ti29.size+75]? = some (.bool y.void):=by rw [off76,cat_get AC.size xs p y 75 hy (by decide)];exact y.g75
  have S1:=hset 75 _ _ (by decide) (AC.set10 y (!y.void))
  have y'i:({ y with void:=!y.void }:AC).In:=⟨yi.cash,yi.key,yi.ins,yi.into,yi.cur,yi.num,yi.den⟩
  generalize ({ y with void:=!y.void }:AC)=y' at S1 y'i
  refine .inr ⟨3000,g,_,_,cp,_,_,_,rfl,rfl,_,G2,⟨3000,g,_,_,cp,_,_,_,rfl,rfl,hlt 75 (by decide),rfl,_,S1,?_⟩⟩
  refine .inr (.inr (.inl ⟨[],[_,_],[_],_,[_],B2 y' y'i,rfl,⟨.inl rfl,trivial⟩,rfl,rfl,fun _=>?_,fun h=>absurd h (by decide)⟩))
  refine .inr ⟨3000,g,_,_,cp,_,_,_,rfl,rfl,hlen y',_,hget y',.inl ⟨_,M1,.inl ⟨_,X1 y' y'i,fun _=>.inl ⟨_,known_f,?_⟩,fun h=>absurd h (by decide)⟩⟩⟩
  exact ⟨by kernel_rfl,rfl,trivial⟩
end Go.Proofs.YtnfmpddhcjkjbaaGreatDoor
