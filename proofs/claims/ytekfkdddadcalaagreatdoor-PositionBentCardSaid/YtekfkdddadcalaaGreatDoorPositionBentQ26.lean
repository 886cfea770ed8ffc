/- books of entries, the reference: valid, marks, Check, Visible. the ledger: the portfolio. the reference: Held, before, put.. the reference: pay.. the reference: balances.. put and pay change one key: plain law.. position.Held; no more.. the reference: Held, put, pay, balances at lists of the caller.. the reference: enter.. the reference and the program go the same way: plain law. days, and what is left of two lists: plain law. lists with room, tails of lists, what At leaves. position.At. the laws comparisons of balances, entries, portfolios. the reference: a day put into a list of days. the reference: the days. the reference: finish. the reference: act. the reference: At. entries, holdings and balances that came in. which portfolios are valid: the program and the reference; no condition. -/
import Derived.Test.YtekfkdddadcalaaGreatDoorPositionBentQ25
import Derived.Test.YtekfkdddadcalaaGreatDoorPositionBentQ22
set_option maxRecDepth 100000
set_option maxHeartbeats 4000000
namespace Go.Proofs.YtekfkdddadcalaaGreatDoor
open Go Go.RowKit Go.SX
theorem far_r (n:Int):Pure Tryz.prog 99 [SV.c (.int .i64 n)] (.bool (!inB n (-1000000000000000) 1000000000000000)):=by
 refine sx_pure tt_ok mixed at99 _ _ rfl rfl fun w=>?_
 refine ⟨fun h=>?_,fun h=>?_⟩
 ·have h:=of_decide_eq_false (show decide (n > 1000000000000000)=false from h)
  refine ⟨bv ?_,trivial⟩
  unfold inB
  rw [decide_eq_true (show n≤1000000000000000 by omega),Bool.and_true]
  by_cases c:n < -1000000000000000
  ·rw [decide_eq_true c,decide_eq_false (by omega)];rfl
  ·rw [decide_eq_false c,decide_eq_true (by omega)];rfl
 ·have h:=of_decide_eq_true (show decide (n > 1000000000000000)=true from h)
  refine ⟨bv ?_,trivial⟩
  unfold inB
  rw [decide_eq_false (show ¬ n≤1000000000000000 by omega),Bool.and_false];rfl
def pfL (g:Led):Led×Int:=if finE g=0 then (g,0) else (.zero,finE g)
def PfQ (g:Led) (vh vc vp:Value) (day:Int) (r:Value) (U:MemL):Prop:=∃ xh xc xp,IsL xh (pfL g).1.h.length∧IsL xc (pfL g).1.c.length∧IsL xp (pfL g).1.p.length∧r=.tuple #[.agg #[xh,xc,xp],.int .i64 (pfL g).2]∧U=[(9501,Blk.own vh 136 2 (g.h).length (cat sumA (g.h))),(9504,Blk.own vc 183 3 (g.c).length (cat sumK (g.c))),(9505,Blk.own vp 183 3 (g.p).length (cat sumK (g.p))),(9500,Blk.row 93 7 (LdA vh vc vp day)),(9506,Blk.own xh 66 2 (pfL g).1.h.length (cat sumA (pfL g).1.h)),(9507,Blk.own xc 49 3 (pfL g).1.c.length (cat sumK (pfL g).1.c)),(9508,Blk.own xp 49 3 (pfL g).1.p.length (cat sumK (pfL g).1.p))]
theorem PfQ.bad {g:Led} {vh vc vp:Value} {day e:Int} (h:pfL g=(.zero,e)):PfQ g vh vc vp day (.tuple #[.agg #[.slice none 0 0,.slice none 0 0,.slice none 0 0],.int .i64 e]) [(9501,Blk.own vh 136 2 (g.h).length (cat sumA (g.h))),(9504,Blk.own vc 183 3 (g.c).length (cat sumK (g.c))),(9505,Blk.own vp 183 3 (g.p).length (cat sumK (g.p))),(9500,Blk.row 93 7 (LdA vh vc vp day)),(9506,Blk.own (.slice none 0 0) 66 2 0 #[]),(9507,Blk.own (.slice none 0 0) 49 3 0 #[]),(9508,Blk.own (.slice none 0 0) 49 3 0 #[])]:=by
 refine ⟨.slice none 0 0,.slice none 0 0,.slice none 0 0,by rw [h];exact .nil,by rw [h];exact .nil,by rw [h];exact .nil,by rw [h],by rw [h];rfl⟩
theorem nil3_fits:Fits #[.slice none 0 0,.slice none 0 0,.slice none 0 0] 3:=⟨rfl,by simp [Value.oneCell']⟩
theorem fits3 {a b c:Value} (h1:a.oneCell'=true) (h2:b.oneCell'=true) (h3:c.oneCell'=true):Fits #[a,b,c] 3:=⟨rfl,by simp [h1,h2,h3]⟩
theorem fill_hol (x:Bs×Int) {pl:List (Nat×Nat)} (hpl:pl=[(0,1),(1,1)]):Instr.fill (fun k=>pl[k]?) ti66.zero [(0,.string (S x.1)),(1,.int .i64 x.2)]=some (sumA x):=by
 subst hpl;rfl
theorem fill_hol1 (x:Bs×Int):Instr.fill (fun k=>some (k*ti66.size,ti66.size)) (madeCells ti66.zero (1*ti66.size)) [(0,.agg (sumA x))]=some (sumA x):=by kernel_rfl
theorem info_hol:∃ q,Tryz.prog.info? 66=some q∧q.bytes=24:=info_of (by kernel_rfl)
theorem portfolio_z {E:Env} (hE:E.P=Tryz.prog) {g:Led} {vh vc vp:Value} {day:Int} (hh:IsL vh g.h.length) (hc:IsL vc g.c.length) (hp:IsL vp g.p.length) (hl:g.h.length≤10000000000∧g.c.length≤10000000000∧g.p.length≤10000000000):OwnC E 47 [SV.ptr 9500 0] [(9501,Blk.own vh 136 2 (g.h).length (cat sumA (g.h))),(9504,Blk.own vc 183 3 (g.c).length (cat sumK (g.c))),(9505,Blk.own vp 183 3 (g.p).length (cat sumK (g.p))),(9500,Blk.row 93 7 (LdA vh vc vp day))] (PfQ g vh vc vp day):=by
 refine sx_ownC [3] tt_ok mixed at47 E hE [SV.ptr 9500 0] [(9501,Blk.own vh 136 2 (g.h).length (cat sumA (g.h))),(9504,Blk.own vc 183 3 (g.c).length (cat sumK (g.c))),(9505,Blk.own vp 183 3 (g.p).length (cat sumK (g.p))),(9500,Blk.row 93 7 (LdA vh vc vp day))] _ rfl rfl fun w X β hT=>?_
 have hE':(envC Tryz.prog tt Tryz.f47.ntmps w X (tiedK [(9501,Blk.own vh 136 2 (g.h).length (cat sumA (g.h))),(9504,Blk.own vc 183 3 (g.c).length (cat sumK (g.c))),(9505,Blk.own vp 183 3 (g.p).length (cat sumK (g.p))),(9500,Blk.row 93 7 (LdA vh vc vp day))] β)).toEnv.P=Tryz.prog:=rfl
 have BC:=balances_z hE' (C:=g.c) hc rfl (by omega)
 have BP:=balances_z hE' (C:=g.p) hp rfl (by omega)
 obtain ⟨ha,hcap,rfl⟩:=hh.len
 obtain ⟨ca,ccap,rfl⟩:=hc.len
 refine ⟨fun f mm=>¬ (g.h.length > 64∨g.c.length > 8)∧f=[(0,SV.ptr 9500 0),(2,SV.ptr 2 0)]∧mm=[(2,Blk.row 40 3 #[.slice none 0 0,.slice none 0 0,.slice none 0 0]),(9501,Blk.own (.slice ha g.h.length hcap) 136 2 (g.h).length (cat sumA (g.h))),(9504,Blk.own (.slice ca g.c.length ccap) 183 3 (g.c).length (cat sumK (g.c))),(9505,Blk.own vp 183 3 (g.p).length (cat sumK (g.p))),(9500,Blk.row 93 7 (LdA (.slice ha g.h.length hcap) (.slice ca g.c.length ccap) vp day))],?_,?_⟩
 ·have bad:g.h.length > 64∨g.c.length > 8→pfL g=(.zero,123):=fun h=>by
    have:finE g=123:=by unfold finE;rw [if_pos h]
    unfold pfL;rw [this];rfl
  refine ⟨_,rfl,_,fun w' _=>run_len_sl Tryz.underlying85 w',fun c=>?_,fun c=>?_⟩
  ·have c:=of_decide_eq_false c
   refine ⟨_,rfl,_,fun w' _=>run_len_sl Tryz.underlying89 w',fun c2=>?_,fun c2=>?_⟩
   ·have c2:=of_decide_eq_true c2
    refine ⟨_,rfl,nil3_fits,?_⟩
    exact ⟨_,[],PfQ.bad (bad (.inr (by omega))),⟨.inl rfl,.inl rfl,.inl rfl,rfl,.inr ⟨rfl,rfl,rfl⟩,.inr ⟨rfl,rfl,rfl⟩,.inr ⟨rfl,rfl,rfl⟩,trivial⟩,rfl⟩
   ·have c2:=of_decide_eq_false c2
    exact ⟨_,_,⟨by omega,rfl,rfl⟩,⟨rfl,rfl,trivial⟩,⟨rfl,.inl rfl,.inl rfl,.inl rfl,rfl,trivial⟩,rfl⟩
  ·have c:=of_decide_eq_true (show decide ((g.h.length:Int) > 64)=true from c)
   have c:(g.h.length:Int) > 64:=c
   refine ⟨fun _=>?_,nofun⟩
   refine ⟨_,rfl,nil3_fits,?_⟩
   exact ⟨_,[],PfQ.bad (bad (.inl (by omega))),⟨.inl rfl,.inl rfl,.inl rfl,rfl,.inr ⟨rfl,rfl,rfl⟩,.inr ⟨rfl,rfl,rfl⟩,.inr ⟨rfl,rfl,rfl⟩,trivial⟩,rfl⟩
 ·rintro f1 m1 ⟨hmany,rfl,rfl⟩
  refine ⟨_,rfl,_,fun w' _=>run_len_sl Tryz.underlying85 w',?_⟩
  refine ⟨fun q f m=>∃ (i:Nat) (s:Value),q=g.h.length - i∧i≤g.h.length∧IsL s i∧f=[(0,SV.ptr 9500 0),(2,SV.ptr 2 0),(4,SV.ptr 4 0),(30,SV.c (.slice ha g.h.length hcap)),(31,SV.c (.int .i64 (g.h.length:Nat))),(32,SV.c (.int .i64 (i:Nat)))]∧m=[(2,Blk.row 40 3 #[.slice none 0 0,.slice none 0 0,.slice none 0 0]),(4,Blk.row 40 3 #[s,.slice none 0 0,.slice none 0 0]),(9506,Blk.own s 66 2 i (cat sumA (g.h.take i))),(9501,Blk.own (.slice ha g.h.length hcap) 136 2 (g.h).length (cat sumA (g.h))),(9504,Blk.own (.slice ca g.c.length ccap) 183 3 (g.c).length (cat sumK (g.c))),(9505,Blk.own vp 183 3 (g.p).length (cat sumK (g.p))),(9500,Blk.row 93 7 (LdA (.slice ha g.h.length hcap) (.slice ca g.c.length ccap) vp day))],g.h.length,⟨_,_,⟨0,.slice none 0 0,rfl,by omega,.nil,rfl,rfl⟩,⟨rfl,rfl,rfl,rfl,rfl,rfl,trivial⟩,⟨rfl,rfl,.inr ⟨rfl,rfl,rfl⟩,.inl rfl,.inl rfl,.inl rfl,rfl,trivial⟩,rfl⟩,?_⟩
  rintro q f m ⟨i,s,rfl,hi,hs,rfl,rfl⟩
  refine ⟨fun h=>?_,fun h=>?_⟩
  ·have h:i < g.h.length:=by have:=of_decide_eq_true h;omega
   rcases hh with ⟨hs1,hs2⟩ | ⟨g0,c0,hs1⟩
   ·omega
   cases hs1
   obtain ⟨y,hy⟩:∃ y,g.h[i]? = some y:=⟨_,List.getElem?_eq_getElem (by omega)⟩
   have L1:=cat_extract sumA_size hy
   have hsz:(cat sumA g.h).size=g.h.length*2:=Go.SX.cat_size sumA_size _
   have X1:(sumA y).extract 0 (0+1*2)=sumA y:=by simp [sumA]
   obtain ⟨q,hq,hb⟩:=info_hol
   refine ⟨by omega,by omega,.inr ⟨9501,g0,_,g.h.length,_,_,_,_,rfl,rfl,(by rw [offS,hsz];show i*2+2≤g.h.length*2;omega),sumA y,(by rw [offS];exact L1),sumA_fits y,?_⟩⟩
   refine ⟨_,rfl,_,rfl,_,rfl,_,fill_hol y rfl,.inl ⟨by decide,by decide,_,fill_hol1 y,rfl,by decide,9506,i,_,.inl rfl,by decide,(sumA_fits y).one,rfl,_,X1,?_⟩⟩
   refine ⟨by omega,by unfold maxLen;omega,⟨q,hq,by rw [hb];omega⟩,trivial,fun g2 cap2=>?_⟩
   exact ⟨by decide,rfl,#[.slice (some ⟨g2,0,none⟩) (i+1) cap2,.slice none 0 0,.slice none 0 0],rfl,g.h.length - (i+1),_,_,by omega,⟨i+1,.slice (some ⟨g2,0,none⟩) (i+1) cap2,rfl,by omega,.some,rfl,rfl⟩,⟨rfl,rfl,rfl,rfl,rfl,c_int (i64_succ (by omega)),trivial⟩,⟨rfl,rfl,.inl (own_eq (cat_take sumA hy)),.inl rfl,.inl rfl,.inl rfl,rfl,trivial⟩,rfl⟩
  ·have h:i=g.h.length:=by have:=of_decide_eq_false h;omega
   subst h
   have hmE:finE g=if amtB g.c && amtB g.p then 0 else 33:=by unfold finE;rw [if_neg hmany];rfl
   refine ⟨by decide,_,(rfl:_=#[fnW 44,.slice ca g.c.length ccap]),?_⟩
   refine .inr (.inr (.inr ⟨[(9501,9504),(9506,9507)],[9507],[_],[_],_,BC,rfl,⟨.inl rfl,trivial⟩,rfl,trivial,?_⟩))
   rintro r U ⟨xc,hxc,rfl,rfl⟩
   refine ⟨rfl,by decide,isL_one hxc,#[s,xc,.slice none 0 0],rfl,?_⟩
   refine ⟨by decide,_,(rfl:_=#[fnW 44,vp]),?_⟩
   refine .inr (.inr (.inr ⟨[(9501,9505),(9506,9508)],[9508],[_],[_],_,BP,rfl,⟨.inl rfl,trivial⟩,rfl,trivial,?_⟩))
   rintro r U ⟨xp,hxp,rfl,rfl⟩
   refine ⟨rfl,by decide,isL_one hxp,#[s,xc,xp],rfl,?_⟩
   have bad:(amtB g.c && amtB g.p)=false→pfL g=(.zero,33):=fun h=>by
    have:finE g=33:=by rw [hmE,h];rfl
    unfold pfL;rw [this];rfl
   refine ⟨fun c=>?_,fun c=>?_⟩
   ·have c:(!amtB g.c)=false:=c
    have c:amtB g.c=true:=by simpa using c
    refine ⟨fun c2=>?_,fun c2=>?_⟩
    ·have c2:(!amtB g.p)=true:=c2
     have c2:amtB g.p=false:=by simpa using c2
     refine ⟨_,rfl,nil3_fits,?_⟩
     exact ⟨_,[],PfQ.bad (bad (by rw [c2,Bool.and_false])),⟨.inl rfl,.inl rfl,.inl rfl,rfl,.inr ⟨rfl,rfl,rfl⟩,.inr ⟨rfl,rfl,rfl⟩,.inr ⟨rfl,rfl,rfl⟩,trivial⟩,rfl⟩
    ·have c2:(!amtB g.p)=false:=c2
     have c2:amtB g.p=true:=by simpa using c2
     have hP:pfL g=(g,0):=by
      have:finE g=0:=by rw [hmE,c,c2];rfl
      unfold pfL;rw [this];rfl
     have Q:PfQ g (.slice ha g.h.length hcap) (.slice ca g.c.length ccap) vp day (.tuple #[.agg #[s,xc,xp],.int .i64 0]) [(9501,Blk.own (.slice ha g.h.length hcap) 136 2 (g.h).length (cat sumA (g.h))),(9504,Blk.own (.slice ca g.c.length ccap) 183 3 (g.c).length (cat sumK (g.c))),(9505,Blk.own vp 183 3 (g.p).length (cat sumK (g.p))),(9500,Blk.row 93 7 (LdA (.slice ha g.h.length hcap) (.slice ca g.c.length ccap) vp day)),(9506,Blk.own s 66 2 g.h.length (cat sumA g.h)),(9507,Blk.own xc 49 3 g.c.length (cat sumK g.c)),(9508,Blk.own xp 49 3 g.p.length (cat sumK g.p))]:=⟨s,xc,xp,by rw [hP];exact hs,by rw [hP];exact hxc,by rw [hP];exact hxp,by rw [hP],by rw [hP]⟩
     exact ⟨fits3 (isL_one hs) (isL_one hxc) (isL_one hxp),_,[],Q,⟨.inl rfl,.inl rfl,.inl rfl,rfl,.inl (own_eq (by rw [List.take_length])),.inl rfl,.inl rfl,trivial⟩,rfl⟩
   ·have c:(!amtB g.c)=true:=by simpa using c
    have c:amtB g.c=false:=by simpa using c
    refine ⟨fun _=>?_,nofun⟩
    refine ⟨_,rfl,nil3_fits,?_⟩
    exact ⟨_,[],PfQ.bad (bad (by rw [c,Bool.false_and])),⟨.inl rfl,.inl rfl,.inl rfl,rfl,.inr ⟨rfl,rfl,rfl⟩,.inr ⟨rfl,rfl,rfl⟩,.inr ⟨rfl,rfl,rfl⟩,trivial⟩,rfl⟩
theorem take_one {α:Type} {l:List α} {i:Nat} {x:α} (h:l[i]? = some x):l.take (i+1)=l.take i++[x]:=by
 rw [List.take_add_one,h];rfl
theorem S_list (l:List UInt8):(S l).toList=l:=by simp [S]
theorem lt_str {E:Env} (a b:List UInt8):Runs E (Op.stringOp .lss (S a) (S b)) (.bool (ltB a b)):=fun w _=>by
 have e:Op.bytesLess (S a).toList (S b).toList=ltB a b:=by rw [bytesLess_eq,S_list,S_list]
 rw [← e];rfl
theorem ge_str {E:Env} (a b:List UInt8):Runs E (Op.stringOp .geq (S a) (S b)) (.bool (!ltB a b)):=fun w _=>by
 have e:Op.bytesLess (S a).toList (S b).toList=ltB a b:=by rw [bytesLess_eq,S_list,S_list]
 rw [← e];rfl
theorem before_r (a b:Ky×Int):Pure Tryz.prog 100 [SV.c (.agg (sumK a)),SV.c (.agg (sumK b))] (.bool (ltK2 a.1 b.1)):=by
 refine sx_pure tt_ok mixed at100 _ _ rfl rfl fun w=>?_
 refine ⟨rfl,rfl,_,rfl,_,rfl,_,lt_str _ _,fun h1=>⟨_,rfl,_,rfl,fun h2=>⟨_,rfl,_,rfl,bv ?_,trivial⟩,fun h2=>⟨bv ?_,trivial⟩⟩,fun h1=>?_⟩
 ·have h1:ltB a.1.1 b.1.1=false:=h1
  have h2:a.1.1=b.1.1:=by have h2:=(S_beq _ _).symm.trans h2;simpa using h2
  unfold ltK2;rw [h1,h2,ltB_irr];rfl
 ·have h1:ltB a.1.1 b.1.1=false:=h1
  have h2:¬ a.1.1=b.1.1:=by have h2:=(S_beq _ _).symm.trans h2;simpa using h2
  unfold ltK2;rw [h1]
  by_cases c:ltB b.1.1 a.1.1=true
  ·rw [c];rfl
  ·exact absurd (ltB_tri _ _ h1 (by simpa using c)) h2
 ·have h1:ltB a.1.1 b.1.1=true:=h1
  refine ⟨bv ?_,trivial⟩
  unfold ltK2;rw [h1];rfl
theorem held_z {E:Env} (hE:E.P=Tryz.prog) {v vc vp:Value} {xs:List (Bs×Int)} {k:Bs} (hv:Lst E v 2 xs.length (cat sumA xs)) (hn:xs.length≤1000000000000):OwnC E 19 [SV.c (.agg #[v,vc,vp]),SV.c (.string (S k))] [] (fun x U=>x=.int .i64 (getA xs k)∧U=[]):=by
 refine sx_ownC [] tt_ok mixed at19 E hE [SV.c (.agg #[v,vc,vp]),SV.c (.string (S k))] [] _ rfl rfl fun w X β hT=>?_
 obtain ⟨a,cap,rfl,hc,h4⟩:=(hv.of_old hT).shape
 refine ⟨rfl,_,rfl,_,fun w' _=>run_len_sl Tryz.underlying37 w',?_⟩
 refine ⟨fun q f m=>∃ (i:Nat),q=xs.length - i∧i≤xs.length∧(∀ x∈xs.take i,x.1≠k)∧f=[(1,SV.c (.string (S k))),(8,SV.c (.slice a xs.length cap)),(9,SV.c (.int .i64 (xs.length:Nat))),(10,SV.c (.int .i64 (i:Nat)))]∧m=[],xs.length,⟨_,_,⟨0,rfl,by omega,fun x h=>by simp at h,rfl,rfl⟩,⟨rfl,rfl,rfl,rfl,trivial⟩,trivial,rfl⟩,?_⟩
 rintro q f m ⟨i,rfl,hi,hk,rfl,rfl⟩
 refine ⟨fun h=>?_,fun h=>?_⟩
 ·have h:i < xs.length:=by have:=of_decide_eq_true h;omega
  obtain ⟨b,o,rfl,h5⟩:=h4 (by omega)
  obtain ⟨y,hy⟩:∃ y,xs[i]? = some y:=⟨_,List.getElem?_eq_getElem h⟩
  have hE':VOk (envC Tryz.prog tt Tryz.f19.ntmps w X (tiedK [] β)):=tt_ok
  have L2:=lst_elem hE' h5 sumA_size hy (ty:=66) (ti:=ti66) rfl rfl rfl (p:=o+(i:Int).toNat*2) rfl
  refine ⟨by omega,by omega,.inl ⟨_,L2,sumA_fits y,_,rfl,fun c=>?_,fun c=>?_⟩⟩
  ·have c:y.1=k:=by have c:=(S_beq y.1 k).symm.trans c;simpa using c
   have e:getA xs k=y.2:=by
    have e1:xs=xs.take i++y :: xs.drop (i+1):=by rw [← drop_at hy,List.take_append_drop]
    rw [e1,getA_skip hk,← c];exact getA_hit (k:=y.1) (n:=y.2)
   exact ⟨_,rfl,[],[],⟨by rw [e];rfl,rfl⟩,trivial,rfl⟩
  ·have c:¬ y.1=k:=by have c:=(S_beq y.1 k).symm.trans c;simpa using c
   have hk':∀ x∈xs.take (i+1),x.1≠k:=fun x hx=>by
    rw [take_one hy] at hx
    rcases List.mem_append.1 hx with hx | hx
    ·exact hk x hx
    ·rw [List.mem_singleton.1 hx];exact c
   exact ⟨xs.length - (i+1),_,_,by omega,⟨i+1,rfl,by omega,hk',rfl,rfl⟩,⟨rfl,rfl,rfl,c_int (i64_succ (by omega)),trivial⟩,trivial,rfl⟩
 ·have h:i=xs.length:=by have:=of_decide_eq_false h;omega
  subst h
  rw [List.take_length] at hk
  exact ⟨[],[],⟨by rw [getA_none hk];rfl,rfl⟩,trivial,rfl⟩
theorem sumA_one (x:Bs×Int):(sumA x).all (·.oneCell')=true:=(sumA_fits x).one
theorem sumK_one (x:Ky×Int):(sumK x).all (·.oneCell')=true:=(sumK_fits x).one
structure SimG (r g:Led):Prop where
 h:Sim ltB r.h g.h
 c:Sim ltK2 r.c g.c
 p:Sim ltK2 r.p g.p
theorem SimG.zero:SimG .zero .zero:=⟨Sim.nil _,Sim.nil _,Sim.nil _⟩
def HOk (H:List (Bs×Int)):Prop:=(SrtA ltB H∧NzA H)∧HB H
theorem HOk.set {H:List (Bs×Int)} (h:HOk H) (k:Bs) {v:Int} (hv:0≤v∧v≤1000000000000000):HOk (setA ltB H k v) :=
 ⟨⟨(setA_upd ltB_ok h.1.1 k v).srt,setA_nz ltB_ok h.1.1 h.1.2 k v⟩,HB.set h.2 h.1.1 hv⟩
theorem HOk.hold {H H':List (Bs×Int)} (h:HOk H) {k:Bs} {n:Int} (e:holdL H k n=.ok H'):HOk H'∧H'=setA ltB H k (getA H k+n)∧0≤getA H k+n∧getA H k+n≤1000000000000000:=by
 unfold holdL at e
 split at e
 ·cases e
 ·split at e
  ·cases e
  ·cases e
   exact ⟨h.set k (by omega),rfl,by omega,by omega⟩
theorem pay_ok {f:List (Ky×Int)} (h:SrtA ltK2 f∧NzA f) (k:Ky) (n:Int):SrtA ltK2 (payL f k n)∧NzA (payL f k n) :=
 ⟨(setA_upd ltK2_ok h.1 k _).srt,setA_nz ltK2_ok h.1 h.2 k _⟩
theorem LedOk.hok {g:Led} (h:LedOk g):HOk g.h:=⟨h.h,h.b⟩
theorem settle_ok {day:Int} {g:Led} (h:LedOk g) (x:EC):LedOk (settleL day g x):=by
 unfold settleL
 split
 ·exact ⟨h.h,pay_ok h.c _ _,h.p,h.b⟩
 ·exact ⟨h.h,h.c,pay_ok h.p _ _,h.b⟩
theorem act_okL {g g':Led} (h:LedOk g) {a:AC} (e:actL g a=.ok g'):LedOk g'∧g'.h.length≤g.h.length+2∧g'.c.length≤g.c.length+1∧g'.p=g.p:=by
 unfold actL at e
 split at e
 ·cases e
 ·split at e
  ·cases e
  ·rename_i H hH
   cases e
   obtain ⟨h1,h2,-,-⟩:=(h.hok.set a.ins (v:=0) (by decide)).hold hH
   refine ⟨⟨h1.1,pay_ok h.c _ _,h.p,h1.2⟩,?_,setA_len _ _ _,rfl⟩
   show H.length≤_
   rw [h2]
   have l1:=setA_len (lt:=ltB) (setA ltB g.h a.ins 0) (applyA a (getA g.h a.ins)).1.ins (getA (setA ltB g.h a.ins 0) (applyA a (getA g.h a.ins)).1.ins+(applyA a (getA g.h a.ins)).1.qty)
   have l2:=setA_len (lt:=ltB) g.h a.ins 0
   omega
theorem settle_len (day:Int) (g:Led) (x:EC):(settleL day g x).c.length≤g.c.length+1∧(settleL day g x).p.length≤g.p.length+1:=by
 unfold settleL
 split
 ·exact ⟨setA_len _ _ _,by simp⟩
 ·exact ⟨by simp,setA_len _ _ _⟩
theorem ent_okL {day:Int} {g g':Led} (h:LedOk g) {x:EC} (e:entL day g x=.ok g'):LedOk g'∧g'.h.length≤g.h.length+1∧g'.c.length≤g.c.length+1∧g'.p.length≤g.p.length+1:=by
 have hs:=settle_ok (day:=day) h x
 have hl:=settle_len day g x
 unfold entL at e
 split at e
 ·cases e
  exact ⟨hs,by rw [settle_h];omega,hl.1,hl.2⟩
 ·split at e
  ·cases e
  ·rename_i H hH
   cases e
   obtain ⟨h1,h2,-,-⟩:=h.hok.hold hH
   refine ⟨⟨h1.1,hs.c,hs.p,h1.2⟩,?_,hl.1,hl.2⟩
   show H.length≤_
   rw [h2];exact setA_len _ _ _
structure EOk (x:EC):Prop where
 q : -1000000000000000≤x.qty∧x.qty≤1000000000000000
 m:w64 x.amt=x.amt
 d:0≤x.day∧x.day≤73048
 k:x.kind=1∨x.kind=2∨(x.kind=0∧x.qty=0)
theorem inB_iff {n lo hi:Int}:inB n lo hi=true↔lo≤n∧n≤hi:=by
 unfold inB
 rw [Bool.and_eq_true,decide_eq_true_eq,decide_eq_true_eq]
theorem EC.beq_nil {x:EC} {key:List UInt8} {known:Int} (h:x.beq (.nil key known)=true):x.kind=0∧x.day=0∧x.qty=0∧x.amt=0:=by
 unfold EC.beq EC.nil at h
 simp only [Bool.and_eq_true,beq_iff_eq] at h
 exact ⟨h.1,h.2.2.1,h.2.2.2.2.2.1,h.2.2.2.2.2.2.1⟩
theorem EOk.of {x:EC} (h:validE x=true):EOk x:=by
 unfold validE at h
 simp only [Bool.and_eq_true] at h
 obtain ⟨-,h⟩:=h
 split at h
 ·obtain ⟨h1,h2,h3,h4⟩:=EC.beq_nil h
  exact ⟨by omega,by rw [h4];rfl,by omega,.inr (.inr ⟨h1,h3⟩)⟩
 ·simp only [Bool.and_eq_true,bodyE,inB_iff,decide_eq_true_eq] at h
  obtain ⟨⟨h1,h2,h3,-⟩,h4⟩:=h
  have hm:w64 x.amt=x.amt:=w64_in (by omega)
  unfold kindE at h4
  split at h4
  ·rename_i hk
   simp only [Bool.and_eq_true,inB_iff] at h4
   exact ⟨h4.2.2,hm,by omega,.inl hk⟩
  ·split at h4
   ·rename_i hk
    simp only [Bool.and_eq_true,beq_iff_eq] at h4
    exact ⟨by omega,hm,by omega,.inr (.inl hk)⟩
   ·cases h4
def atP (xs:List EC) (al:List AC) (k day:Int):Led×Int :=
 if chkX xs≠0 then (.zero,chkX xs) else if chkA al≠0 then (.zero,chkA al) else if inB day 0 73048=false then (.zero,50) else finL (runL day .zero (opsL (visA al k) (visX xs k) day))
theorem visX_ok {xs:List EC} {k:Int}:∀ x∈visX xs k,x∈xs∧EOk x:=fun x hx=>by
 unfold visX at hx
 split at hx
 ·rename_i h
  obtain ⟨i,-,hi⟩:=List.mem_filterMap.1 hx
  have hm:=List.mem_of_getElem? hi
  refine ⟨hm,.of ?_⟩
  unfold chkX at h
  split at h
  ·rename_i h';exact List.all_eq_true.1 h' x hm
  ·cases h
 ·cases hx
theorem visA_mem {al:List AC} {k:Int}:∀ x∈visA al k,x∈al∧validA x=true:=fun x hx=>by
 unfold visA at hx
 split at hx
 ·rename_i h
  obtain ⟨i,-,hi⟩:=List.mem_filterMap.1 hx
  have hm:=List.mem_of_getElem? hi
  refine ⟨hm,?_⟩
  unfold chkA at h
  split at h
  ·rename_i h';exact List.all_eq_true.1 h' x hm
  ·cases h
 ·cases hx
/-! ### what is left of the two lists of the program -/
def restL (day:Int) (al:List AC) (xs:List EC):List Ev:=(mergeK dayO (al.map (Sum.inl:AC→Ev)) (xs.map (Sum.inr:EC→Ev))).filter fun o=>decide (dayO o≤day)
theorem srt_inl {al:List AC} (h:Srt AC.day al):Srt dayO (al.map (Sum.inl:AC→Ev)):=List.pairwise_map.2 h
theorem srt_inr {xs:List EC} (h:Srt EC.day xs):Srt dayO (xs.map (Sum.inr:EC→Ev)):=List.pairwise_map.2 h
theorem rest_end {day:Int} {al:List AC} {xs:List EC} (ha:Srt AC.day al) (hx:Srt EC.day xs) {o:Ev} {r:List Ev} (h:mergeK dayO (al.map (Sum.inl:AC→Ev)) (xs.map (Sum.inr:EC→Ev))=o :: r) (hd:day < dayO o):restL day al xs=[]:=by
 have hs:=merge_srt dayO (srt_inl ha) (srt_inr hx)
 unfold restL
 rw [h] at hs ⊢
 obtain ⟨h1,-⟩:=List.pairwise_cons.1 hs
 refine List.filter_eq_nil_iff.2 fun z hz=>?_
 simp only [decide_eq_true_eq]
 rcases List.mem_cons.1 hz with rfl | hz
 ·omega
 ·have:=h1 z hz;omega
theorem merge_a {a:AC} {al:List AC} {xs:List EC} (h:∀ x,xs[0]? = some x→a.day≤x.day):mergeK dayO ((a :: al).map (Sum.inl:AC→Ev)) (xs.map (Sum.inr:EC→Ev))=.inl a :: mergeK dayO (al.map (Sum.inl:AC→Ev)) (xs.map (Sum.inr:EC→Ev)):=by
 cases xs with
 | nil=>rw [List.map_nil,mergeK_nr,mergeK_nr];rfl
 | cons x r =>
  have:=h x rfl
  show mergeK dayO (.inl a :: _) (.inr x :: _)=_
  rw [mergeK_cons,if_pos (show dayO (.inl a)≤dayO (.inr x) from this)];rfl
theorem merge_x {x:EC} {al:List AC} {xs:List EC} (h:∀ a,al[0]? = some a→¬ a.day≤x.day):mergeK dayO (al.map (Sum.inl:AC→Ev)) ((x :: xs).map (Sum.inr:EC→Ev))=.inr x :: mergeK dayO (al.map (Sum.inl:AC→Ev)) (xs.map (Sum.inr:EC→Ev)):=by
 cases al with
 | nil=>rw [List.map_nil,mergeK_nl,mergeK_nl];rfl
 | cons a r =>
  have:=h a rfl
  show mergeK dayO (.inl a :: _) (.inr x :: _)=_
  rw [mergeK_cons,if_neg (show ¬ dayO (.inl a)≤dayO (.inr x) from this)];rfl
theorem rest_a {day:Int} {a:AC} {al:List AC} {xs:List EC} (h:∀ x,xs[0]? = some x→a.day≤x.day) (hd:a.day≤day):restL day (a :: al) xs=.inl a :: restL day al xs:=by
 unfold restL
 rw [merge_a h,List.filter_cons,if_pos (decide_eq_true (show dayO (.inl a)≤day from hd))]
theorem rest_x {day:Int} {x:EC} {al:List AC} {xs:List EC} (h:∀ a,al[0]? = some a→¬ a.day≤x.day) (hd:x.day≤day):restL day al (x :: xs)=.inr x :: restL day al xs:=by
 unfold restL
 rw [merge_x h,List.filter_cons,if_pos (decide_eq_true (show dayO (.inr x)≤day from hd))]
theorem rest_nil (day:Int):restL day [] []=[]:=by
 unfold restL
 rw [List.map_nil,List.map_nil,mergeK_nl]
 rfl
theorem rest_all (al:List AC) (xs:List EC) (day:Int):restL day (stabK AC.day al) (stabK EC.day xs)=opsL al xs day:=(ops_merge al xs day).symm
def CapU (U:MemL):Prop:=∀ d v e sz n A,getM U d=some (Blk.own v e sz n A)→∃ a c,v=.slice a n c∧n≤c
theorem OwnC.caps {E:Env} {f:FuncId} {vs:List SV} {pre:MemL} {Q:Value→MemL→Prop} (h:OwnC E f vs pre Q):OwnC E f vs pre (fun r U=>Q r U∧CapU U) :=
 ⟨h.1,fun ρ w xs h1 h2=>(h.2 ρ w xs h1 h2).mono fun _e w' ⟨x,U,h3,h4,h5,h6⟩=>⟨x,U,h3,⟨h4,fun d v e sz n A hd=>by
  have h7:w'.ownsRow 0 e sz v n A.toList:=(h5.loose d _ hd rfl).2
  rcases h7.2 with ⟨h0,hn⟩ | ⟨g',cap',cur,hv,hb,hg,hnc,hcm,hcs,htake⟩
  ·exact ⟨none,0,by rw [h0,hn],by omega⟩
  ·exact ⟨_,cap',hv,hnc⟩⟩,h5,h6⟩⟩
def TailS (x:Value) (sz n i:Nat) (v:Value):Prop:=i≤n∧∃ a c,v=.slice a (n - i) c∧n - i≤c∧(i < n→∃ g c0,x=.slice (some ⟨g,0,none⟩) n c0∧a=some ⟨g,i*sz,none⟩)
theorem TailS.start {x:Value} {sz n:Nat} (h:IsL x n) (hc:∃ a c,x=.slice a n c∧n≤c):TailS x sz n 0 x:=by
 obtain ⟨a,c,rfl,hn⟩:=hc
 refine ⟨by omega,a,c,rfl,by omega,fun h0=>?_⟩
 rcases h with ⟨h1,h2⟩ | ⟨g,c0,h1⟩
 ·omega
 ·cases h1
  exact ⟨g,c,rfl,by rw [Nat.zero_mul]⟩
theorem TailS.next {x:Value} {sz n i c m:Nat} {a:Option Addr} (hz:sz≠0) (h:TailS x sz n i (.slice a m c)) (hi:i < n):TailS x sz n (i+1) (.slice (if c=1 then a else a.map (·.add (1*sz))) (m - 1) (c - 1)):=by
 obtain ⟨h1,a',c',h2,h3,h4⟩:=h
 cases h2
 refine ⟨by omega,_,_,rfl,by omega,fun h5=>?_⟩
 obtain ⟨g,c0,h6,rfl⟩:=h4 hi
 refine ⟨g,c0,h6,?_⟩
 rw [if_neg (by omega)]
 show some (Addr.add ⟨g,i*sz,none⟩ (1*sz))=_
 simp only [Addr.add,Nat.succ_mul,Nat.zero_mul,Nat.zero_add,if_neg hz]
theorem TailS.len {x v:Value} {sz n i:Nat} (h:TailS x sz n i v):∃ a c,v=.slice a (n - i) c:=by
 obtain ⟨-,a,c,h,-⟩:=h
 exact ⟨a,c,h⟩
theorem TailS.at {x v:Value} {sz n i:Nat} (h:TailS x sz n i v) (hi:i < n):∃ g c0 c,x=.slice (some ⟨g,0,none⟩) n c0∧v=.slice (some ⟨g,i*sz,none⟩) (n - i) c:=by
 obtain ⟨-,a,c,rfl,-,h4⟩:=h
 obtain ⟨g,c0,h5,rfl⟩:=h4 hi
 exact ⟨g,c0,c,h5,rfl⟩
theorem elem_is18 {P:Program} {t e:TypeId} (hu:P.underlying t=some (.slice e)):P.elem t=e:=by simp [Program.elem,hu]
theorem runs_lo18 {E:VE} (hE:VOk E) {t e:TypeId} (hu:E.P.underlying t=some (.slice e)) {j:TI} (hj:E.tt e=some j) {a:Option Addr} {n cap:Nat} {k:IntKind} {x:Int} (i:Nat) (hx:x=i) (hi:i≤n):Runs E.toEnv (Instr.sliceAt t (.slice a n cap) (some (.int k x)) none none) (.slice (if cap=i then a else a.map (·.add (i*j.size))) (n - i) (cap - i)):=fun w _=>by
 subst hx
 have he:=elem_is18 hu
 have hu2:E.P.underlying t=some (.slice (E.P.elem t)):=by rw [he];exact hu
 rw [run_sliceAt_slice _ t _ _ _ _ hu2,run_slice_l _ t a n cap hu2 k i (by omega) (by omega),he,Go.SX.run_sizeOf (hE _ j hj)]
 simp only [Result.andThen_ok,sliced,Int.toNat_natCast]
def AtQ (R:Led×Int) (r:Value) (U:MemL):Prop:=∃ xh xc xp,IsL xh R.1.h.length∧IsL xc R.1.c.length∧IsL xp R.1.p.length∧r=.tuple #[.agg #[xh,xc,xp],.int .i64 R.2]∧U=[(9506,Blk.own xh 66 2 R.1.h.length (cat sumA R.1.h)),(9507,Blk.own xc 49 3 R.1.c.length (cat sumK R.1.c)),(9508,Blk.own xp 49 3 R.1.p.length (cat sumK R.1.p))]
theorem AtQ.bad (e:Int):AtQ (.zero,e) (.tuple #[.agg #[.slice none 0 0,.slice none 0 0,.slice none 0 0],.int .i64 e]) [(9506,Blk.own (.slice none 0 0) 66 2 0 #[]),(9507,Blk.own (.slice none 0 0) 49 3 0 #[]),(9508,Blk.own (.slice none 0 0) 49 3 0 #[])] :=
 ⟨.slice none 0 0,.slice none 0 0,.slice none 0 0,.nil,.nil,.nil,rfl,rfl⟩
theorem day_ok {a:AC} (h:validA a=true):0≤a.day∧a.day≤73048:=by
 unfold validA at h
 simp only [Bool.and_eq_true] at h
 obtain ⟨-,h⟩:=h
 split at h
 ·unfold AC.beq AC.nil at h
  simp only [Bool.and_eq_true,beq_iff_eq] at h
  have:=h.2.2.2.2.1
  omega
 ·simp only [Bool.and_eq_true,bodyOk,Bool.not_eq_true',decide_eq_false_iff_not] at h
  omega
theorem visX_len {xs:List EC} {k:Int} (h:chkX xs=0):(visX xs k).length≤4096:=by
 unfold visX
 rw [if_pos h,fm_lenE fun i hi=>visNE_mem hi]
 have h1:=visNE_len xs k
 have h2:=(chkX_zero h).2
 omega
theorem visA_len {al:List AC} {k:Int} (h:chkA al=0):(visA al k).length≤4096:=by
 unfold visA
 rw [if_pos h,fm_len fun i hi=>visN_mem hi]
 have h1:=visN_len al k
 have h2:=(chkA_zero h).2
 omega
theorem offA0 (i:Nat):offAt (i*76) 0 ti61.size=i*76:=by
 show offAt (i*76) 0 76=i*76
 simp [offAt]
theorem offX0 (i:Nat):offAt (i*10) 0 ti31.size=i*10:=by
 show offAt (i*10) 0 10=i*10
 simp [offAt]
theorem at_z {E:Env} (hE:E.P=Tryz.prog) {ve va:Value} {xs:List EC} {al:List AC} {k day:Int} (hv:Lst E ve 10 xs.length (cat EC.A xs)) (hva:Lst E va 76 al.length (cat AC.A al)) (hn:xs.length≤2000000000000) (hm:al.length≤1000000000000) (hin:∀ y∈xs,y.In) (hina:∀ y∈al,y.In):OwnC E 17 [SV.c ve,SV.c va,SV.c (.int .i64 k),SV.c (.int .i64 day)] [] (AtQ (atP xs al k day)):=by
 refine sx_ownC [21,23] tt_ok mixed at17 E hE [SV.c ve,SV.c va,SV.c (.int .i64 k),SV.c (.int .i64 day)] [] _ rfl rfl fun w X β hT=>?_
 have hv':=hv.of_old hT
 have hva':=hva.of_old hT
 have C1:=OwnC.caps (vis_e (E:=(envC Tryz.prog tt Tryz.f17.ntmps w X (tiedK [] β) [21,23]).toEnv) (k:=k) rfl hv' hn hin)
 have C2:=OwnC.caps (vis_za (E:=(envC Tryz.prog tt Tryz.f17.ntmps w X (tiedK [] β) [21,23]).toEnv) (k:=k) rfl hva' hm hina)
 refine .inr (.inr (.inr ⟨[],[3000],[_,_],[],_,C1,rfl,trivial,rfl,trivial,?_⟩))
 rintro r U ⟨⟨sx,nx,hsx,rfl,hx,rfl⟩,hcx⟩
 refine ⟨rfl,?_⟩
 have bad:∀ e:Int,atP xs al k day=(.zero,e)→AtQ (atP xs al k day) (.tuple #[.agg #[.slice none 0 0,.slice none 0 0,.slice none 0 0],.int .i64 e]) [(9506,Blk.own (.slice none 0 0) 66 2 0 #[]),(9507,Blk.own (.slice none 0 0) 49 3 0 #[]),(9508,Blk.own (.slice none 0 0) 49 3 0 #[])]:=fun e h=>by
  rw [h];exact AtQ.bad e
 refine ⟨fun h=>?_,fun h=>?_⟩
 ·have h:(chkX xs != 0)=true:=h
  have h:chkX xs≠0:=by simpa using h
  have hP:atP xs al k day=(.zero,chkX xs):=by unfold atP;rw [if_pos h]
  refine ⟨_,rfl,nil3_fits,?_⟩
  exact ⟨_,[],bad _ hP,⟨.inr ⟨rfl,rfl,rfl⟩,.inr ⟨rfl,rfl,rfl⟩,.inr ⟨rfl,rfl,rfl⟩,trivial⟩,rfl⟩
 have h:(chkX xs != 0)=false:=h
 have hX:chkX xs=0:=by simpa using h
 refine .inr (.inr (.inr ⟨[(3000,3001)],[3001],[_,_],[],_,C2,rfl,trivial,rfl,trivial,?_⟩))
 rintro r U ⟨⟨sa,na,hsa,rfl,ha,rfl⟩,hca⟩
 refine ⟨rfl,?_⟩
 refine ⟨fun h=>?_,fun h=>?_⟩
 ·have h:(chkA al != 0)=true:=h
  have h:chkA al≠0:=by simpa using h
  have hP:atP xs al k day=(.zero,chkA al):=by unfold atP;rw [if_neg (fun h=>h hX),if_pos h]
  refine ⟨_,rfl,nil3_fits,?_⟩
  exact ⟨_,[],bad _ hP,⟨.inr ⟨rfl,rfl,rfl⟩,.inr ⟨rfl,rfl,rfl⟩,.inr ⟨rfl,rfl,rfl⟩,trivial⟩,rfl⟩
 have h:(chkA al != 0)=false:=h
 have hA:chkA al=0:=by simpa using h
 refine .inl ⟨_,within_p day 0 73048,fun h=>?_,fun h=>?_⟩
 ·have h:(!(inB day 0 73048))=true:=h
  have h:inB day 0 73048=false:=by simpa using h
  have hP:atP xs al k day=(.zero,50):=by unfold atP;rw [if_neg (fun h=>h hX),if_neg (fun h=>h hA),if_pos h]
  refine ⟨_,rfl,nil3_fits,?_⟩
  exact ⟨_,[],bad _ hP,⟨.inr ⟨rfl,rfl,rfl⟩,.inr ⟨rfl,rfl,rfl⟩,.inr ⟨rfl,rfl,rfl⟩,trivial⟩,rfl⟩
 have h:(!(inB day 0 73048))=false:=h
 have hD:inB day 0 73048=true:=by simpa using h
 have hP:atP xs al k day=finL (runL day .zero (opsL (visA al k) (visX xs k) day)):=by unfold atP;rw [if_neg (fun h=>h hX),if_neg (fun h=>h hA),if_neg (by rw [hD];decide)]
 have dX:dayIne (visX xs k):=fun z hz=>(visX_ok z hz).2.d
 have dA:dayIna (visA al k):=fun z hz=>day_ok (visA_mem z hz).2
 have nX:nx≤4096:=by rw [hsx];exact visX_len hX
 have nA:na≤4096:=by rw [hsa];exact visA_len hA
 have hcx:=hcx 3000 _ _ _ _ _ rfl
 have hca:=hca 3000 _ _ _ _ _ rfl
 have S1:=sortS_e (E:=(envC Tryz.prog tt Tryz.f17.ntmps w X (tiedK [] β) [21,23]).toEnv) rfl hx hsx (by omega) dX
 have S2:=sortS_a (E:=(envC Tryz.prog tt Tryz.f17.ntmps w X (tiedK [] β) [21,23]).toEnv) rfl ha hsa (by omega) dA
 refine .inr (.inr (.inl ⟨[(6000,3000)],[_,_],[_],_,[_],S1,rfl,⟨.inl rfl,trivial⟩,rfl,rfl,?_⟩))
 refine .inr (.inr (.inl ⟨[(6000,3001)],[_,_],[_],_,[_],S2,rfl,⟨.inl rfl,trivial⟩,rfl,rfl,?_⟩))
 refine ⟨#[fnW 43,.slice none 0 0],rfl,#[fnW 44,.slice none 0 0],rfl,#[fnW 44,.slice none 0 0],rfl,LdA (.slice none 0 0) (.slice none 0 0) (.slice none 0 0) day,rfl,?_⟩
 have sA:Srt AC.day (stabK AC.day (visA al k)):=(stabK_stab AC.day _).srt
 have sX:Srt EC.day (stabK EC.day (visX xs k)):=(stabK_stab EC.day _).srt
 have lA:(stabK AC.day (visA al k)).length=na:=by rw [(stabK_stab AC.day _).len];exact hsa.symm
 have lX:(stabK EC.day (visX xs k)).length=nx:=by rw [(stabK_stab EC.day _).len];exact hsx.symm
 have mA:∀ a∈stabK AC.day (visA al k),a.In:=fun a h=>hina a (visA_mem a ((stabK_stab AC.day _).perm.mem_iff.1 h)).1
 have mX:∀ x∈stabK EC.day (visX xs k),EOk x:=fun x h=>(visX_ok x ((stabK_stab EC.day _).perm.mem_iff.1 h)).2
 rw [← rest_all] at hP
 generalize stabK AC.day (visA al k)=A at sA lA mA hP ⊢
 generalize stabK EC.day (visX xs k)=B at sX lX mX hP ⊢
 refine ⟨rfl,fun f m=>∃ (g:Led) (vh vc vp:Value),IsL vh g.h.length∧IsL vc g.c.length∧IsL vp g.p.length∧(g.h.length≤16384∧g.c.length≤8192∧g.p.length≤8192)∧atP xs al k day=pfL g∧f=[(8,SV.ptr 8 0),(13,SV.ptr 48 0)]∧m=[(8,Blk.row 40 3 #[.slice none 0 0,.slice none 0 0,.slice none 0 0]),(48,Blk.row 93 7 (LdA vh vc vp day)),(9501,Blk.own vh 136 2 (g.h).length (cat sumA g.h)),(9504,Blk.own vc 183 3 (g.c).length (cat sumK g.c)),(9505,Blk.own vp 183 3 (g.p).length (cat sumK g.p))],?_,?_⟩
 rotate_left
 ·rintro f1 m1 ⟨g,vh,vc,vp,hh,hc,hp,hl,hF,rfl,rfl⟩
  have PO:=portfolio_z (E:=(envC Tryz.prog tt Tryz.f17.ntmps w X (tiedK [] β) [21,23]).toEnv) (day:=day) rfl hh hc hp (by omega)
  refine .inr (.inr (.inr ⟨[(9500,48)],[9506,9507,9508],[_],[_,_,_,_],_,PO,rfl,⟨.inl rfl,.inl rfl,.inl rfl,rfl,trivial⟩,rfl,trivial,?_⟩))
  rintro r U ⟨xh,xc,xp,q1,q2,q3,rfl,rfl⟩
  refine ⟨by kernel_rfl,?_⟩
  have Q:AtQ (atP xs al k day) (.tuple #[.agg #[xh,xc,xp],.int .i64 (pfL g).2]) [(9506,Blk.own xh 66 2 (pfL g).1.h.length (cat sumA (pfL g).1.h)),(9507,Blk.own xc 49 3 (pfL g).1.c.length (cat sumK (pfL g).1.c)),(9508,Blk.own xp 49 3 (pfL g).1.p.length (cat sumK (pfL g).1.p))]:=by
   rw [hF];exact ⟨xh,xc,xp,q1,q2,q3,rfl,rfl⟩
  exact ⟨fits3 (isL_one q1) (isL_one q2) (isL_one q3),_,[],Q,⟨.inl rfl,.inl rfl,.inl rfl,trivial⟩,rfl⟩
 refine ⟨fun q f m=>∃ (i j:Nat) (va' vx':Value) (g:Led) (vh vc vp:Value),q=(na - i)+(nx - j)∧TailS sa 76 na i va'∧TailS sx 10 nx j vx'∧LedOk g∧IsL vh g.h.length∧IsL vc g.c.length∧IsL vp g.p.length∧(g.h.length≤2*(i+j)∧g.c.length≤i+j∧g.p.length≤i+j)∧runL day .zero (restL day A B)=runL day g (restL day (A.drop i) (B.drop j))∧f=[(3,SV.c (.int .i64 day)),(8,SV.ptr 8 0),(10,SV.c vx'),(12,SV.c va'),(13,SV.ptr 48 0)]∧m=[(8,Blk.row 40 3 #[.slice none 0 0,.slice none 0 0,.slice none 0 0]),(3000,Blk.own sx 31 10 nx (cat EC.A B)),(3001,Blk.own sa 61 76 na (cat AC.A A)),(48,Blk.row 93 7 (LdA vh vc vp day)),(9501,Blk.own vh 136 2 (g.h).length (cat sumA g.h)),(9504,Blk.own vc 183 3 (g.c).length (cat sumK g.c)),(9505,Blk.own vp 183 3 (g.p).length (cat sumK g.p))],na+nx,⟨_,_,⟨0,0,sa,sx,.zero,.slice none 0 0,.slice none 0 0,.slice none 0 0,by omega,.start ha hca,.start hx hcx,.zero,.nil,.nil,.nil,⟨by decide,by decide,by decide⟩,rfl,rfl,rfl⟩,⟨rfl,rfl,rfl,rfl,rfl,trivial⟩,⟨rfl,.inl rfl,.inl rfl,rfl,.inr ⟨rfl,rfl,rfl⟩,.inr ⟨rfl,rfl,rfl⟩,.inr ⟨rfl,rfl,rfl⟩,trivial⟩,rfl⟩,?_⟩
 rintro q f m ⟨i,j,va',vx',g,vh,vc,vp,rfl,ta,tx,hg,hh,hc,hp,hl,hR,rfl,rfl⟩
 obtain ⟨aa,ac,rfl⟩:=ta.len
 obtain ⟨xa,xc,rfl⟩:=tx.len
 refine ⟨_,fun w' _=>run_len_sl Tryz.underlying51 w',?_⟩
 refine ⟨fun c=>?_,fun c=>?_⟩
 ·have ci:i=na:=by have:=of_decide_eq_false (show decide (((na - i:Nat):Int) > 0)=false from c);have:=ta.1;omega
  refine ⟨_,fun w' _=>run_len_sl Tryz.underlying26 w',?_⟩
  refine ⟨fun c1=>?_,fun c1=>?_⟩
  ·have cj:j < nx:=by have:=of_decide_eq_true (show decide (((nx - j:Nat):Int) > 0)=true from c1);omega
   refine ⟨fun f m=>∃ (i2 j2:Nat) (va2 vx2:Value) (g2:Led) (wh wc wp:Value) (e:Int),i2+j2=i+j+1∧TailS sa 76 na i2 va2∧TailS sx 10 nx j2 vx2∧IsL wh g2.h.length∧IsL wc g2.c.length∧IsL wp g2.p.length∧((e≠0∧runL day g (restL day (A.drop i) (B.drop j))=.error e)∨(e=0∧LedOk g2∧(g2.h.length≤2*(i2+j2)∧g2.c.length≤i2+j2∧g2.p.length≤i2+j2)∧runL day g (restL day (A.drop i) (B.drop j))=runL day g2 (restL day (A.drop i2) (B.drop j2))))∧f=[(3,SV.c (.int .i64 day)),(8,SV.ptr 8 0),(10,SV.c vx2),(12,SV.c va2),(13,SV.ptr 48 0),(14,SV.c (.int .i64 e))]∧m=[(8,Blk.row 40 3 #[.slice none 0 0,.slice none 0 0,.slice none 0 0]),(3000,Blk.own sx 31 10 nx (cat EC.A B)),(3001,Blk.own sa 61 76 na (cat AC.A A)),(48,Blk.row 93 7 (LdA wh wc wp day)),(9501,Blk.own wh 136 2 (g2.h).length (cat sumA g2.h)),(9504,Blk.own wc 183 3 (g2.c).length (cat sumK g2.c)),(9505,Blk.own wp 183 3 (g2.p).length (cat sumK g2.p))],?_,?_⟩
   rotate_left
   ·rintro f1 m1 ⟨i2,j2,va2,vx2,g2,wh,wc,wp,e,hij,ta2,tx2,hh2,hc2,hp2,hE2,rfl,rfl⟩
    refine ⟨fun c=>?_,fun c=>?_⟩
    ·have c:(e != 0)=true:=c
     have c:e≠0:=by simpa using c
     rcases hE2 with ⟨-,hE2⟩ | ⟨hE2,-⟩
     ·refine ⟨_,rfl,nil3_fits,?_⟩
      exact ⟨_,[],bad e (by rw [hP,hR,hE2];rfl),⟨.inr ⟨rfl,rfl,rfl⟩,.inr ⟨rfl,rfl,rfl⟩,.inr ⟨rfl,rfl,rfl⟩,trivial⟩,rfl⟩
     ·exact absurd hE2 c
    ·have c:(e != 0)=false:=c
     have c:e=0:=by simpa using c
     rcases hE2 with ⟨hE2,-⟩ | ⟨-,hg2,hl2,hE2⟩
     ·exact absurd c hE2
     ·have t1:=ta2.1
      have t2:=tx2.1
      have t3:=ta.1
      have t4:=tx.1
      exact ⟨(na - i2)+(nx - j2),_,_,by omega,⟨i2,j2,va2,vx2,g2,wh,wc,wp,rfl,ta2,tx2,hg2,hh2,hc2,hp2,hl2,by rw [hR,hE2],rfl,rfl⟩,⟨rfl,rfl,rfl,rfl,rfl,trivial⟩,⟨rfl,.inl rfl,.inl rfl,rfl,.inl rfl,.inl rfl,.inl rfl,trivial⟩,rfl⟩
   obtain ⟨x,hx0⟩:∃ x,B[j]? = some x:=⟨_,List.getElem?_eq_getElem (show j < B.length by omega)⟩
   obtain ⟨gX,cX0,cX1,rfl,hvx2⟩:=tx.at cj
   cases hvx2
   have hdx:=drop_at hx0
   have LX:(cat EC.A B)[j*10+2]? = some (.int .i64 x.day):=(cat_get EC.size B j x 2 hx0 (by decide)).trans x.g2
   have hhead:∀ z,(A.drop i)[0]? = some z→¬ z.day≤x.day:=fun z hz=>by rw [List.drop_eq_nil_of_le (by omega)] at hz;cases hz
   refine ⟨_,fun w' _=>run_len_sl Tryz.underlying26 w',?_⟩
   refine ⟨fun _=>?_,fun c3=>absurd c3 (by simp only [beq_iff_eq,Bool.not_false];omega)⟩
   refine ⟨_,fun w' _=>run_len_sl Tryz.underlying51 w',?_⟩
   refine ⟨fun c4=>absurd c4 (by rw [decide_eq_false (by omega)];decide),fun _=>?_⟩
   refine ⟨by kernel_rfl,nofun,fun _=>?_⟩
   refine ⟨by omega,by omega,.inr ⟨3000,gX,_,nx,cX0,_,_,_,rfl,rfl,_,(by rw [offX0];exact LX),?_⟩⟩
   refine ⟨fun c2=>?_,fun c2=>?_⟩
   ·have c2:day < x.day:=of_decide_eq_true c2
    have hE3:restL day (A.drop i) (B.drop j)=[]:=by
     rw [hdx];exact rest_end sA.drop (by rw [← hdx];exact sX.drop) (merge_x hhead) c2
    exact ⟨_,_,⟨g,vh,vc,vp,hh,hc,hp,by omega,by rw [hP,hR,hE3];rfl,rfl,rfl⟩,⟨rfl,rfl,trivial⟩,⟨rfl,rfl,.inl rfl,.inl rfl,.inl rfl,trivial⟩,rfl⟩
   ·have c2:¬ day < x.day:=of_decide_eq_false c2
    have hE3:restL day (A.drop i) (B.drop j)=.inr x :: restL day (A.drop i) (B.drop (j+1)):=by
     rw [hdx];exact rest_x hhead (by omega)
    have AO:=enter_z (E:=(envC Tryz.prog tt Tryz.f17.ntmps w X (tiedK [] β) [21,23]).toEnv) (day:=day) rfl hg hh hc hp (by omega) (mX x (List.mem_of_getElem? hx0)).q
    have EA:=cat_extract EC.size hx0
    have hszX:(cat EC.A B).size=nx*10:=by rw [Go.SX.cat_size EC.size,lX]
    generalize x.A=AA at AO EA
    refine ⟨by omega,by omega,.inr ⟨3000,gX,_,nx,cX0,_,_,_,rfl,rfl,(by rw [offX0,hszX];show j*10+10≤nx*10;omega),AA,(by rw [offX0];exact EA),?_⟩⟩
    refine .inr (.inr (.inr ⟨[(9500,48)],[],[_,_],[_,_,_,_],_,AO,rfl,⟨.inl rfl,.inl rfl,.inl rfl,rfl,trivial⟩,by kernel_rfl,trivial,?_⟩))
    rintro r U ⟨g2,wh,wc,wp,k1,k2,k3,rfl,hM⟩
    refine ⟨by kernel_rfl,_,runs_lo18 (E:=(envC Tryz.prog tt Tryz.f17.ntmps w X (tiedK [] β) [21,23])) tt_ok Tryz.underlying26 (j:=ti31) rfl 1 rfl (by omega),?_⟩
    have hrun:runL day g (restL day (A.drop i) (B.drop j))=match entL day g x with
     | .error e=>.error e
     | .ok g'=>runL day g' (restL day (A.drop i) (B.drop (j+1))):=by rw [hE3];rfl
    have tn:=tx.next (by decide) cj
    cases hS:entL day g x with
    | error e =>
     rw [hS] at hM hrun
     obtain ⟨rfl,he⟩:=hM
     exact ⟨_,_,⟨i,j+1,_,_,g2,wh,wc,wp,e,by omega,ta,tn,k1,k2,k3,.inl ⟨he,hrun⟩,rfl,rfl⟩,⟨rfl,rfl,rfl,rfl,rfl,rfl,trivial⟩,⟨rfl,.inl rfl,.inl rfl,rfl,.inl rfl,.inl rfl,.inl rfl,trivial⟩,rfl⟩
    | ok g' =>
     rw [hS] at hM hrun
     obtain ⟨rfl,rfl⟩:=hM
     obtain ⟨s1,s2,s3,s4⟩:=ent_okL hg hS
     exact ⟨_,_,⟨i,j+1,_,_,g2,wh,wc,wp,0,by omega,ta,tn,k1,k2,k3,.inr ⟨rfl,s1,⟨by omega,by omega,by omega⟩,hrun⟩,rfl,rfl⟩,⟨rfl,rfl,rfl,rfl,rfl,rfl,trivial⟩,⟨rfl,.inl rfl,.inl rfl,rfl,.inl rfl,.inl rfl,.inl rfl,trivial⟩,rfl⟩
  ·have cj:j=nx:=by have:=of_decide_eq_false (show decide (((nx - j:Nat):Int) > 0)=false from c1);have:=tx.1;omega
   have hE3:restL day (A.drop i) (B.drop j)=[]:=by
    rw [List.drop_eq_nil_of_le (by omega),List.drop_eq_nil_of_le (by omega)];exact rest_nil day
   exact ⟨_,_,⟨g,vh,vc,vp,hh,hc,hp,by omega,by rw [hP,hR,hE3];rfl,rfl,rfl⟩,⟨rfl,rfl,trivial⟩,⟨rfl,rfl,.inl rfl,.inl rfl,.inl rfl,trivial⟩,rfl⟩
 ·have ci:i < na:=by have:=of_decide_eq_true (show decide (((na - i:Nat):Int) > 0)=true from c);omega
  refine ⟨fun _=>?_,nofun⟩
  refine ⟨fun f m=>∃ (i2 j2:Nat) (va2 vx2:Value) (g2:Led) (wh wc wp:Value) (e:Int),i2+j2=i+j+1∧TailS sa 76 na i2 va2∧TailS sx 10 nx j2 vx2∧IsL wh g2.h.length∧IsL wc g2.c.length∧IsL wp g2.p.length∧((e≠0∧runL day g (restL day (A.drop i) (B.drop j))=.error e)∨(e=0∧LedOk g2∧(g2.h.length≤2*(i2+j2)∧g2.c.length≤i2+j2∧g2.p.length≤i2+j2)∧runL day g (restL day (A.drop i) (B.drop j))=runL day g2 (restL day (A.drop i2) (B.drop j2))))∧f=[(3,SV.c (.int .i64 day)),(8,SV.ptr 8 0),(10,SV.c vx2),(12,SV.c va2),(13,SV.ptr 48 0),(14,SV.c (.int .i64 e))]∧m=[(8,Blk.row 40 3 #[.slice none 0 0,.slice none 0 0,.slice none 0 0]),(3000,Blk.own sx 31 10 nx (cat EC.A B)),(3001,Blk.own sa 61 76 na (cat AC.A A)),(48,Blk.row 93 7 (LdA wh wc wp day)),(9501,Blk.own wh 136 2 (g2.h).length (cat sumA g2.h)),(9504,Blk.own wc 183 3 (g2.c).length (cat sumK g2.c)),(9505,Blk.own wp 183 3 (g2.p).length (cat sumK g2.p))],?_,?_⟩
  rotate_left
  ·rintro f1 m1 ⟨i2,j2,va2,vx2,g2,wh,wc,wp,e,hij,ta2,tx2,hh2,hc2,hp2,hE2,rfl,rfl⟩
   refine ⟨fun c=>?_,fun c=>?_⟩
   ·have c:(e != 0)=true:=c
    have c:e≠0:=by simpa using c
    rcases hE2 with ⟨-,hE2⟩ | ⟨hE2,-⟩
    ·refine ⟨_,rfl,nil3_fits,?_⟩
     exact ⟨_,[],bad e (by rw [hP,hR,hE2];rfl),⟨.inr ⟨rfl,rfl,rfl⟩,.inr ⟨rfl,rfl,rfl⟩,.inr ⟨rfl,rfl,rfl⟩,trivial⟩,rfl⟩
    ·exact absurd hE2 c
   ·have c:(e != 0)=false:=c
    have c:e=0:=by simpa using c
    rcases hE2 with ⟨hE2,-⟩ | ⟨-,hg2,hl2,hE2⟩
    ·exact absurd c hE2
    ·have t1:=ta2.1
     have t2:=tx2.1
     have t3:=ta.1
     have t4:=tx.1
     exact ⟨(na - i2)+(nx - j2),_,_,by omega,⟨i2,j2,va2,vx2,g2,wh,wc,wp,rfl,ta2,tx2,hg2,hh2,hc2,hp2,hl2,by rw [hR,hE2],rfl,rfl⟩,⟨rfl,rfl,rfl,rfl,rfl,trivial⟩,⟨rfl,.inl rfl,.inl rfl,rfl,.inl rfl,.inl rfl,.inl rfl,trivial⟩,rfl⟩
  refine ⟨_,fun w' _=>run_len_sl Tryz.underlying26 w',?_⟩
  obtain ⟨a,ha0⟩:∃ a,A[i]? = some a:=⟨_,List.getElem?_eq_getElem (show i < A.length by omega)⟩
  obtain ⟨gA,cA0,cA1,rfl,hva2⟩:=ta.at ci
  cases hva2
  have hda:=drop_at ha0
  refine ⟨fun c=>?_,fun c=>?_⟩
  ·have cj:j < nx:=by have c:((((nx - j:Nat):Int)) == 0)=false:=c;simp only [beq_eq_false_iff_ne] at c;omega
   obtain ⟨x,hx0⟩:∃ x,B[j]? = some x:=⟨_,List.getElem?_eq_getElem (show j < B.length by omega)⟩
   obtain ⟨gX,cX0,cX1,rfl,hvx2⟩:=tx.at cj
   cases hvx2
   have hdx:=drop_at hx0
   refine ⟨_,fun w' _=>run_len_sl Tryz.underlying51 w',fun _=>?_,fun c=>absurd c (by rw [decide_eq_true (by omega)];decide)⟩
   have LA:(cat AC.A A)[i*76+4]? = some (.int .i64 a.day):=(cat_get AC.size A i a 4 ha0 (by decide)).trans a.g4
   have LX:(cat EC.A B)[j*10+2]? = some (.int .i64 x.day):=(cat_get EC.size B j x 2 hx0 (by decide)).trans x.g2
   refine ⟨by omega,by omega,.inr ⟨3001,gA,_,na,cA0,_,_,_,rfl,rfl,_,(by rw [offA0];exact LA),?_⟩⟩
   refine ⟨by omega,by omega,.inr ⟨3000,gX,_,nx,cX0,_,_,_,rfl,rfl,_,(by rw [offX0];exact LX),?_⟩⟩
   refine ⟨by kernel_rfl,fun c1=>?_,fun c1=>?_⟩
   ·have c1:a.day≤x.day:=of_decide_eq_true c1
    have hhead:∀ z,(B.drop j)[0]? = some z→a.day≤z.day:=fun z hz=>by rw [hdx] at hz;cases hz;exact c1
    refine ⟨by omega,by omega,.inr ⟨3001,gA,_,na,cA0,_,_,_,rfl,rfl,_,(by rw [offA0];exact LA),?_⟩⟩
    refine ⟨fun c2=>?_,fun c2=>?_⟩
    ·have c2:day < a.day:=of_decide_eq_true c2
     have hE3:restL day (A.drop i) (B.drop j)=[]:=by
      rw [hda];exact rest_end (by rw [← hda];exact sA.drop) sX.drop (merge_a hhead) c2
     exact ⟨_,_,⟨g,vh,vc,vp,hh,hc,hp,by omega,by rw [hP,hR,hE3];rfl,rfl,rfl⟩,⟨rfl,rfl,trivial⟩,⟨rfl,rfl,.inl rfl,.inl rfl,.inl rfl,trivial⟩,rfl⟩
    ·have c2:¬ day < a.day:=of_decide_eq_false c2
     have hE3:restL day (A.drop i) (B.drop j)=.inl a :: restL day (A.drop (i+1)) (B.drop j):=by
      rw [hda];exact rest_a hhead (by omega)
     have AO:=act_z (E:=(envC Tryz.prog tt Tryz.f17.ntmps w X (tiedK [] β) [21,23]).toEnv) (day:=day) rfl hg hh hc hp (by omega) (mA a (List.mem_of_getElem? ha0))
     have EA:=cat_extract AC.size ha0
     have hszA:(cat AC.A A).size=na*76:=by rw [Go.SX.cat_size AC.size,lA]
     generalize a.A=AA at AO EA
     refine ⟨by omega,by omega,.inr ⟨3001,gA,_,na,cA0,_,_,_,rfl,rfl,(by rw [offA0,hszA];show i*76+76≤na*76;omega),AA,(by rw [offA0];exact EA),?_⟩⟩
     refine .inr (.inr (.inr ⟨[(9500,48)],[],[_,_],[_,_,_,_],_,AO,rfl,⟨.inl rfl,.inl rfl,.inl rfl,rfl,trivial⟩,by kernel_rfl,trivial,?_⟩))
     rintro r U ⟨g2,wh,wc,wp,k1,k2,k3,rfl,hM⟩
     refine ⟨by kernel_rfl,_,runs_lo18 (E:=(envC Tryz.prog tt Tryz.f17.ntmps w X (tiedK [] β) [21,23])) tt_ok Tryz.underlying51 (j:=ti61) rfl 1 rfl (by omega),?_⟩
     have hrun:runL day g (restL day (A.drop i) (B.drop j))=match actL g a with
      | .error e=>.error e
      | .ok g'=>runL day g' (restL day (A.drop (i+1)) (B.drop j)):=by rw [hE3];rfl
     have tn:=ta.next (by decide) ci
     cases hS:actL g a with
     | error e =>
      rw [hS] at hM hrun
      obtain ⟨rfl,he⟩:=hM
      exact ⟨_,_,⟨i+1,j,_,_,g2,wh,wc,wp,e,by omega,tn,tx,k1,k2,k3,.inl ⟨he,hrun⟩,rfl,rfl⟩,⟨rfl,rfl,rfl,rfl,rfl,rfl,trivial⟩,⟨rfl,.inl rfl,.inl rfl,rfl,.inl rfl,.inl rfl,.inl rfl,trivial⟩,rfl⟩
     | ok g' =>
      rw [hS] at hM hrun
      obtain ⟨rfl,rfl⟩:=hM
      obtain ⟨s1,s2,s3,s4⟩:=act_okL hg hS
      exact ⟨_,_,⟨i+1,j,_,_,g2,wh,wc,wp,0,by omega,tn,tx,k1,k2,k3,.inr ⟨rfl,s1,⟨by omega,by omega,by rw [s4];omega⟩,hrun⟩,rfl,rfl⟩,⟨rfl,rfl,rfl,rfl,rfl,rfl,trivial⟩,⟨rfl,.inl rfl,.inl rfl,rfl,.inl rfl,.inl rfl,.inl rfl,trivial⟩,rfl⟩
   ·have c1:¬ a.day≤x.day:=of_decide_eq_false c1
    have hhead:∀ z,(A.drop i)[0]? = some z→¬ z.day≤x.day:=fun z hz=>by rw [hda] at hz;cases hz;exact c1
    refine ⟨by omega,by omega,.inr ⟨3000,gX,_,nx,cX0,_,_,_,rfl,rfl,_,(by rw [offX0];exact LX),?_⟩⟩
    refine ⟨fun c2=>?_,fun c2=>?_⟩
    ·have c2:day < x.day:=of_decide_eq_true c2
     have hE3:restL day (A.drop i) (B.drop j)=[]:=by
      rw [hdx];exact rest_end sA.drop (by rw [← hdx];exact sX.drop) (merge_x hhead) c2
     exact ⟨_,_,⟨g,vh,vc,vp,hh,hc,hp,by omega,by rw [hP,hR,hE3];rfl,rfl,rfl⟩,⟨rfl,rfl,trivial⟩,⟨rfl,rfl,.inl rfl,.inl rfl,.inl rfl,trivial⟩,rfl⟩
    ·have c2:¬ day < x.day:=of_decide_eq_false c2
     have hE3:restL day (A.drop i) (B.drop j)=.inr x :: restL day (A.drop i) (B.drop (j+1)):=by
      rw [hdx];exact rest_x hhead (by omega)
     have AO:=enter_z (E:=(envC Tryz.prog tt Tryz.f17.ntmps w X (tiedK [] β) [21,23]).toEnv) (day:=day) rfl hg hh hc hp (by omega) (mX x (List.mem_of_getElem? hx0)).q
     have EA:=cat_extract EC.size hx0
     have hszX:(cat EC.A B).size=nx*10:=by rw [Go.SX.cat_size EC.size,lX]
     generalize x.A=AA at AO EA
     refine ⟨by omega,by omega,.inr ⟨3000,gX,_,nx,cX0,_,_,_,rfl,rfl,(by rw [offX0,hszX];show j*10+10≤nx*10;omega),AA,(by rw [offX0];exact EA),?_⟩⟩
     refine .inr (.inr (.inr ⟨[(9500,48)],[],[_,_],[_,_,_,_],_,AO,rfl,⟨.inl rfl,.inl rfl,.inl rfl,rfl,trivial⟩,by kernel_rfl,trivial,?_⟩))
     rintro r U ⟨g2,wh,wc,wp,k1,k2,k3,rfl,hM⟩
     refine ⟨by kernel_rfl,_,runs_lo18 (E:=(envC Tryz.prog tt Tryz.f17.ntmps w X (tiedK [] β) [21,23])) tt_ok Tryz.underlying26 (j:=ti31) rfl 1 rfl (by omega),?_⟩
     have hrun:runL day g (restL day (A.drop i) (B.drop j))=match entL day g x with
      | .error e=>.error e
      | .ok g'=>runL day g' (restL day (A.drop i) (B.drop (j+1))):=by rw [hE3];rfl
     have tn:=tx.next (by decide) cj
     cases hS:entL day g x with
     | error e =>
      rw [hS] at hM hrun
      obtain ⟨rfl,he⟩:=hM
      exact ⟨_,_,⟨i,j+1,_,_,g2,wh,wc,wp,e,by omega,ta,tn,k1,k2,k3,.inl ⟨he,hrun⟩,rfl,rfl⟩,⟨rfl,rfl,rfl,rfl,rfl,rfl,trivial⟩,⟨rfl,.inl rfl,.inl rfl,rfl,.inl rfl,.inl rfl,.inl rfl,trivial⟩,rfl⟩
     | ok g' =>
      rw [hS] at hM hrun
      obtain ⟨rfl,rfl⟩:=hM
      obtain ⟨s1,s2,s3,s4⟩:=ent_okL hg hS
      exact ⟨_,_,⟨i,j+1,_,_,g2,wh,wc,wp,0,by omega,ta,tn,k1,k2,k3,.inr ⟨rfl,s1,⟨by omega,by omega,by omega⟩,hrun⟩,rfl,rfl⟩,⟨rfl,rfl,rfl,rfl,rfl,rfl,trivial⟩,⟨rfl,.inl rfl,.inl rfl,rfl,.inl rfl,.inl rfl,.inl rfl,trivial⟩,rfl⟩
  ·have cj:j=nx:=by have c:((((nx - j:Nat):Int)) == 0)=true:=c;simp only [beq_iff_eq] at c;have:=tx.1;omega
   have LA:(cat AC.A A)[i*76+4]? = some (.int .i64 a.day):=(cat_get AC.size A i a 4 ha0 (by decide)).trans a.g4
   have hhead:∀ z,(B.drop j)[0]? = some z→a.day≤z.day:=fun z hz=>by rw [List.drop_eq_nil_of_le (by omega)] at hz;cases hz
   refine ⟨by kernel_rfl,fun _=>?_,nofun⟩
   refine ⟨by omega,by omega,.inr ⟨3001,gA,_,na,cA0,_,_,_,rfl,rfl,_,(by rw [offA0];exact LA),?_⟩⟩
   refine ⟨fun c2=>?_,fun c2=>?_⟩
   ·have c2:day < a.day:=of_decide_eq_true c2
    have hE3:restL day (A.drop i) (B.drop j)=[]:=by
     rw [hda];exact rest_end (by rw [← hda];exact sA.drop) sX.drop (merge_a hhead) c2
    exact ⟨_,_,⟨g,vh,vc,vp,hh,hc,hp,by omega,by rw [hP,hR,hE3];rfl,rfl,rfl⟩,⟨rfl,rfl,trivial⟩,⟨rfl,rfl,.inl rfl,.inl rfl,.inl rfl,trivial⟩,rfl⟩
   ·have c2:¬ day < a.day:=of_decide_eq_false c2
    have hE3:restL day (A.drop i) (B.drop j)=.inl a :: restL day (A.drop (i+1)) (B.drop j):=by
     rw [hda];exact rest_a hhead (by omega)
    have AO:=act_z (E:=(envC Tryz.prog tt Tryz.f17.ntmps w X (tiedK [] β) [21,23]).toEnv) (day:=day) rfl hg hh hc hp (by omega) (mA a (List.mem_of_getElem? ha0))
    have EA:=cat_extract AC.size ha0
    have hszA:(cat AC.A A).size=na*76:=by rw [Go.SX.cat_size AC.size,lA]
    generalize a.A=AA at AO EA
    refine ⟨by omega,by omega,.inr ⟨3001,gA,_,na,cA0,_,_,_,rfl,rfl,(by rw [offA0,hszA];show i*76+76≤na*76;omega),AA,(by rw [offA0];exact EA),?_⟩⟩
    refine .inr (.inr (.inr ⟨[(9500,48)],[],[_,_],[_,_,_,_],_,AO,rfl,⟨.inl rfl,.inl rfl,.inl rfl,rfl,trivial⟩,by kernel_rfl,trivial,?_⟩))
    rintro r U ⟨g2,wh,wc,wp,k1,k2,k3,rfl,hM⟩
    refine ⟨by kernel_rfl,_,runs_lo18 (E:=(envC Tryz.prog tt Tryz.f17.ntmps w X (tiedK [] β) [21,23])) tt_ok Tryz.underlying51 (j:=ti61) rfl 1 rfl (by omega),?_⟩
    have hrun:runL day g (restL day (A.drop i) (B.drop j))=match actL g a with
     | .error e=>.error e
     | .ok g'=>runL day g' (restL day (A.drop (i+1)) (B.drop j)):=by rw [hE3];rfl
    have tn:=ta.next (by decide) ci
    cases hS:actL g a with
    | error e =>
     rw [hS] at hM hrun
     obtain ⟨rfl,he⟩:=hM
     exact ⟨_,_,⟨i+1,j,_,_,g2,wh,wc,wp,e,by omega,tn,tx,k1,k2,k3,.inl ⟨he,hrun⟩,rfl,rfl⟩,⟨rfl,rfl,rfl,rfl,rfl,rfl,trivial⟩,⟨rfl,.inl rfl,.inl rfl,rfl,.inl rfl,.inl rfl,.inl rfl,trivial⟩,rfl⟩
    | ok g' =>
     rw [hS] at hM hrun
     obtain ⟨rfl,rfl⟩:=hM
     obtain ⟨s1,s2,s3,s4⟩:=act_okL hg hS
     exact ⟨_,_,⟨i+1,j,_,_,g2,wh,wc,wp,0,by omega,tn,tx,k1,k2,k3,.inr ⟨rfl,s1,⟨by omega,by omega,by rw [s4];omega⟩,hrun⟩,rfl,rfl⟩,⟨rfl,rfl,rfl,rfl,rfl,rfl,trivial⟩,⟨rfl,.inl rfl,.inl rfl,rfl,.inl rfl,.inl rfl,.inl rfl,trivial⟩,rfl⟩
def eqK (x y:Ky×Int):Bool:=decide (x.1.1=y.1.1) && ((x.1.2 == y.1.2) && ((x.2 == y.2) && true))
theorem eqK_self (x:Ky×Int):eqK x x=true:=by simp [eqK]
theorem eq_bal_raw {d:Nat} (x y:Ky×Int) (w:World):(Op.equalIn (d+1+1) 49 (.agg (sumK x)) (.agg (sumK y))).run Tryz.prog w=.ok (eqK x y) w:=by
 rw [run_equalIn_struct w (d+1) 49 _ _ (by simp only [Program.fieldsOf,Tryz.underlying49]) (by kernel_rfl)]
 rw [show (Tryz.prog.fieldsOf 49).toList=[⟨ "Currency",9,0,false,"","",0⟩,⟨ "Day",3,1,false,"","",16⟩,⟨ "Amount",3,2,false,"","",24⟩] from by simp only [Program.fieldsOf,Tryz.underlying49]]
 refine eqF_cons (by decide) (part_cell tok9 rfl rfl w) (part_cell tok9 rfl rfl w) (eq_str _ _ w) fun _=>?_
 refine eqF_cons (by decide) (part_cell tok3 rfl rfl w) (part_cell tok3 rfl rfl w) (eq_int64 _ Tryz.underlying3 _ _ w) fun _=>?_
 exact eqF_cons (by decide) (part_cell tok3 rfl rfl w) (part_cell tok3 rfl rfl w) (eq_int64 _ Tryz.underlying3 _ _ w) fun _=>eqF_nil
theorem guard_bal:Tryz.prog.eqGuardType Tryz.prog.depth 49=false:=by kernel_rfl
theorem eql_bal {E:Env} (hE:E.P=Tryz.prog) (x y:Ky×Int) {u v:Operand}:Runs E (do eqGuard .eql 49 u v (.agg (sumK x)) (.agg (sumK y));binOp .eql 49 (.agg (sumK x)) (.agg (sumK y))) (.bool (eqK x y)) :=
 runs_eql (by rw [hE];exact guard_bal) fun w=>by rw [hE];exact eq_bal_raw x y w
def finN (g:Led):Led×Int:=pfL ⟨nzf g.h,nzf g.c,nzf g.p⟩
def FinQ (g:Led) (vh vc vp:Value) (r:Value) (U:MemL):Prop:=∃ xh xc xp,IsL xh (finN g).1.h.length∧IsL xc (finN g).1.c.length∧IsL xp (finN g).1.p.length∧r=.tuple #[.agg #[xh,xc,xp],.int .i64 (finN g).2]∧U=[(9701,Blk.own vh 66 2 g.h.length (cat sumA g.h)),(9702,Blk.own vc 49 3 g.c.length (cat sumK g.c)),(9703,Blk.own vp 49 3 g.p.length (cat sumK g.p)),(9506,Blk.own xh 66 2 (finN g).1.h.length (cat sumA (finN g).1.h)),(9507,Blk.own xc 49 3 (finN g).1.c.length (cat sumK (finN g).1.c)),(9508,Blk.own xp 49 3 (finN g).1.p.length (cat sumK (finN g).1.p))]
theorem FinQ.bad {g:Led} {vh vc vp:Value} {e:Int} (h:finN g=(.zero,e)):FinQ g vh vc vp (.tuple #[.agg #[.slice none 0 0,.slice none 0 0,.slice none 0 0],.int .i64 e]) [(9701,Blk.own vh 66 2 g.h.length (cat sumA g.h)),(9702,Blk.own vc 49 3 g.c.length (cat sumK g.c)),(9703,Blk.own vp 49 3 g.p.length (cat sumK g.p)),(9506,Blk.own (.slice none 0 0) 66 2 0 #[]),(9507,Blk.own (.slice none 0 0) 49 3 0 #[]),(9508,Blk.own (.slice none 0 0) 49 3 0 #[])]:=by
 refine ⟨.slice none 0 0,.slice none 0 0,.slice none 0 0,by rw [h];exact .nil,by rw [h];exact .nil,by rw [h];exact .nil,by rw [h],by rw [h];rfl⟩
end Go.Proofs.YtekfkdddadcalaaGreatDoor
namespace Go.Proofs.YtekfkdddadcalaaGreatDoor
open Go Go.RowKit Go.SX
section
variable {H:Type} {enc:TypeId×Value→H} {w:World} {base:Nat} {sp:Nat→Bool} {held:Bool}
end
end Go.Proofs.YtekfkdddadcalaaGreatDoor
namespace Go.Proofs.YtekfkdddadcalaaGreatDoor
open Go Go.RowKit Go.SX
theorem le_str {E:Env} (a b:List UInt8):Runs E (Op.stringOp .leq (S a) (S b)) (.bool (ltB a b || decide (a=b))):=fun w _=>by
 have e:Op.bytesLess (S a).toList (S b).toList=ltB a b:=by rw [bytesLess_eq,S_list,S_list]
 have e2:((S a).toList == (S b).toList)=decide (a=b):=(S_beq a b).symm ▸ rfl
 rw [← e,← e2];rfl
def allAt (p:Nat→Bool) (n:Nat):Bool:=(List.range n).all p
theorem allAt_bad {p:Nat→Bool} {n i:Nat} (h:i < n) (hp:p i=false):allAt p n=false:=by
 unfold allAt
 rw [List.all_eq_false]
 exact ⟨i,List.mem_range.2 h,by rw [hp];decide⟩
theorem allAt_good {p:Nat→Bool} {n:Nat} (h:∀ i,i < n→p i=true):allAt p n=true:=by
 unfold allAt
 rw [List.all_eq_true]
 exact fun i hi=>h i (List.mem_range.1 hi)
def okH (l:List (Bs×Int)) (i:Nat):Bool:=match l[i]? with
 | none=>true
 | some x=>insOk x.1 && (inB x.2 1 1000000000000000 && (decide (i=0) || match l[i - 1]? with
  | none=>true
  | some y=>ltB y.1 x.1))
def okK (l:List (Ky×Int)) (i:Nat):Bool:=match l[i]? with
 | none=>true
 | some x=>curOk x.1.1 && (inB x.1.2 0 73048 && (!(x.2 == 0) && (inB x.2 (-1000000000000000) 1000000000000000 && (decide (i=0) || match l[i - 1]? with
  | none=>true
  | some y=>ltK2 y.1 x.1))))
def dayB (l:List (Ky×Int)):Bool:=l.all fun x=>x.1.2 == 0
def validP (g:Led):Bool:=(!decide (g.h.length > 64) && !decide (g.c.length > 8)) && (allAt (okH g.h) g.h.length && (allAt (okK g.c) g.c.length && (allAt (okK g.p) g.p.length && dayB g.c)))
theorem day_bad {xs:List (Ky×Int)} {i:Nat} {y:Ky×Int} (hy:xs[i]? = some y) (h:(y.1.2 == 0)=false):dayB xs=false:=by
 unfold dayB
 rw [List.all_eq_false]
 exact ⟨y,List.mem_of_getElem? hy,by rw [h];simp⟩
theorem day_good {xs:List (Ky×Int)} (h:∀ (j:Nat) y,xs[j]? = some y→(y.1.2 == 0)=true):dayB xs=true:=by
 unfold dayB
 rw [List.all_eq_true]
 intro x hx
 obtain ⟨j,hj⟩:=List.getElem?_of_mem hx
 exact h j x hj
theorem valid1_b (x:Ky×Int):Pure Tryz.prog 59 [SV.c (.agg (sumK x))] (.bool (!(x.1.2 == 0))):=by
 refine sx_pure tt_ok mixed at59 _ _ rfl rfl fun w=>?_
 exact ⟨rfl,_,rfl,rfl,trivial⟩
theorem fill_bb (a b:Option Addr) (n c n2 c2:Nat):Instr.fill (fun k=>some (k*ti38.size,ti38.size)) (madeCells ti38.zero (2*ti38.size)) [(0,.slice a n c),(1,.slice b n2 c2)]=some #[.slice a n c,.slice b n2 c2]:=by kernel_rfl
theorem offSl (j:Nat):offAt 0 ((j:Nat):Int) ti38.size=j:=by
 show offAt 0 ((j:Nat):Int) 1=j
 simp [offAt]
theorem indexF_b {E:Env} (hE:E.P=Tryz.prog) {v:Value} {xs:List (Ky×Int)} (hv:Lst E v 3 xs.length (cat sumK xs)) (hn:xs.length≤2000000000000):OwnC E 96 [SV.c v,SV.c (fnW 59)] [] (fun r U=>(∃ n:Int,r=.int .i64 n∧decide (n ≥ 0)=!(dayB xs))∧U=[]):=by
 refine sx_ownC [] tt_ok mixed at96 E hE [SV.c v,SV.c (fnW 59)] [] _ rfl rfl fun w X β hT=>?_
 obtain ⟨a,cap,rfl,hc,h4⟩:=(hv.of_old hT).shape
 refine ⟨_,fun w' _=>run_len_sl Tryz.underlying38 w',?_⟩
 refine ⟨fun q f m=>∃ (i:Nat),q=xs.length - i∧i≤xs.length∧(∀ (j:Nat) y,j < i→xs[j]? = some y→(y.1.2 == 0)=true)∧f=[(0,SV.c (.slice a xs.length cap)),(1,SV.c (fnW 59)),(6,SV.c (.slice a xs.length cap)),(7,SV.c (.int .i64 (xs.length:Nat))),(8,SV.c (.int .i64 (i:Nat)))]∧m=[],xs.length,⟨_,_,⟨0,rfl,by omega,fun j y h=>by omega,rfl,rfl⟩,⟨rfl,rfl,rfl,rfl,rfl,trivial⟩,trivial,rfl⟩,?_⟩
 rintro q f m ⟨i,rfl,hi,hok,rfl,rfl⟩
 refine ⟨fun h=>?_,fun h=>?_⟩
 ·have h:i < xs.length:=by have:=of_decide_eq_true h;omega
  obtain ⟨b,o,rfl,h5⟩:=h4 (by omega)
  obtain ⟨y,hy⟩:∃ y,xs[i]? = some y:=⟨_,List.getElem?_eq_getElem h⟩
  have hE':VOk (envC Tryz.prog tt Tryz.f96.ntmps w X (tiedK [] β)):=tt_ok
  have L1:=lst_elem hE' h5 sumK_size hy (ty:=49) (ti:=ti49) rfl rfl rfl (p:=o+(i:Int).toNat*3) rfl
  have K1:=valid1_b y
  generalize hY:sumK y=YA at L1 K1
  refine ⟨by omega,by omega,.inl ⟨_,L1,.inl ⟨_,K1,fun c=>?_,fun c=>?_⟩⟩⟩
  ·have c:(!(y.1.2 == 0))=true:=c
   have hb:=day_bad hy (by simpa using c)
   exact ⟨[],[],⟨⟨(i:Nat),rfl,by rw [hb];simp⟩,rfl⟩,trivial,rfl⟩
  ·have c:(!(y.1.2 == 0))=false:=c
   have c:(y.1.2 == 0)=true:=by simpa using c
   refine ⟨xs.length - (i+1),_,_,by omega,⟨i+1,rfl,by omega,fun j z hj hz=>?_,rfl,rfl⟩,⟨rfl,rfl,rfl,rfl,c_int (i64_succ (by omega)),trivial⟩,trivial,rfl⟩
   rcases Nat.lt_or_ge j i with h9 | h9
   ·exact hok j z h9 hz
   ·have:j=i:=by omega
    subst this
    rw [hy] at hz;cases hz
    exact c
 ·have h:i=xs.length:=by have:=of_decide_eq_false h;omega
  subst h
  have hg:=day_good fun j y hy=>hok j y (List.getElem?_eq_some_iff.1 hy).1 hy
  exact ⟨[],[],⟨⟨-1,rfl,by rw [hg];rfl⟩,rfl⟩,trivial,rfl⟩
theorem containsF_b {E:Env} (hE:E.P=Tryz.prog) {v:Value} {xs:List (Ky×Int)} (hv:Lst E v 3 xs.length (cat sumK xs)) (hn:xs.length≤2000000000000):OwnC E 58 [SV.c v,SV.c (fnW 59)] [] (fun r U=>r=.bool (!(dayB xs))∧U=[]):=by
 refine sx_ownC [] tt_ok mixed at58 E hE [SV.c v,SV.c (fnW 59)] [] _ rfl rfl fun w X β hT=>?_
 have I1:=indexF_b rfl (hv.of_old hT) hn
 refine .inr (.inr (.inr ⟨[],[],[_,_],[],_,I1,rfl,trivial,rfl,trivial,?_⟩))
 rintro r U ⟨⟨n,rfl,h1⟩,rfl⟩
 exact ⟨rfl,[],[],⟨by rw [← h1];rfl,rfl⟩,trivial,rfl⟩
structure PfIn (E:Env) (g:Led) (vh vc vp:Value):Prop where
 h:Lst E vh 2 g.h.length (cat sumA g.h)
 c:Lst E vc 3 g.c.length (cat sumK g.c)
 p:Lst E vp 3 g.p.length (cat sumK g.p)
 b:g.h.length≤6000000000000∧g.c.length≤6000000000000∧g.p.length≤6000000000000
 ih:∀ x∈g.h,x.1.length≤9223372036854775807
 ic:∀ x∈g.c,x.1.1.length≤9223372036854775807
 ip:∀ x∈g.p,x.1.1.length≤9223372036854775807
theorem valid_pz {E:Env} (hE:E.P=Tryz.prog) {g:Led} {vh vc vp:Value} (I:PfIn E g vh vc vp):OwnC E 26 [SV.c (.agg #[vh,vc,vp])] [] (fun r U=>r=.bool (validP g)∧U=[]):=by
 refine sx_ownC [11,23] tt_ok mixed at26 E hE [SV.c (.agg #[vh,vc,vp])] [] _ rfl rfl fun w X β hT=>?_
 have hE':(envC Tryz.prog tt Tryz.f26.ntmps w X (tiedK [] β) [11,23]).toEnv.P=Tryz.prog:=rfl
 have hh:=I.h.of_old hT
 have hc:=I.c.of_old hT
 have hp:=I.p.of_old hT
 have hb:=I.b
 obtain ⟨ha,hcap,rfl,-,h4h⟩:=hh.shape
 obtain ⟨ca,ccap,rfl,-,h4c⟩:=hc.shape
 obtain ⟨pa,pcap,rfl,-,h4p⟩:=hp.shape
 refine ⟨rfl,_,rfl,_,fun w' _=>run_len_sl Tryz.underlying37 w',fun c=>?_,fun c=>?_⟩
 ·have c1:¬ g.h.length > 64:=by have:=of_decide_eq_false (show decide (((g.h.length:Nat):Int) > 64)=false from c);omega
  refine ⟨_,rfl,_,fun w' _=>run_len_sl Tryz.underlying38 w',fun c2=>?_,fun c2=>?_⟩
  ·have c2:g.c.length > 8:=by have:=of_decide_eq_true (show decide (((g.c.length:Nat):Int) > 8)=true from c2);omega
   exact ⟨[],[],⟨bv (by unfold validP;rw [decide_eq_true c2];simp),rfl⟩,trivial,rfl⟩
  ·have c2:¬ g.c.length > 8:=by have:=of_decide_eq_false (show decide (((g.c.length:Nat):Int) > 8)=false from c2);omega
   have hV:validP g=(allAt (okH g.h) g.h.length && (allAt (okK g.c) g.c.length && (allAt (okK g.p) g.p.length && dayB g.c))):=by unfold validP;rw [decide_eq_false c1,decide_eq_false c2];rfl
   refine ⟨fun f m=>allAt (okH g.h) g.h.length=true∧f=[(1,SV.ptr 1 0)]∧m=[(1,Blk.row 40 3 #[.slice ha g.h.length hcap,.slice ca g.c.length ccap,.slice pa g.p.length pcap])],?_,?_⟩
   ·refine ⟨_,rfl,_,fun w' _=>run_len_sl Tryz.underlying37 w',?_⟩
    refine ⟨fun q f m=>∃ (i:Nat) (last:Bs),q=g.h.length - i∧i≤g.h.length∧(∀ j,j < i→okH g.h j=true)∧((i=0∧last=[])∨∃ y,0 < i∧g.h[i - 1]? = some y∧last=y.1)∧f=[(1,SV.ptr 1 0),(3,SV.c (.string (S last))),(21,SV.c (.slice ha g.h.length hcap)),(22,SV.c (.int .i64 (g.h.length:Nat))),(23,SV.c (.int .i64 (i:Nat)))]∧m=[(1,Blk.row 40 3 #[.slice ha g.h.length hcap,.slice ca g.c.length ccap,.slice pa g.p.length pcap])],g.h.length,⟨_,_,⟨0,[],by omega,by omega,fun j h=>absurd h (by omega),.inl ⟨rfl,rfl⟩,rfl,rfl⟩,⟨rfl,rfl,rfl,rfl,rfl,trivial⟩,⟨rfl,trivial⟩,rfl⟩,?_⟩
    rintro q f m ⟨i,last,rfl,hi,hok,hlast,rfl,rfl⟩
    refine ⟨fun c=>?_,fun c=>?_⟩
    ·have c:i < g.h.length:=by have:=of_decide_eq_true c;omega
     obtain ⟨b,o,rfl,h5⟩:=h4h (by omega)
     obtain ⟨y,hy⟩:∃ y,g.h[i]? = some y:=⟨_,List.getElem?_eq_getElem c⟩
     have hE'':VOk (envC Tryz.prog tt Tryz.f26.ntmps w X (tiedK [] β) [11,23]):=tt_ok
     have L1:=lst_elem hE'' h5 sumA_size hy (ty:=66) (ti:=ti66) rfl rfl rfl (p:=o+(i:Int).toNat*2) rfl
     have K1:=insOk_p y.1 (I.ih y (List.mem_of_getElem? hy))
     have hP:okH g.h i=(insOk y.1 && (inB y.2 1 1000000000000000 && (decide (i=0) || match g.h[i - 1]? with | none=>true | some z=>ltB z.1 y.1))):=by unfold okH;rw [hy]
     have bad:okH g.h i=false→validP g=false:=fun h=>by rw [hV,allAt_bad c h];rfl
     refine ⟨by omega,by omega,.inl ⟨_,L1,sumA_fits y,?_⟩⟩
     refine ⟨_,rfl,.inl ⟨_,K1,?_⟩⟩
     refine ⟨fun c1=>?_,fun c1=>?_⟩
     ·have c1:(!insOk y.1)=false:=c1
      have c1:insOk y.1=true:=by simpa using c1
      refine ⟨_,rfl,_,le_str _ _,fun c2=>?_,fun c2=>?_⟩
      ·have c2:(ltB y.1 last || decide (y.1=last))=false:=c2
       refine ⟨_,rfl,.inl ⟨_,within_p y.2 1 1000000000000000,fun c3=>?_,fun c3=>?_⟩⟩
       ·have c3:(!inB y.2 1 1000000000000000)=true:=c3
        have c3:inB y.2 1 1000000000000000=false:=by simpa using c3
        exact ⟨[],[],⟨bv (bad (by rw [hP,c1,c3];rfl)).symm,rfl⟩,trivial,rfl⟩
       ·have c3:(!inB y.2 1 1000000000000000)=false:=c3
        have c3:inB y.2 1 1000000000000000=true:=by simpa using c3
        refine ⟨_,rfl,?_⟩
        have hb2:okH g.h i=true:=by
         rw [hP,c1,c3]
         rcases hlast with ⟨rfl,-⟩ | ⟨z,hz0,hz,rfl⟩
         ·rfl
         ·rw [hz]
          simp only [Bool.or_eq_false_iff,decide_eq_false_iff_not] at c2
          have:ltB z.1 y.1=true:=by
           cases h:ltB z.1 y.1 with
           | true=>rfl
           | false=>exact absurd (ltB_tri _ _ c2.1 h) c2.2
          show (true && (true && (decide (i=0) || ltB z.1 y.1)))=true
          rw [this,Bool.or_true];rfl
        exact ⟨g.h.length - (i+1),_,_,by omega,⟨i+1,y.1,rfl,by omega,fun j hj=>by
         rcases Nat.lt_succ_iff_lt_or_eq.1 hj with h | rfl
         ·exact hok j h
         ·exact hb2,.inr ⟨y,by omega,by rw [Nat.add_sub_cancel];exact hy,rfl⟩,rfl,rfl⟩,⟨rfl,rfl,rfl,rfl,c_int (i64_succ (by omega)),trivial⟩,⟨rfl,trivial⟩,rfl⟩
      ·have c2:(ltB y.1 last || decide (y.1=last))=true:=by simpa using c2
       refine ⟨fun _=>?_,nofun⟩
       have hne:y.1≠[]:=fun h=>by rw [h] at c1;exact absurd c1 (by decide)
       have hb2:okH g.h i=false:=by
        rw [hP]
        rcases hlast with ⟨-,rfl⟩ | ⟨z,hz0,hz,rfl⟩
        ·exfalso
         simp only [Bool.or_eq_true,decide_eq_true_eq] at c2
         rcases c2 with c2 | c2
         ·cases hy1:y.1 with
          | nil=>exact hne hy1
          | cons u v=>rw [hy1] at c2;cases c2
         ·exact hne c2
        ·rw [hz]
         simp only [Bool.or_eq_true,decide_eq_true_eq] at c2
         have:ltB z.1 y.1=false:=by
          rcases c2 with c2 | c2
          ·exact ltB_ok.asym c2
          ·rw [c2];exact ltB_irr _
         show (insOk y.1 && (inB y.2 1 1000000000000000 && (decide (i=0) || ltB z.1 y.1)))=false
         rw [this,decide_eq_false (by omega),Bool.or_false,Bool.and_false,Bool.and_false]
       exact ⟨[],[],⟨bv (bad hb2).symm,rfl⟩,trivial,rfl⟩
     ·have c1:(!insOk y.1)=true:=by simpa using c1
      have c1:insOk y.1=false:=by simpa using c1
      refine ⟨nofun,fun _=>?_⟩
      refine ⟨fun _=>?_,nofun⟩
      exact ⟨[],[],⟨bv (bad (by rw [hP,c1];rfl)).symm,rfl⟩,trivial,rfl⟩
    ·have c:i=g.h.length:=by have:=of_decide_eq_false c;omega
     exact ⟨_,_,⟨allAt_good fun j hj=>hok j (by omega),rfl,rfl⟩,⟨rfl,trivial⟩,⟨rfl,trivial⟩,rfl⟩
   ·rintro f1 m1 ⟨hH,rfl,rfl⟩
    rw [hH,Bool.true_and] at hV
    refine ⟨fun f m=>allAt (okK g.c) g.c.length=true∧allAt (okK g.p) g.p.length=true∧f=[(1,SV.ptr 1 0)]∧m=[(1,Blk.row 40 3 #[.slice ha g.h.length hcap,.slice ca g.c.length ccap,.slice pa g.p.length pcap])],?_,?_⟩
    ·refine ⟨_,rfl,_,rfl,?_⟩
     refine .inr ⟨by decide,by decide,by decide,_,fill_bb _ _ _ _ _ _,rfl,trivial,fun gl=>?_⟩
     refine ⟨_,fun w' _=>run_len_sl Tryz.underlying106 w',?_⟩
     refine ⟨fun q f m=>∃ i:Nat,q=2 - i∧i≤2∧(1≤i→allAt (okK g.c) g.c.length=true)∧(2≤i→allAt (okK g.p) g.p.length=true)∧f=[(1,SV.ptr 1 0),(50,SV.c (.slice (some ⟨gl,0,none⟩) 2 2)),(51,SV.c (.int .i64 ((2:Nat):Int))),(52,SV.c (.int .i64 (i:Nat)))]∧m=[(1,Blk.row 40 3 #[.slice ha g.h.length hcap,.slice ca g.c.length ccap,.slice pa g.p.length pcap]),(50,Blk.own (.slice (some ⟨gl,0,none⟩) 2 2) 38 1 2 #[.slice ca g.c.length ccap,.slice pa g.p.length pcap])],2,⟨_,_,⟨0,by omega,by omega,fun h=>absurd h (by omega),fun h=>absurd h (by omega),rfl,rfl⟩,⟨rfl,rfl,rfl,rfl,trivial⟩,⟨rfl,.inl rfl,trivial⟩,rfl⟩,?_⟩
     rintro q f m ⟨i,rfl,hi,hC1,hP1,rfl,rfl⟩
     refine ⟨fun c=>?_,fun c=>?_⟩
     ·have c:i < 2:=by have:=of_decide_eq_true c;omega
      obtain ⟨C,aC,cC,hAt,hL,hlen,hin,hwhich⟩:∃ (C:List (Ky×Int)) (aC:Option Addr) (cC:Nat),#[(Value.slice ca g.c.length ccap),.slice pa g.p.length pcap][i]? = some (.slice aC C.length cC)∧Lst (envC Tryz.prog tt Tryz.f26.ntmps w X (tiedK [] β) [11,23]).toEnv (.slice aC C.length cC) 3 C.length (cat sumK C)∧C.length≤6000000000000∧(∀ x∈C,x.1.1.length≤9223372036854775807)∧((i=0∧C=g.c)∨(i=1∧C=g.p)):=by
       rcases Nat.eq_zero_or_pos i with rfl | h0
       ·exact ⟨g.c,ca,ccap,rfl,hc,hb.2.1,I.ic,.inl ⟨rfl,rfl⟩⟩
       ·obtain rfl:i=1:=by omega
        exact ⟨g.p,pa,pcap,rfl,hp,hb.2.2,I.ip,.inr ⟨rfl,rfl⟩⟩
      have badC:∀ j,j < C.length→okK C j=false→validP g=false:=fun j hj h=>by
       rcases hwhich with ⟨-,rfl⟩ | ⟨-,rfl⟩
       ·rw [hV,allAt_bad hj h];rfl
       ·rw [hV,allAt_bad hj h,Bool.false_and,Bool.and_false]
      obtain ⟨aC',cC',hsv,hnC,h4C⟩:=hL.shape
      cases hsv
      refine ⟨by omega,by omega,.inr ⟨50,gl,_,2,2,_,_,_,rfl,rfl,.slice aC C.length cC,(by rw [offSl];exact hAt),?_⟩⟩
      refine ⟨_,fun w' _=>run_len_sl Tryz.underlying38 w',?_⟩
      refine ⟨fun q f m=>∃ j:Nat,q=C.length - j∧j≤C.length∧(∀ j',j' < j→okK C j'=true)∧f=[(1,SV.ptr 1 0),(7,SV.c (.slice aC C.length cC)),(50,SV.c (.slice (some ⟨gl,0,none⟩) 2 2)),(51,SV.c (.int .i64 ((2:Nat):Int))),(52,SV.c (.int .i64 (i:Nat))),(56,SV.c (.slice aC C.length cC)),(57,SV.c (.int .i64 (C.length:Nat))),(58,SV.c (.int .i64 (j:Nat)))]∧m=[(1,Blk.row 40 3 #[.slice ha g.h.length hcap,.slice ca g.c.length ccap,.slice pa g.p.length pcap]),(50,Blk.own (.slice (some ⟨gl,0,none⟩) 2 2) 38 1 2 #[.slice ca g.c.length ccap,.slice pa g.p.length pcap])],C.length,⟨_,_,⟨0,by omega,by omega,fun j h=>absurd h (by omega),rfl,rfl⟩,⟨rfl,rfl,rfl,rfl,rfl,rfl,rfl,rfl,trivial⟩,⟨rfl,.inl rfl,trivial⟩,rfl⟩,?_⟩
      rintro q f m ⟨j,rfl,hj,hok,rfl,rfl⟩
      refine ⟨fun c2=>?_,fun c2=>?_⟩
      ·have c2:j < C.length:=by have:=of_decide_eq_true c2;omega
       obtain ⟨b,o,rfl,h5⟩:=h4C (by omega)
       obtain ⟨y,hy⟩:∃ y,C[j]? = some y:=⟨_,List.getElem?_eq_getElem c2⟩
       have hE'':VOk (envC Tryz.prog tt Tryz.f26.ntmps w X (tiedK [] β) [11,23]):=tt_ok
       have L1:=lst_elem hE'' h5 sumK_size hy (ty:=49) (ti:=ti49) rfl rfl rfl (p:=o+(j:Int).toNat*3) rfl
       have K1:=curOk_p y.1.1 (hin y (List.mem_of_getElem? hy))
       have hPk:okK C j=(curOk y.1.1 && (inB y.1.2 0 73048 && (!(y.2 == 0) && (inB y.2 (-1000000000000000) 1000000000000000 && (decide (j=0) || match C[j - 1]? with | none=>true | some z=>ltK2 z.1 y.1))))):=by unfold okK;rw [hy]
       have bad:=badC j c2
       refine ⟨by omega,by omega,.inl ⟨_,L1,sumK_fits y,?_⟩⟩
       refine ⟨_,rfl,.inl ⟨_,K1,?_⟩⟩
       have out:okK C j=false→∀ b:Bool,b=false→Value.bool b=Value.bool (validP g):=fun h b hb=>by rw [hb,bad h]
       refine ⟨fun d1=>?_,fun d1=>?_⟩
       ·have d1:(!curOk y.1.1)=false:=d1
        have d1:curOk y.1.1=true:=by simpa using d1
        refine ⟨_,rfl,.inl ⟨_,within_p y.1.2 0 73048,fun d2=>?_,fun d2=>?_⟩⟩
        ·have d2:(!inB y.1.2 0 73048)=false:=d2
         have d2:inB y.1.2 0 73048=true:=by simpa using d2
         refine ⟨_,rfl,fun d3=>?_,fun d3=>?_⟩
         ·have d3:(y.2 == 0)=false:=d3
          refine ⟨_,rfl,.inl ⟨_,within_p y.2 (-1000000000000000) 1000000000000000,fun d4=>?_,fun d4=>?_⟩⟩
          ·have d4:(!inB y.2 (-1000000000000000) 1000000000000000)=true:=d4
           have d4:inB y.2 (-1000000000000000) 1000000000000000=false:=by simpa using d4
           exact ⟨[],[],⟨out (by rw [hPk,d1,d2,d3,d4];rfl) _ rfl,rfl⟩,trivial,rfl⟩
          ·have d4:(!inB y.2 (-1000000000000000) 1000000000000000)=false:=d4
           have d4:inB y.2 (-1000000000000000) 1000000000000000=true:=by simpa using d4
           have hP2:okK C j=(decide (j=0) || match C[j - 1]? with | none=>true | some z=>ltK2 z.1 y.1):=by rw [hPk,d1,d2,d3,d4];rfl
           have next:okK C j=true→∀ j',j' < j+1→okK C j'=true:=fun h j' hj'=>by
            rcases Nat.lt_succ_iff_lt_or_eq.1 hj' with h' | rfl
            ·exact hok j' h'
            ·exact h
           refine ⟨fun d5=>?_,fun d5=>?_⟩
           ·have d5:j > 0:=by have:=of_decide_eq_true (show decide (((j:Nat):Int) > 0)=true from d5);omega
            have ew:IntKind.i64.wrap (((j:Nat):Int) - 1)=((j - 1:Nat):Int):=by rw [i64_in (by omega)];omega
            obtain ⟨z,hz⟩:∃ z,C[j - 1]? = some z:=⟨_,List.getElem?_eq_getElem (by omega)⟩
            have LZ0:=lst_at hE'' h5 sumK_size hz (j:=0) (v:=.string (S z.1.1)) rfl (ty:=9) (ti:=ti9) rfl rfl (p:=o+(IntKind.i64.wrap (((j:Nat):Int) - 1)).toNat*3+0) (by rw [ew];rfl)
            have LZ1:=lst_at hE'' h5 sumK_size hz (j:=1) (v:=.int .i64 z.1.2) rfl (ty:=3) (ti:=ti3) rfl rfl (p:=o+(IntKind.i64.wrap (((j:Nat):Int) - 1)).toNat*3+1) (by rw [ew];rfl)
            have EO:=earlier_z hE' z.1 y.1
            have hP3:okK C j=ltK2 z.1 y.1:=by
             rw [hP2,hz,decide_eq_false (by omega)];rfl
            refine ⟨by rw [ew];omega,by rw [ew];omega,.inl ⟨_,LZ0,by rw [ew];omega,by rw [ew];omega,.inl ⟨_,LZ1,_,fill_mon1 z.1.1 z.1.2 rfl,?_⟩⟩⟩
            refine ⟨_,rfl,_,rfl,_,fill_mon1 y.1.1 y.1.2 rfl,?_⟩
            refine .inr (.inr (.inl ⟨[],[_,_],[],_,[],EO,rfl,trivial,rfl,rfl,?_⟩))
            refine ⟨by kernel_rfl,fun d6=>?_,fun d6=>?_⟩
            ·have d6:cmpK z.1 y.1 ≥ 0:=of_decide_eq_true d6
             have hz2:ltK2 z.1 y.1=false:=by
              rw [Bool.eq_false_iff]
              intro h
              have:=cmpK_lt.2 h
              omega
             exact ⟨[],[],⟨out (by rw [hP3,hz2]) _ rfl,rfl⟩,trivial,rfl⟩
            ·have d6:¬ cmpK z.1 y.1 ≥ 0:=of_decide_eq_false d6
             have hz2:ltK2 z.1 y.1=true:=cmpK_lt.1 (by omega)
             exact ⟨C.length - (j+1),_,_,by omega,⟨j+1,rfl,by omega,next (by rw [hP3,hz2]),rfl,rfl⟩,⟨rfl,rfl,rfl,rfl,rfl,rfl,rfl,c_int (i64_succ (by omega)),trivial⟩,⟨rfl,.inl rfl,trivial⟩,rfl⟩
           ·have d5:j=0:=by have:=of_decide_eq_false (show decide (((j:Nat):Int) > 0)=false by simpa using d5);omega
            refine ⟨by kernel_rfl,nofun,fun _=>?_⟩
            exact ⟨C.length - (j+1),_,_,by omega,⟨j+1,rfl,by omega,next (by rw [hP2,decide_eq_true d5];rfl),rfl,rfl⟩,⟨rfl,rfl,rfl,rfl,rfl,rfl,rfl,c_int (i64_succ (by omega)),trivial⟩,⟨rfl,.inl rfl,trivial⟩,rfl⟩
         ·have d3:(y.2 == 0)=true:=by simpa using d3
          refine ⟨fun _=>?_,nofun⟩
          exact ⟨[],[],⟨out (by rw [hPk,d1,d2,d3];rfl) _ rfl,rfl⟩,trivial,rfl⟩
        ·have d2:(!inB y.1.2 0 73048)=true:=by simpa using d2
         have d2:inB y.1.2 0 73048=false:=by simpa using d2
         refine ⟨nofun,fun _=>?_⟩
         refine ⟨fun _=>?_,nofun⟩
         exact ⟨[],[],⟨out (by rw [hPk,d1,d2];rfl) _ rfl,rfl⟩,trivial,rfl⟩
       ·have d1:(!curOk y.1.1)=true:=by simpa using d1
        have d1:curOk y.1.1=false:=by simpa using d1
        refine ⟨nofun,fun _=>?_⟩
        refine ⟨nofun,fun _=>?_⟩
        refine ⟨fun _=>?_,nofun⟩
        exact ⟨[],[],⟨out (by rw [hPk,d1];rfl) _ rfl,rfl⟩,trivial,rfl⟩
      ·have c2:j=C.length:=by have:=of_decide_eq_false c2;omega
       have hCk:allAt (okK C) C.length=true:=allAt_good fun j' h=>hok j' (by omega)
       exact ⟨2 - (i+1),_,_,by omega,⟨i+1,rfl,by omega,fun _=>by
        rcases hwhich with ⟨-,rfl⟩ | ⟨rfl,-⟩
        ·exact hCk
        ·exact hC1 (by omega),fun h=>by
        rcases hwhich with ⟨h0,-⟩ | ⟨-,rfl⟩
        ·omega
        ·exact hCk,rfl,rfl⟩,⟨rfl,rfl,rfl,c_int (i64_succ (by omega)),trivial⟩,⟨rfl,.inl rfl,trivial⟩,rfl⟩
     ·have c:i=2:=by have:=of_decide_eq_false (show decide (((i:Nat):Int) < ((2:Nat):Int))=false from c);omega
      exact ⟨_,_,⟨hC1 (by omega),hP1 (by omega),rfl,rfl⟩,⟨rfl,trivial⟩,⟨rfl,trivial⟩,rfl⟩
    ·rintro f2 m2 ⟨hC,hPk,rfl,rfl⟩
     rw [hC,hPk,Bool.true_and,Bool.true_and] at hV
     have CF:=containsF_b hE' hc (by omega)
     refine ⟨_,rfl,?_⟩
     refine .inr (.inr (.inr ⟨[],[],[_,_],[],_,CF,rfl,trivial,rfl,trivial,?_⟩))
     rintro r U ⟨rfl,rfl⟩
     exact ⟨rfl,[],[],⟨bv (by rw [hV,Bool.not_not]),rfl⟩,trivial,rfl⟩
 ·have c1:g.h.length > 64:=by have:=of_decide_eq_true (show decide (((g.h.length:Nat):Int) > 64)=true by simpa using c);omega
  refine ⟨fun _=>?_,nofun⟩
  exact ⟨[],[],⟨bv (by unfold validP;rw [decide_eq_true c1];simp),rfl⟩,trivial,rfl⟩
theorem out_inB (n:Int):(decide (n < 0) || decide (n > 73048))=!inB n 0 73048:=by
 unfold inB
 by_cases h1:n < 0
 ·rw [decide_eq_true h1,decide_eq_false (show ¬ 0≤n by omega)];rfl
 ·rw [decide_eq_false h1,decide_eq_true (show 0≤n by omega)]
  by_cases h2:n > 73048
  ·rw [decide_eq_true h2,decide_eq_false (show ¬ n≤73048 by omega)];rfl
  ·rw [decide_eq_false h2,decide_eq_true (show n≤73048 by omega)];rfl
theorem balanced_r {E:Env} (hE:E.P=Tryz.prog) {v:Value} {C:List (Ky×Int)} (hv:Lst E v 3 C.length (cat sumK C)) (hn:C.length≤6000000000000) (hin:∀ x∈C,x.1.1.length≤9223372036854775807):OwnC E 61 [SV.c v] [] (fun r U=>r=.bool (allAt (okK C) C.length)∧U=[]):=by
 refine sx_ownC [] tt_ok mixed at61 E hE [SV.c v] [] _ rfl rfl fun w X β hT=>?_
 have hE':(envC Tryz.prog tt Tryz.f61.ntmps w X (tiedK [] β)).toEnv.P=Tryz.prog:=rfl
 obtain ⟨a,cap,rfl,hnc,h4⟩:=(hv.of_old hT).shape
 refine ⟨fun q f m=>∃ j:Nat,q=C.length - j∧j≤C.length∧(∀ j',j' < j→okK C j'=true)∧f=[(0,SV.c (.slice a C.length cap)),(3,SV.c (.int .i64 (j:Nat)))]∧m=[],C.length,⟨_,_,⟨0,by omega,by omega,fun j h=>absurd h (by omega),rfl,rfl⟩,⟨rfl,rfl,trivial⟩,trivial,rfl⟩,?_⟩
 rintro q f m ⟨j,rfl,hj,hok,rfl,rfl⟩
 refine ⟨_,fun w' _=>run_len_sl Tryz.underlying38 w',fun c2=>?_,fun c2=>?_⟩
 ·have c2:j < C.length:=by have:=of_decide_eq_true c2;omega
  obtain ⟨b,o,rfl,h5⟩:=h4 (by omega)
  obtain ⟨y,hy⟩:∃ y,C[j]? = some y:=⟨_,List.getElem?_eq_getElem c2⟩
  have hE'':VOk (envC Tryz.prog tt Tryz.f61.ntmps w X (tiedK [] β)):=tt_ok
  have L0:=lst_at hE'' h5 sumK_size hy (j:=0) (v:=.string (S y.1.1)) rfl (ty:=9) (ti:=ti9) rfl rfl (p:=o+(j:Int).toNat*3+0) rfl
  have LD:=lst_at hE'' h5 sumK_size hy (j:=1) (v:=.int .i64 y.1.2) rfl (ty:=3) (ti:=ti3) rfl rfl (p:=o+(j:Int).toNat*3+1) rfl
  have LM:=lst_at hE'' h5 sumK_size hy (j:=2) (v:=.int .i64 y.2) rfl (ty:=3) (ti:=ti3) rfl rfl (p:=o+(j:Int).toNat*3+2) rfl
  have LE:=lst_elem hE'' h5 sumK_size hy (ty:=49) (ti:=ti49) rfl rfl rfl (p:=o+(j:Int).toNat*3) rfl
  have K1:=code_r y.1.1 (hin y (List.mem_of_getElem? hy))
  have O1:=out_r y.1.2
  rw [out_inB] at O1
  have F1:=far_r y.2
  have hPk:okK C j=(curOk y.1.1 && (inB y.1.2 0 73048 && (!(y.2 == 0) && (inB y.2 (-1000000000000000) 1000000000000000 && (decide (j=0) || match C[j - 1]? with | none=>true | some z=>ltK2 z.1 y.1))))):=by unfold okK;rw [hy]
  have out:okK C j=false→∀ b:Bool,b=false→Value.bool b=Value.bool (allAt (okK C) C.length):=fun h b hb=>by rw [hb,allAt_bad c2 h]
  have next:okK C j=true→∀ j',j' < j+1→okK C j'=true:=fun h j' hj'=>by
   rcases Nat.lt_succ_iff_lt_or_eq.1 hj' with h' | rfl
   ·exact hok j' h'
   ·exact h
  refine ⟨by omega,by omega,.inl ⟨_,L0,.inl ⟨_,K1,?_⟩⟩⟩
  refine ⟨fun d1=>?_,fun d1=>?_⟩
  ·have d1:(!curOk y.1.1)=false:=d1
   have d1:curOk y.1.1=true:=by simpa using d1
   refine ⟨by omega,by omega,.inl ⟨_,LD,.inl ⟨_,O1,fun d2=>?_,fun d2=>?_⟩⟩⟩
   ·have d2:(!inB y.1.2 0 73048)=false:=d2
    have d2:inB y.1.2 0 73048=true:=by simpa using d2
    refine ⟨by omega,by omega,.inl ⟨_,LM,fun d3=>?_,fun d3=>?_⟩⟩
    ·have d3:(y.2 == 0)=false:=d3
     refine ⟨by omega,by omega,.inl ⟨_,LM,.inl ⟨_,F1,fun d4=>?_,fun d4=>?_⟩⟩⟩
     ·have d4:(!inB y.2 (-1000000000000000) 1000000000000000)=false:=d4
      have d4:inB y.2 (-1000000000000000) 1000000000000000=true:=by simpa using d4
      have hP2:okK C j=(decide (j=0) || match C[j - 1]? with | none=>true | some z=>ltK2 z.1 y.1):=by rw [hPk,d1,d2,d3,d4];rfl
      refine ⟨fun d5=>?_,fun d5=>?_⟩
      ·have d5:j > 0:=by have:=of_decide_eq_true (show decide (((j:Nat):Int) > 0)=true from d5);omega
       have ew:IntKind.i64.wrap (((j:Nat):Int) - 1)=((j - 1:Nat):Int):=by rw [i64_in (by omega)];omega
       obtain ⟨z,hz⟩:∃ z,C[j - 1]? = some z:=⟨_,List.getElem?_eq_getElem (by omega)⟩
       have LZ:=lst_elem hE'' h5 sumK_size hz (ty:=49) (ti:=ti49) rfl rfl rfl (p:=o+(IntKind.i64.wrap (((j:Nat):Int) - 1)).toNat*3) (by rw [ew];rfl)
       have BO:=before_r z y
       have hP3:okK C j=ltK2 z.1 y.1:=by
        rw [hP2,hz,decide_eq_false (by omega)];rfl
       refine ⟨by rw [ew];omega,by rw [ew];omega,.inl ⟨_,LZ,by omega,by omega,.inl ⟨_,LE,.inl ⟨_,BO,?_⟩⟩⟩⟩
       refine ⟨by kernel_rfl,fun d6=>?_,fun d6=>?_⟩
       ·have d6:(!ltK2 z.1 y.1)=true:=d6
        exact ⟨[],[],⟨out (by rw [hP3];simpa using d6) _ rfl,rfl⟩,trivial,rfl⟩
       ·have d6:(!ltK2 z.1 y.1)=false:=d6
        exact ⟨C.length - (j+1),_,_,by omega,⟨j+1,rfl,by omega,next (by rw [hP3];simpa using d6),rfl,rfl⟩,⟨rfl,c_int (i64_succ (by omega)),trivial⟩,trivial,rfl⟩
      ·have d5:j=0:=by have:=of_decide_eq_false (show decide (((j:Nat):Int) > 0)=false by simpa using d5);omega
       refine ⟨by kernel_rfl,nofun,fun _=>?_⟩
       exact ⟨C.length - (j+1),_,_,by omega,⟨j+1,rfl,by omega,next (by rw [hP2,decide_eq_true d5];rfl),rfl,rfl⟩,⟨rfl,c_int (i64_succ (by omega)),trivial⟩,trivial,rfl⟩
     ·have d4:(!inB y.2 (-1000000000000000) 1000000000000000)=true:=by simpa using d4
      have d4:inB y.2 (-1000000000000000) 1000000000000000=false:=by simpa using d4
      refine ⟨by kernel_rfl,fun _=>?_,nofun⟩
      exact ⟨[],[],⟨out (by rw [hPk,d1,d2,d3,d4];rfl) _ rfl,rfl⟩,trivial,rfl⟩
    ·have d3:(y.2 == 0)=true:=by simpa using d3
     refine ⟨nofun,fun _=>?_⟩
     refine ⟨by kernel_rfl,fun _=>?_,nofun⟩
     exact ⟨[],[],⟨out (by rw [hPk,d1,d2,d3];rfl) _ rfl,rfl⟩,trivial,rfl⟩
   ·have d2:(!inB y.1.2 0 73048)=true:=by simpa using d2
    have d2:inB y.1.2 0 73048=false:=by simpa using d2
    refine ⟨nofun,fun _=>?_⟩
    refine ⟨nofun,fun _=>?_⟩
    refine ⟨by kernel_rfl,fun _=>?_,nofun⟩
    exact ⟨[],[],⟨out (by rw [hPk,d1,d2];rfl) _ rfl,rfl⟩,trivial,rfl⟩
  ·have d1:(!curOk y.1.1)=true:=by simpa using d1
   have d1:curOk y.1.1=false:=by simpa using d1
   refine ⟨nofun,fun _=>?_⟩
   refine ⟨nofun,fun _=>?_⟩
   refine ⟨nofun,fun _=>?_⟩
   refine ⟨by kernel_rfl,fun _=>?_,nofun⟩
   exact ⟨[],[],⟨out (by rw [hPk,d1];rfl) _ rfl,rfl⟩,trivial,rfl⟩
 ·have c2:j=C.length:=by have:=of_decide_eq_false c2;omega
  have hCk:allAt (okK C) C.length=true:=allAt_good fun j' h=>hok j' (by omega)
  exact ⟨[],[],⟨bv hCk.symm,rfl⟩,trivial,rfl⟩
theorem valid_pr {E:Env} (hE:E.P=Tryz.prog) {g:Led} {vh vc vp:Value} (I:PfIn E g vh vc vp):OwnC E 27 [SV.c (.agg #[vh,vc,vp])] [] (fun r U=>r=.bool (validP g)∧U=[]):=by
 refine sx_ownC [] tt_ok mixed at27 E hE [SV.c (.agg #[vh,vc,vp])] [] _ rfl rfl fun w X β hT=>?_
 have hE':(envC Tryz.prog tt Tryz.f27.ntmps w X (tiedK [] β)).toEnv.P=Tryz.prog:=rfl
 have hh:=I.h.of_old hT
 have hc:=I.c.of_old hT
 have hp:=I.p.of_old hT
 have hb:=I.b
 have BC:=balanced_r hE' hc hb.2.1 I.ic
 have BP:=balanced_r hE' hp hb.2.2 I.ip
 obtain ⟨ha,hcap,rfl,-,h4h⟩:=hh.shape
 obtain ⟨ca,ccap,rfl,-,h4c⟩:=hc.shape
 obtain ⟨pa,pcap,rfl,-,h4p⟩:=hp.shape
 refine ⟨rfl,_,rfl,_,fun w' _=>run_len_sl Tryz.underlying37 w',fun c=>?_,fun c=>?_⟩
 ·have c1:¬ g.h.length > 64:=by have:=of_decide_eq_false (show decide (((g.h.length:Nat):Int) > 64)=false from c);omega
  refine ⟨_,rfl,_,fun w' _=>run_len_sl Tryz.underlying38 w',fun c2=>?_,fun c2=>?_⟩
  ·have c2:g.c.length > 8:=by have:=of_decide_eq_true (show decide (((g.c.length:Nat):Int) > 8)=true from c2);omega
   exact ⟨[],[],⟨bv (by unfold validP;rw [decide_eq_true c2];simp),rfl⟩,trivial,rfl⟩
  ·have c2:¬ g.c.length > 8:=by have:=of_decide_eq_false (show decide (((g.c.length:Nat):Int) > 8)=false from c2);omega
   have hV:validP g=(allAt (okH g.h) g.h.length && (allAt (okK g.c) g.c.length && (allAt (okK g.p) g.p.length && dayB g.c))):=by unfold validP;rw [decide_eq_false c1,decide_eq_false c2];rfl
   refine ⟨fun q f m=>∃ i:Nat,q=g.h.length - i∧i≤g.h.length∧(∀ j,j < i→okH g.h j=true)∧f=[(1,SV.ptr 1 0),(3,SV.c (.int .i64 (i:Nat)))]∧m=[(1,Blk.row 40 3 #[.slice ha g.h.length hcap,.slice ca g.c.length ccap,.slice pa g.p.length pcap])],g.h.length,⟨_,_,⟨0,by omega,by omega,fun j h=>absurd h (by omega),rfl,rfl⟩,⟨rfl,rfl,trivial⟩,⟨rfl,trivial⟩,rfl⟩,?_⟩
   rintro q f m ⟨i,rfl,hi,hok,rfl,rfl⟩
   refine ⟨_,rfl,_,fun w' _=>run_len_sl Tryz.underlying37 w',fun c=>?_,fun c=>?_⟩
   ·have c:i < g.h.length:=by have:=of_decide_eq_true c;omega
    obtain ⟨b,o,rfl,h5⟩:=h4h (by omega)
    obtain ⟨y,hy⟩:∃ y,g.h[i]? = some y:=⟨_,List.getElem?_eq_getElem c⟩
    have hE'':VOk (envC Tryz.prog tt Tryz.f27.ntmps w X (tiedK [] β)):=tt_ok
    have L1:=lst_elem hE'' h5 sumA_size hy (ty:=66) (ti:=ti66) rfl rfl rfl (p:=o+(i:Int).toNat*2) rfl
    have K1:=paper_r y.1 (I.ih y (List.mem_of_getElem? hy))
    have hP:okH g.h i=(insOk y.1 && (inB y.2 1 1000000000000000 && (decide (i=0) || match g.h[i - 1]? with | none=>true | some z=>ltB z.1 y.1))):=by unfold okH;rw [hy]
    have out:okH g.h i=false→∀ b:Bool,b=false→Value.bool b=Value.bool (validP g):=fun h b hb=>by rw [hb,hV,allAt_bad c h];rfl
    have next:okH g.h i=true→∀ j',j' < i+1→okH g.h j'=true:=fun h j' hj'=>by
     rcases Nat.lt_succ_iff_lt_or_eq.1 hj' with h' | rfl
     ·exact hok j' h'
     ·exact h
    refine ⟨_,rfl,by omega,by omega,.inl ⟨_,L1,sumA_fits y,?_⟩⟩
    refine ⟨_,rfl,.inl ⟨_,K1,?_⟩⟩
    refine ⟨fun d1=>?_,fun d1=>?_⟩
    ·have d1:(!insOk y.1)=false:=d1
     have d1:insOk y.1=true:=by simpa using d1
     refine ⟨_,rfl,fun d2=>?_,fun d2=>?_⟩
     ·have d2:¬ y.2 < 1:=of_decide_eq_false d2
      refine ⟨_,rfl,fun d3=>?_,fun d3=>?_⟩
      ·have d3:¬ y.2 > 1000000000000000:=of_decide_eq_false d3
       have hB:inB y.2 1 1000000000000000=true:=inB_iff.2 ⟨by omega,by omega⟩
       have hP2:okH g.h i=(decide (i=0) || match g.h[i - 1]? with | none=>true | some z=>ltB z.1 y.1):=by rw [hP,d1,hB];rfl
       refine ⟨fun d5=>?_,fun d5=>?_⟩
       ·have d5:i > 0:=by have:=of_decide_eq_true (show decide (((i:Nat):Int) > 0)=true from d5);omega
        have ew:IntKind.i64.wrap (((i:Nat):Int) - 1)=((i - 1:Nat):Int):=by rw [i64_in (by omega)];omega
        obtain ⟨z,hz⟩:∃ z,g.h[i - 1]? = some z:=⟨_,List.getElem?_eq_getElem (by omega)⟩
        have LZ:=lst_at hE'' h5 sumA_size hz (j:=0) (v:=.string (S z.1)) rfl (ty:=9) (ti:=ti9) rfl rfl (p:=o+(IntKind.i64.wrap (((i:Nat):Int) - 1)).toNat*2+0) (by rw [ew];rfl)
        have hP3:okH g.h i=ltB z.1 y.1:=by
         rw [hP2,hz,decide_eq_false (by omega)];rfl
        refine ⟨_,rfl,by rw [ew];omega,by rw [ew];omega,.inl ⟨_,LZ,_,rfl,_,ge_str _ _,?_⟩⟩
        refine ⟨by kernel_rfl,fun d6=>?_,fun d6=>?_⟩
        ·have d6:(!ltB z.1 y.1)=true:=d6
         exact ⟨[],[],⟨out (by rw [hP3];simpa using d6) _ rfl,rfl⟩,trivial,rfl⟩
        ·have d6:(!ltB z.1 y.1)=false:=d6
         exact ⟨g.h.length - (i+1),_,_,by omega,⟨i+1,rfl,by omega,next (by rw [hP3];simpa using d6),rfl,rfl⟩,⟨rfl,c_int (i64_succ (by omega)),trivial⟩,⟨rfl,trivial⟩,rfl⟩
       ·have d5:i=0:=by have:=of_decide_eq_false (show decide (((i:Nat):Int) > 0)=false by simpa using d5);omega
        refine ⟨by kernel_rfl,nofun,fun _=>?_⟩
        exact ⟨g.h.length - (i+1),_,_,by omega,⟨i+1,rfl,by omega,next (by rw [hP2,decide_eq_true d5];rfl),rfl,rfl⟩,⟨rfl,c_int (i64_succ (by omega)),trivial⟩,⟨rfl,trivial⟩,rfl⟩
      ·have d3:y.2 > 1000000000000000:=of_decide_eq_true (by simpa using d3)
       have hB:inB y.2 1 1000000000000000=false:=by
        rw [Bool.eq_false_iff];intro h;have:=inB_iff.1 h;omega
       refine ⟨by kernel_rfl,fun _=>?_,nofun⟩
       exact ⟨[],[],⟨out (by rw [hP,hB,Bool.false_and,Bool.and_false]) _ rfl,rfl⟩,trivial,rfl⟩
     ·have d2:y.2 < 1:=of_decide_eq_true (by simpa using d2)
      have hB:inB y.2 1 1000000000000000=false:=by
       rw [Bool.eq_false_iff];intro h;have:=inB_iff.1 h;omega
      refine ⟨nofun,fun _=>?_⟩
      refine ⟨by kernel_rfl,fun _=>?_,nofun⟩
      exact ⟨[],[],⟨out (by rw [hP,hB,Bool.false_and,Bool.and_false]) _ rfl,rfl⟩,trivial,rfl⟩
    ·have d1:(!insOk y.1)=true:=by simpa using d1
     have d1:insOk y.1=false:=by simpa using d1
     refine ⟨nofun,fun _=>?_⟩
     refine ⟨nofun,fun _=>?_⟩
     refine ⟨by kernel_rfl,fun _=>?_,nofun⟩
     exact ⟨[],[],⟨out (by rw [hP,d1];rfl) _ rfl,rfl⟩,trivial,rfl⟩
   ·have c:i=g.h.length:=by have:=of_decide_eq_false c;omega
    have hH:allAt (okH g.h) g.h.length=true:=allAt_good fun j hj=>hok j (by omega)
    rw [hH,Bool.true_and] at hV
    refine ⟨fun q f m=>∃ i:Nat,q=g.c.length - i∧i≤g.c.length∧(∀ (j:Nat) y,j < i→g.c[j]? = some y→(y.1.2 == 0)=true)∧f=[(1,SV.ptr 1 0),(5,SV.c (.int .i64 (i:Nat)))]∧m=[(1,Blk.row 40 3 #[.slice ha g.h.length hcap,.slice ca g.c.length ccap,.slice pa g.p.length pcap])],g.c.length,⟨_,_,⟨0,by omega,by omega,fun j y h=>absurd h (by omega),rfl,rfl⟩,⟨rfl,rfl,trivial⟩,⟨rfl,trivial⟩,rfl⟩,?_⟩
    rintro q f m ⟨i,rfl,hi,hok,rfl,rfl⟩
    refine ⟨_,rfl,_,fun w' _=>run_len_sl Tryz.underlying38 w',fun c=>?_,fun c=>?_⟩
    ·have c:i < g.c.length:=by have:=of_decide_eq_true c;omega
     obtain ⟨b,o,rfl,h5⟩:=h4c (by omega)
     obtain ⟨y,hy⟩:∃ y,g.c[i]? = some y:=⟨_,List.getElem?_eq_getElem c⟩
     have hE'':VOk (envC Tryz.prog tt Tryz.f27.ntmps w X (tiedK [] β)):=tt_ok
     have LD:=lst_at hE'' h5 sumK_size hy (j:=1) (v:=.int .i64 y.1.2) rfl (ty:=3) (ti:=ti3) rfl rfl (p:=o+(i:Int).toNat*3+1) rfl
     refine ⟨_,rfl,by omega,by omega,.inl ⟨_,LD,fun d1=>?_,fun d1=>?_⟩⟩
     ·have d1:(y.1.2 != 0)=true:=d1
      have hb2:dayB g.c=false:=day_bad hy (by simpa using d1)
      exact ⟨[],[],⟨bv (by rw [hV,hb2,Bool.and_false,Bool.and_false]),rfl⟩,trivial,rfl⟩
     ·have d1:(y.1.2 != 0)=false:=d1
      have d1:y.1.2=0:=by simpa using d1
      exact ⟨g.c.length - (i+1),_,_,by omega,⟨i+1,rfl,by omega,(fun j z hj hz=>by
       rcases Nat.lt_succ_iff_lt_or_eq.1 hj with h | rfl
       ·exact hok j z h hz
       ·rw [hy] at hz;cases hz;rw [d1];rfl),rfl,rfl⟩,⟨rfl,c_int (i64_succ (by omega)),trivial⟩,⟨rfl,trivial⟩,rfl⟩
    ·have c:i=g.c.length:=by have:=of_decide_eq_false c;omega
     have hDy:dayB g.c=true:=day_good fun j y hy=>hok j y (by have:=(List.getElem?_eq_some_iff.1 hy).1;omega) hy
     rw [hDy,Bool.and_true] at hV
     refine ⟨_,rfl,?_⟩
     refine .inr (.inr (.inr ⟨[],[],[_],[],_,BC,rfl,trivial,rfl,trivial,?_⟩))
     rintro r U ⟨rfl,rfl⟩
     refine ⟨rfl,fun e1=>?_,fun e1=>?_⟩
     ·have e1:allAt (okK g.c) g.c.length=true:=e1
      rw [e1,Bool.true_and] at hV
      refine ⟨_,rfl,?_⟩
      refine .inr (.inr (.inr ⟨[],[],[_],[],_,BP,rfl,trivial,rfl,trivial,?_⟩))
      rintro r U ⟨rfl,rfl⟩
      exact ⟨rfl,[],[],⟨bv hV.symm,rfl⟩,trivial,rfl⟩
     ·have e1:allAt (okK g.c) g.c.length=false:=by simpa using e1
      exact ⟨[],[],⟨bv (by rw [hV,e1];rfl),rfl⟩,trivial,rfl⟩
 ·have c1:g.h.length > 64:=by have:=of_decide_eq_true (show decide (((g.h.length:Nat):Int) > 64)=true by simpa using c);omega
  refine ⟨fun _=>?_,nofun⟩
  exact ⟨[],[],⟨bv (by unfold validP;rw [decide_eq_true c1];simp),rfl⟩,trivial,rfl⟩
end Go.Proofs.YtekfkdddadcalaaGreatDoor
