/- the ledger: the portfolio. books of entries, the reference: valid, marks, Check, Visible. the reference: Held, before, put.. the reference: pay.. the reference: balances.. put and pay change one key: plain law.. position.Held; no more.. the reference: Held, put, pay, balances at lists of the caller.. the reference: enter.. the reference and the program go the same way: plain law. days, and what is left of two lists: plain law. lists with room, tails of lists, what At leaves. position.At. the laws comparisons of balances, entries, portfolios; no condition. -/
import Derived.Test.YtekfkdddadcalaaGreatDoorPositionLaterQ26
import Derived.Test.YtekfkdddadcalaaGreatDoorPositionLaterQ22
set_option maxRecDepth 100000
set_option maxHeartbeats 4000000
namespace Go.Proofs.YtekfkdddadcalaaGreatDoor
open Go Go.RowKit Go.SX
def pfL (g:Led):Led×Int:=if finE g=0 then (g,0) else (.zero,finE g)
def PfQ (g:Led) (vh vc vp:Value) (day:Int) (r:Value) (U:MemL):Prop:=∃ xh xc xp,IsL xh (pfL g).1.h.length∧IsL xc (pfL g).1.c.length∧IsL xp (pfL g).1.p.length∧r=.tuple #[.agg #[xh,xc,xp],.int .i64 (pfL g).2]∧U=[(9501,Blk.own vh 136 2 (g.h).length (cat sumA (g.h))),(9504,Blk.own vc 183 3 (g.c).length (cat sumK (g.c))),(9505,Blk.own vp 183 3 (g.p).length (cat sumK (g.p))),(9500,Blk.row 93 7 (LdA vh vc vp day)),(9506,Blk.own xh 66 2 (pfL g).1.h.length (cat sumA (pfL g).1.h)),(9507,Blk.own xc 49 3 (pfL g).1.c.length (cat sumK (pfL g).1.c)),(9508,Blk.own xp 49 3 (pfL g).1.p.length (cat sumK (pfL g).1.p))]
theorem PfQ.bad {g:Led} {vh vc vp:Value} {day e:Int} (h:pfL g=(.zero,e)):PfQ g vh vc vp day (.tuple #[.agg #[.slice none 0 0,.slice none 0 0,.slice none 0 0],.int .i64 e]) [(9501,Blk.own vh 136 2 (g.h).length (cat sumA (g.h))),(9504,Blk.own vc 183 3 (g.c).length (cat sumK (g.c))),(9505,Blk.own vp 183 3 (g.p).length (cat sumK (g.p))),(9500,Blk.row 93 7 (LdA vh vc vp day)),(9506,Blk.own (.slice none 0 0) 66 2 0 #[]),(9507,Blk.own (.slice none 0 0) 49 3 0 #[]),(9508,Blk.own (.slice none 0 0) 49 3 0 #[])]:=by
 refine ⟨.slice none 0 0,.slice none 0 0,.slice none 0 0,by rw [h];exact .nil,by rw [h];exact .nil,by rw [h];exact .nil,by rw [h],by rw [h];rfl⟩
theorem nil3_fits:Fits #[.slice none 0 0,.slice none 0 0,.slice none 0 0] 3:=⟨rfl,by simp [Value.oneCell']⟩
theorem fits3 {a b c:Value} (h1:a.oneCell'=true) (h2:b.oneCell'=true) (h3:c.oneCell'=true):Fits #[a,b,c] 3:=⟨rfl,by simp [h1,h2,h3]⟩
theorem fill_hol (x:Bs×Int) {pl:List (Nat×Nat)} (hpl:pl=[(0,1),(1,1)]):Instr.fill (fun k=>pl[k]?) ti66.zero [(0,.string (S x.1)),(1,.int .i64 x.2)]=some (sumA x):=by
 subst hpl;rfl
theorem fill_hol1 (x:Bs×Int):Instr.fill (fun k=>some (k*ti66.size,ti66.size)) (madeCells ti66.zero (1*ti66.size)) [(0,.agg (sumA x))]=some (sumA x):=by kernel_rfl
theorem info_hol:∃ q,Tryz.prog.info? 66=some q∧q.bytes=24:=info_of (by kernel_rfl)
theorem portfolio_z {E:Env} (hE:E.P=Tryz.prog) {g:Led} {vh vc vp:Value} {day:Int} (hh:IsL vh g.h.length) (hc:IsL vc g.c.length) (hp:IsL vp g.p.length) (hl:g.h.length≤10000000000∧g.c.length≤10000000000∧g.p.length≤10000000000):OwnC E 47 [SV.ptr 9500 0] [(9501,Blk.own vh 136 2 (g.h).length (cat sumA (g.h))),(9504,Blk.own vc 183 3 (g.c).length (cat sumK (g.c))),(9505,Blk.own vp 183 3 (g.p).length (cat sumK (g.p))),(9500,Blk.row 93 7 (LdA vh vc vp day))] (PfQ g vh vc vp day):=by
 refine sx_ownC [3] tt_ok mixed at47 E hE [SV.ptr 9500 0] [(9501,Blk.own vh 136 2 (g.h).length (cat sumA (g.h))),(9504,Blk.own vc 183 3 (g.c).length (cat sumK (g.c))),(9505,Blk.own vp 183 3 (g.p).length (cat sumK (g.p))),(9500,Blk.row 93 7 (LdA vh vc vp day))] _ rfl rfl fun w X β hT=>?_
 have hE':(envC Tryz.prog tt Tryz.f47.ntmps w X (tiedK [(9501,Blk.own vh 136 2 (g.h).length (cat sumA (g.h))),(9504,Blk.own vc 183 3 (g.c).length (cat sumK (g.c))),(9505,Blk.own vp 183 3 (g.p).length (cat sumK (g.p))),(9500,Blk.row 93 7 (LdA vh vc vp day))] β)).toEnv.P=Tryz.prog:=rfl
 have BC:=balances_z hE' (C:=g.c) hc rfl (by omega)
 have BP:=balances_z hE' (C:=g.p) hp rfl (by omega)
 obtain ⟨ha,hcap,rfl⟩:=hh.len
 obtain ⟨ca,ccap,rfl⟩:=hc.len
 refine ⟨fun f mm=>¬ (g.h.length > 64∨g.c.length > 8)∧f=[(0,SV.ptr 9500 0),(2,SV.ptr 2 0)]∧mm=[(2,Blk.row 40 3 #[.slice none 0 0,.slice none 0 0,.slice none 0 0]),(9501,Blk.own (.slice ha g.h.length hcap) 136 2 (g.h).length (cat sumA (g.h))),(9504,Blk.own (.slice ca g.c.length ccap) 183 3 (g.c).length (cat sumK (g.c))),(9505,Blk.own vp 183 3 (g.p).length (cat sumK (g.p))),(9500,Blk.row 93 7 (LdA (.slice ha g.h.length hcap) (.slice ca g.c.length ccap) vp day))],?_,?_⟩
 ·have bad:g.h.length > 64∨g.c.length > 8→pfL g=(.zero,123):=fun h=>by
    have:finE g=123:=by unfold finE;rw [if_pos h]
    unfold pfL;rw [this];rfl
  refine ⟨_,rfl,_,fun w' _=>run_len_sl Tryz.underlying85 w',fun c=>?_,fun c=>?_⟩
  ·have c:=of_decide_eq_false c
   refine ⟨_,rfl,_,fun w' _=>run_len_sl Tryz.underlying89 w',fun c2=>?_,fun c2=>?_⟩
   ·have c2:=of_decide_eq_true c2
    refine ⟨_,rfl,nil3_fits,?_⟩
    exact ⟨_,[],PfQ.bad (bad (.inr (by omega))),⟨.inl rfl,.inl rfl,.inl rfl,rfl,.inr ⟨rfl,rfl,rfl⟩,.inr ⟨rfl,rfl,rfl⟩,.inr ⟨rfl,rfl,rfl⟩,trivial⟩,rfl⟩
   ·have c2:=of_decide_eq_false c2
    exact ⟨_,_,⟨by omega,rfl,rfl⟩,⟨rfl,rfl,trivial⟩,⟨rfl,.inl rfl,.inl rfl,.inl rfl,rfl,trivial⟩,rfl⟩
  ·have c:=of_decide_eq_true (show decide ((g.h.length:Int) > 64)=true from c)
   have c:(g.h.length:Int) > 64:=c
   refine ⟨fun _=>?_,nofun⟩
   refine ⟨_,rfl,nil3_fits,?_⟩
   exact ⟨_,[],PfQ.bad (bad (.inl (by omega))),⟨.inl rfl,.inl rfl,.inl rfl,rfl,.inr ⟨rfl,rfl,rfl⟩,.inr ⟨rfl,rfl,rfl⟩,.inr ⟨rfl,rfl,rfl⟩,trivial⟩,rfl⟩
 ·rintro f1 m1 ⟨hmany,rfl,rfl⟩
  refine ⟨_,rfl,_,fun w' _=>run_len_sl Tryz.underlying85 w',?_⟩
  refine ⟨fun q f m=>∃ (i:Nat) (s:Value),q=g.h.length - i∧i≤g.h.length∧IsL s i∧f=[(0,SV.ptr 9500 0),(2,SV.ptr 2 0),(4,SV.ptr 4 0),(30,SV.c (.slice ha g.h.length hcap)),(31,SV.c (.int .i64 (g.h.length:Nat))),(32,SV.c (.int .i64 (i:Nat)))]∧m=[(2,Blk.row 40 3 #[.slice none 0 0,.slice none 0 0,.slice none 0 0]),(4,Blk.row 40 3 #[s,.slice none 0 0,.slice none 0 0]),(9506,Blk.own s 66 2 i (cat sumA (g.h.take i))),(9501,Blk.own (.slice ha g.h.length hcap) 136 2 (g.h).length (cat sumA (g.h))),(9504,Blk.own (.slice ca g.c.length ccap) 183 3 (g.c).length (cat sumK (g.c))),(9505,Blk.own vp 183 3 (g.p).length (cat sumK (g.p))),(9500,Blk.row 93 7 (LdA (.slice ha g.h.length hcap) (.slice ca g.c.length ccap) vp day))],g.h.length,⟨_,_,⟨0,.slice none 0 0,rfl,by omega,.nil,rfl,rfl⟩,⟨rfl,rfl,rfl,rfl,rfl,rfl,trivial⟩,⟨rfl,rfl,.inr ⟨rfl,rfl,rfl⟩,.inl rfl,.inl rfl,.inl rfl,rfl,trivial⟩,rfl⟩,?_⟩
  rintro q f m ⟨i,s,rfl,hi,hs,rfl,rfl⟩
  refine ⟨fun h=>?_,fun h=>?_⟩
  ·have h:i < g.h.length:=by have:=of_decide_eq_true h;omega
   rcases hh with ⟨hs1,hs2⟩ | ⟨g0,c0,hs1⟩
   ·omega
   cases hs1
   obtain ⟨y,hy⟩:∃ y,g.h[i]? = some y:=⟨_,List.getElem?_eq_getElem (by omega)⟩
   have L1:=cat_extract sumA_size hy
   have hsz:(cat sumA g.h).size=g.h.length*2:=Go.SX.cat_size sumA_size _
   have X1:(sumA y).extract 0 (0+1*2)=sumA y:=by simp [sumA]
   obtain ⟨q,hq,hb⟩:=info_hol
   refine ⟨by omega,by omega,.inr ⟨9501,g0,_,g.h.length,_,_,_,_,rfl,rfl,(by rw [offS,hsz];show i*2+2≤g.h.length*2;omega),sumA y,(by rw [offS];exact L1),sumA_fits y,?_⟩⟩
   refine ⟨_,rfl,_,rfl,_,rfl,_,fill_hol y rfl,.inl ⟨by decide,by decide,_,fill_hol1 y,rfl,by decide,9506,i,_,.inl rfl,by decide,(sumA_fits y).one,rfl,_,X1,?_⟩⟩
   refine ⟨by omega,by unfold maxLen;omega,⟨q,hq,by rw [hb];omega⟩,trivial,fun g2 cap2=>?_⟩
   exact ⟨by decide,rfl,#[.slice (some ⟨g2,0,none⟩) (i+1) cap2,.slice none 0 0,.slice none 0 0],rfl,g.h.length - (i+1),_,_,by omega,⟨i+1,.slice (some ⟨g2,0,none⟩) (i+1) cap2,rfl,by omega,.some,rfl,rfl⟩,⟨rfl,rfl,rfl,rfl,rfl,c_int (i64_succ (by omega)),trivial⟩,⟨rfl,rfl,.inl (own_eq (cat_take sumA hy)),.inl rfl,.inl rfl,.inl rfl,rfl,trivial⟩,rfl⟩
  ·have h:i=g.h.length:=by have:=of_decide_eq_false h;omega
   subst h
   have hmE:finE g=if amtB g.c && amtB g.p then 0 else 33:=by unfold finE;rw [if_neg hmany];rfl
   refine ⟨by decide,_,(rfl:_=#[fnW 44,.slice ca g.c.length ccap]),?_⟩
   refine .inr (.inr (.inr ⟨[(9501,9504),(9506,9507)],[9507],[_],[_],_,BC,rfl,⟨.inl rfl,trivial⟩,rfl,trivial,?_⟩))
   rintro r U ⟨xc,hxc,rfl,rfl⟩
   refine ⟨rfl,by decide,isL_one hxc,#[s,xc,.slice none 0 0],rfl,?_⟩
   refine ⟨by decide,_,(rfl:_=#[fnW 44,vp]),?_⟩
   refine .inr (.inr (.inr ⟨[(9501,9505),(9506,9508)],[9508],[_],[_],_,BP,rfl,⟨.inl rfl,trivial⟩,rfl,trivial,?_⟩))
   rintro r U ⟨xp,hxp,rfl,rfl⟩
   refine ⟨rfl,by decide,isL_one hxp,#[s,xc,xp],rfl,?_⟩
   have bad:(amtB g.c && amtB g.p)=false→pfL g=(.zero,33):=fun h=>by
    have:finE g=33:=by rw [hmE,h];rfl
    unfold pfL;rw [this];rfl
   refine ⟨fun c=>?_,fun c=>?_⟩
   ·have c:(!amtB g.c)=false:=c
    have c:amtB g.c=true:=by simpa using c
    refine ⟨fun c2=>?_,fun c2=>?_⟩
    ·have c2:(!amtB g.p)=true:=c2
     have c2:amtB g.p=false:=by simpa using c2
     refine ⟨_,rfl,nil3_fits,?_⟩
     exact ⟨_,[],PfQ.bad (bad (by rw [c2,Bool.and_false])),⟨.inl rfl,.inl rfl,.inl rfl,rfl,.inr ⟨rfl,rfl,rfl⟩,.inr ⟨rfl,rfl,rfl⟩,.inr ⟨rfl,rfl,rfl⟩,trivial⟩,rfl⟩
    ·have c2:(!amtB g.p)=false:=c2
     have c2:amtB g.p=true:=by simpa using c2
     have hP:pfL g=(g,0):=by
      have:finE g=0:=by rw [hmE,c,c2];rfl
      unfold pfL;rw [this];rfl
     have Q:PfQ g (.slice ha g.h.length hcap) (.slice ca g.c.length ccap) vp day (.tuple #[.agg #[s,xc,xp],.int .i64 0]) [(9501,Blk.own (.slice ha g.h.length hcap) 136 2 (g.h).length (cat sumA (g.h))),(9504,Blk.own (.slice ca g.c.length ccap) 183 3 (g.c).length (cat sumK (g.c))),(9505,Blk.own vp 183 3 (g.p).length (cat sumK (g.p))),(9500,Blk.row 93 7 (LdA (.slice ha g.h.length hcap) (.slice ca g.c.length ccap) vp day)),(9506,Blk.own s 66 2 g.h.length (cat sumA g.h)),(9507,Blk.own xc 49 3 g.c.length (cat sumK g.c)),(9508,Blk.own xp 49 3 g.p.length (cat sumK g.p))]:=⟨s,xc,xp,by rw [hP];exact hs,by rw [hP];exact hxc,by rw [hP];exact hxp,by rw [hP],by rw [hP]⟩
     exact ⟨fits3 (isL_one hs) (isL_one hxc) (isL_one hxp),_,[],Q,⟨.inl rfl,.inl rfl,.inl rfl,rfl,.inl (own_eq (by rw [List.take_length])),.inl rfl,.inl rfl,trivial⟩,rfl⟩
   ·have c:(!amtB g.c)=true:=by simpa using c
    have c:amtB g.c=false:=by simpa using c
    refine ⟨fun _=>?_,nofun⟩
    refine ⟨_,rfl,nil3_fits,?_⟩
    exact ⟨_,[],PfQ.bad (bad (by rw [c,Bool.false_and])),⟨.inl rfl,.inl rfl,.inl rfl,rfl,.inr ⟨rfl,rfl,rfl⟩,.inr ⟨rfl,rfl,rfl⟩,.inr ⟨rfl,rfl,rfl⟩,trivial⟩,rfl⟩
theorem take_one {α:Type} {l:List α} {i:Nat} {x:α} (h:l[i]? = some x):l.take (i+1)=l.take i++[x]:=by
 rw [List.take_add_one,h];rfl
theorem held_z {E:Env} (hE:E.P=Tryz.prog) {v vc vp:Value} {xs:List (Bs×Int)} {k:Bs} (hv:Lst E v 2 xs.length (cat sumA xs)) (hn:xs.length≤1000000000000):OwnC E 19 [SV.c (.agg #[v,vc,vp]),SV.c (.string (S k))] [] (fun x U=>x=.int .i64 (getA xs k)∧U=[]):=by
 refine sx_ownC [] tt_ok mixed at19 E hE [SV.c (.agg #[v,vc,vp]),SV.c (.string (S k))] [] _ rfl rfl fun w X β hT=>?_
 obtain ⟨a,cap,rfl,hc,h4⟩:=(hv.of_old hT).shape
 refine ⟨rfl,_,rfl,_,fun w' _=>run_len_sl Tryz.underlying37 w',?_⟩
 refine ⟨fun q f m=>∃ (i:Nat),q=xs.length - i∧i≤xs.length∧(∀ x∈xs.take i,x.1≠k)∧f=[(1,SV.c (.string (S k))),(8,SV.c (.slice a xs.length cap)),(9,SV.c (.int .i64 (xs.length:Nat))),(10,SV.c (.int .i64 (i:Nat)))]∧m=[],xs.length,⟨_,_,⟨0,rfl,by omega,fun x h=>by simp at h,rfl,rfl⟩,⟨rfl,rfl,rfl,rfl,trivial⟩,trivial,rfl⟩,?_⟩
 rintro q f m ⟨i,rfl,hi,hk,rfl,rfl⟩
 refine ⟨fun h=>?_,fun h=>?_⟩
 ·have h:i < xs.length:=by have:=of_decide_eq_true h;omega
  obtain ⟨b,o,rfl,h5⟩:=h4 (by omega)
  obtain ⟨y,hy⟩:∃ y,xs[i]? = some y:=⟨_,List.getElem?_eq_getElem h⟩
  have hE':VOk (envC Tryz.prog tt Tryz.f19.ntmps w X (tiedK [] β)):=tt_ok
  have L2:=lst_elem hE' h5 sumA_size hy (ty:=66) (ti:=ti66) rfl rfl rfl (p:=o+(i:Int).toNat*2) rfl
  refine ⟨by omega,by omega,.inl ⟨_,L2,sumA_fits y,_,rfl,fun c=>?_,fun c=>?_⟩⟩
  ·have c:y.1=k:=by have c:=(S_beq y.1 k).symm.trans c;simpa using c
   have e:getA xs k=y.2:=by
    have e1:xs=xs.take i++y :: xs.drop (i+1):=by rw [← drop_at hy,List.take_append_drop]
    rw [e1,getA_skip hk,← c];exact getA_hit (k:=y.1) (n:=y.2)
   exact ⟨_,rfl,[],[],⟨by rw [e];rfl,rfl⟩,trivial,rfl⟩
  ·have c:¬ y.1=k:=by have c:=(S_beq y.1 k).symm.trans c;simpa using c
   have hk':∀ x∈xs.take (i+1),x.1≠k:=fun x hx=>by
    rw [take_one hy] at hx
    rcases List.mem_append.1 hx with hx | hx
    ·exact hk x hx
    ·rw [List.mem_singleton.1 hx];exact c
   exact ⟨xs.length - (i+1),_,_,by omega,⟨i+1,rfl,by omega,hk',rfl,rfl⟩,⟨rfl,rfl,rfl,c_int (i64_succ (by omega)),trivial⟩,trivial,rfl⟩
 ·have h:i=xs.length:=by have:=of_decide_eq_false h;omega
  subst h
  rw [List.take_length] at hk
  exact ⟨[],[],⟨by rw [getA_none hk];rfl,rfl⟩,trivial,rfl⟩
theorem sumA_one (x:Bs×Int):(sumA x).all (·.oneCell')=true:=(sumA_fits x).one
structure SimG (r g:Led):Prop where
 h:Sim ltB r.h g.h
 c:Sim ltK2 r.c g.c
 p:Sim ltK2 r.p g.p
theorem SimG.zero:SimG .zero .zero:=⟨Sim.nil _,Sim.nil _,Sim.nil _⟩
def HOk (H:List (Bs×Int)):Prop:=(SrtA ltB H∧NzA H)∧HB H
theorem HOk.set {H:List (Bs×Int)} (h:HOk H) (k:Bs) {v:Int} (hv:0≤v∧v≤1000000000000000):HOk (setA ltB H k v) :=
 ⟨⟨(setA_upd ltB_ok h.1.1 k v).srt,setA_nz ltB_ok h.1.1 h.1.2 k v⟩,HB.set h.2 h.1.1 hv⟩
theorem HOk.hold {H H':List (Bs×Int)} (h:HOk H) {k:Bs} {n:Int} (e:holdL H k n=.ok H'):HOk H'∧H'=setA ltB H k (getA H k+n)∧0≤getA H k+n∧getA H k+n≤1000000000000000:=by
 unfold holdL at e
 split at e
 ·cases e
 ·split at e
  ·cases e
  ·cases e
   exact ⟨h.set k (by omega),rfl,by omega,by omega⟩
theorem pay_ok {f:List (Ky×Int)} (h:SrtA ltK2 f∧NzA f) (k:Ky) (n:Int):SrtA ltK2 (payL f k n)∧NzA (payL f k n) :=
 ⟨(setA_upd ltK2_ok h.1 k _).srt,setA_nz ltK2_ok h.1 h.2 k _⟩
theorem LedOk.hok {g:Led} (h:LedOk g):HOk g.h:=⟨h.h,h.b⟩
theorem settle_ok {day:Int} {g:Led} (h:LedOk g) (x:EC):LedOk (settleL day g x):=by
 unfold settleL
 split
 ·exact ⟨h.h,pay_ok h.c _ _,h.p,h.b⟩
 ·exact ⟨h.h,h.c,pay_ok h.p _ _,h.b⟩
theorem act_okL {g g':Led} (h:LedOk g) {a:AC} (e:actL g a=.ok g'):LedOk g'∧g'.h.length≤g.h.length+2∧g'.c.length≤g.c.length+1∧g'.p=g.p:=by
 unfold actL at e
 split at e
 ·cases e
 ·split at e
  ·cases e
  ·rename_i H hH
   cases e
   obtain ⟨h1,h2,-,-⟩:=(h.hok.set a.ins (v:=0) (by decide)).hold hH
   refine ⟨⟨h1.1,pay_ok h.c _ _,h.p,h1.2⟩,?_,setA_len _ _ _,rfl⟩
   show H.length≤_
   rw [h2]
   have l1:=setA_len (lt:=ltB) (setA ltB g.h a.ins 0) (applyA a (getA g.h a.ins)).1.ins (getA (setA ltB g.h a.ins 0) (applyA a (getA g.h a.ins)).1.ins+(applyA a (getA g.h a.ins)).1.qty)
   have l2:=setA_len (lt:=ltB) g.h a.ins 0
   omega
theorem settle_len (day:Int) (g:Led) (x:EC):(settleL day g x).c.length≤g.c.length+1∧(settleL day g x).p.length≤g.p.length+1:=by
 unfold settleL
 split
 ·exact ⟨setA_len _ _ _,by simp⟩
 ·exact ⟨by simp,setA_len _ _ _⟩
theorem ent_okL {day:Int} {g g':Led} (h:LedOk g) {x:EC} (e:entL day g x=.ok g'):LedOk g'∧g'.h.length≤g.h.length+1∧g'.c.length≤g.c.length+1∧g'.p.length≤g.p.length+1:=by
 have hs:=settle_ok (day:=day) h x
 have hl:=settle_len day g x
 unfold entL at e
 split at e
 ·cases e
  exact ⟨hs,by rw [settle_h];omega,hl.1,hl.2⟩
 ·split at e
  ·cases e
  ·rename_i H hH
   cases e
   obtain ⟨h1,h2,-,-⟩:=h.hok.hold hH
   refine ⟨⟨h1.1,hs.c,hs.p,h1.2⟩,?_,hl.1,hl.2⟩
   show H.length≤_
   rw [h2];exact setA_len _ _ _
theorem step_okL {day:Int} {g g':Led} (h:LedOk g) {o:Ev} (e:stepL day g o=.ok g'):LedOk g'∧g'.h.length≤g.h.length+2∧g'.c.length≤g.c.length+1∧g'.p.length≤g.p.length+1:=by
 cases o with
 | inl a =>
  obtain ⟨h1,h2,h3,h4⟩:=act_okL h e
  exact ⟨h1,h2,h3,by rw [h4];omega⟩
 | inr x =>
  obtain ⟨h1,h2,h3,h4⟩:=ent_okL h e
  exact ⟨h1,by omega,h3,h4⟩
structure EOk (x:EC):Prop where
 q : -1000000000000000≤x.qty∧x.qty≤1000000000000000
 m:w64 x.amt=x.amt
 d:0≤x.day∧x.day≤73048
 k:x.kind=1∨x.kind=2∨(x.kind=0∧x.qty=0)
theorem inB_iff {n lo hi:Int}:inB n lo hi=true↔lo≤n∧n≤hi:=by
 unfold inB
 rw [Bool.and_eq_true,decide_eq_true_eq,decide_eq_true_eq]
theorem EC.beq_nil {x:EC} {key:List UInt8} {known:Int} (h:x.beq (.nil key known)=true):x.kind=0∧x.day=0∧x.qty=0∧x.amt=0:=by
 unfold EC.beq EC.nil at h
 simp only [Bool.and_eq_true,beq_iff_eq] at h
 exact ⟨h.1,h.2.2.1,h.2.2.2.2.2.1,h.2.2.2.2.2.2.1⟩
theorem EOk.of {x:EC} (h:validE x=true):EOk x:=by
 unfold validE at h
 simp only [Bool.and_eq_true] at h
 obtain ⟨-,h⟩:=h
 split at h
 ·obtain ⟨h1,h2,h3,h4⟩:=EC.beq_nil h
  exact ⟨by omega,by rw [h4];rfl,by omega,.inr (.inr ⟨h1,h3⟩)⟩
 ·simp only [Bool.and_eq_true,bodyE,inB_iff,decide_eq_true_eq] at h
  obtain ⟨⟨h1,h2,h3,-⟩,h4⟩:=h
  have hm:w64 x.amt=x.amt:=w64_in (by omega)
  unfold kindE at h4
  split at h4
  ·rename_i hk
   simp only [Bool.and_eq_true,inB_iff] at h4
   exact ⟨h4.2.2,hm,by omega,.inl hk⟩
  ·split at h4
   ·rename_i hk
    simp only [Bool.and_eq_true,beq_iff_eq] at h4
    exact ⟨by omega,hm,by omega,.inr (.inl hk)⟩
   ·cases h4
def atP (xs:List EC) (al:List AC) (k day:Int):Led×Int :=
 if chkX xs≠0 then (.zero,chkX xs) else if chkA al≠0 then (.zero,chkA al) else if inB day 0 73048=false then (.zero,50) else finL (runL day .zero (opsL (visA al k) (visX xs k) day))
theorem visX_ok {xs:List EC} {k:Int}:∀ x∈visX xs k,x∈xs∧EOk x:=fun x hx=>by
 unfold visX at hx
 split at hx
 ·rename_i h
  obtain ⟨i,-,hi⟩:=List.mem_filterMap.1 hx
  have hm:=List.mem_of_getElem? hi
  refine ⟨hm,.of ?_⟩
  unfold chkX at h
  split at h
  ·rename_i h';exact List.all_eq_true.1 h' x hm
  ·cases h
 ·cases hx
theorem visA_mem {al:List AC} {k:Int}:∀ x∈visA al k,x∈al∧validA x=true:=fun x hx=>by
 unfold visA at hx
 split at hx
 ·rename_i h
  obtain ⟨i,-,hi⟩:=List.mem_filterMap.1 hx
  have hm:=List.mem_of_getElem? hi
  refine ⟨hm,?_⟩
  unfold chkA at h
  split at h
  ·rename_i h';exact List.all_eq_true.1 h' x hm
  ·cases h
 ·cases hx
/-! ### what is left of the two lists of the program -/
def restL (day:Int) (al:List AC) (xs:List EC):List Ev:=(mergeK dayO (al.map (Sum.inl:AC→Ev)) (xs.map (Sum.inr:EC→Ev))).filter fun o=>decide (dayO o≤day)
theorem srt_inl {al:List AC} (h:Srt AC.day al):Srt dayO (al.map (Sum.inl:AC→Ev)):=List.pairwise_map.2 h
theorem srt_inr {xs:List EC} (h:Srt EC.day xs):Srt dayO (xs.map (Sum.inr:EC→Ev)):=List.pairwise_map.2 h
theorem rest_end {day:Int} {al:List AC} {xs:List EC} (ha:Srt AC.day al) (hx:Srt EC.day xs) {o:Ev} {r:List Ev} (h:mergeK dayO (al.map (Sum.inl:AC→Ev)) (xs.map (Sum.inr:EC→Ev))=o :: r) (hd:day < dayO o):restL day al xs=[]:=by
 have hs:=merge_srt dayO (srt_inl ha) (srt_inr hx)
 unfold restL
 rw [h] at hs ⊢
 obtain ⟨h1,-⟩:=List.pairwise_cons.1 hs
 refine List.filter_eq_nil_iff.2 fun z hz=>?_
 simp only [decide_eq_true_eq]
 rcases List.mem_cons.1 hz with rfl | hz
 ·omega
 ·have:=h1 z hz;omega
theorem merge_a {a:AC} {al:List AC} {xs:List EC} (h:∀ x,xs[0]? = some x→a.day≤x.day):mergeK dayO ((a :: al).map (Sum.inl:AC→Ev)) (xs.map (Sum.inr:EC→Ev))=.inl a :: mergeK dayO (al.map (Sum.inl:AC→Ev)) (xs.map (Sum.inr:EC→Ev)):=by
 cases xs with
 | nil=>rw [List.map_nil,mergeK_nr,mergeK_nr];rfl
 | cons x r =>
  have:=h x rfl
  show mergeK dayO (.inl a :: _) (.inr x :: _)=_
  rw [mergeK_cons,if_pos (show dayO (.inl a)≤dayO (.inr x) from this)];rfl
theorem merge_x {x:EC} {al:List AC} {xs:List EC} (h:∀ a,al[0]? = some a→¬ a.day≤x.day):mergeK dayO (al.map (Sum.inl:AC→Ev)) ((x :: xs).map (Sum.inr:EC→Ev))=.inr x :: mergeK dayO (al.map (Sum.inl:AC→Ev)) (xs.map (Sum.inr:EC→Ev)):=by
 cases al with
 | nil=>rw [List.map_nil,mergeK_nl,mergeK_nl];rfl
 | cons a r =>
  have:=h a rfl
  show mergeK dayO (.inl a :: _) (.inr x :: _)=_
  rw [mergeK_cons,if_neg (show ¬ dayO (.inl a)≤dayO (.inr x) from this)];rfl
theorem rest_a {day:Int} {a:AC} {al:List AC} {xs:List EC} (h:∀ x,xs[0]? = some x→a.day≤x.day) (hd:a.day≤day):restL day (a :: al) xs=.inl a :: restL day al xs:=by
 unfold restL
 rw [merge_a h,List.filter_cons,if_pos (decide_eq_true (show dayO (.inl a)≤day from hd))]
theorem rest_x {day:Int} {x:EC} {al:List AC} {xs:List EC} (h:∀ a,al[0]? = some a→¬ a.day≤x.day) (hd:x.day≤day):restL day al (x :: xs)=.inr x :: restL day al xs:=by
 unfold restL
 rw [merge_x h,List.filter_cons,if_pos (decide_eq_true (show dayO (.inr x)≤day from hd))]
theorem rest_nil (day:Int):restL day [] []=[]:=by
 unfold restL
 rw [List.map_nil,List.map_nil,mergeK_nl]
 rfl
theorem rest_all (al:List AC) (xs:List EC) (day:Int):restL day (stabK AC.day al) (stabK EC.day xs)=opsL al xs day:=(ops_merge al xs day).symm
def CapU (U:MemL):Prop:=∀ d v e sz n A,getM U d=some (Blk.own v e sz n A)→∃ a c,v=.slice a n c∧n≤c
theorem OwnC.caps {E:Env} {f:FuncId} {vs:List SV} {pre:MemL} {Q:Value→MemL→Prop} (h:OwnC E f vs pre Q):OwnC E f vs pre (fun r U=>Q r U∧CapU U) :=
 ⟨h.1,fun ρ w xs h1 h2=>(h.2 ρ w xs h1 h2).mono fun _e w' ⟨x,U,h3,h4,h5,h6⟩=>⟨x,U,h3,⟨h4,fun d v e sz n A hd=>by
  have h7:w'.ownsRow 0 e sz v n A.toList:=(h5.loose d _ hd rfl).2
  rcases h7.2 with ⟨h0,hn⟩ | ⟨g',cap',cur,hv,hb,hg,hnc,hcm,hcs,htake⟩
  ·exact ⟨none,0,by rw [h0,hn],by omega⟩
  ·exact ⟨_,cap',hv,hnc⟩⟩,h5,h6⟩⟩
def TailS (x:Value) (sz n i:Nat) (v:Value):Prop:=i≤n∧∃ a c,v=.slice a (n - i) c∧n - i≤c∧(i < n→∃ g c0,x=.slice (some ⟨g,0,none⟩) n c0∧a=some ⟨g,i*sz,none⟩)
theorem TailS.start {x:Value} {sz n:Nat} (h:IsL x n) (hc:∃ a c,x=.slice a n c∧n≤c):TailS x sz n 0 x:=by
 obtain ⟨a,c,rfl,hn⟩:=hc
 refine ⟨by omega,a,c,rfl,by omega,fun h0=>?_⟩
 rcases h with ⟨h1,h2⟩ | ⟨g,c0,h1⟩
 ·omega
 ·cases h1
  exact ⟨g,c,rfl,by rw [Nat.zero_mul]⟩
theorem TailS.next {x:Value} {sz n i c m:Nat} {a:Option Addr} (hz:sz≠0) (h:TailS x sz n i (.slice a m c)) (hi:i < n):TailS x sz n (i+1) (.slice (if c=1 then a else a.map (·.add (1*sz))) (m - 1) (c - 1)):=by
 obtain ⟨h1,a',c',h2,h3,h4⟩:=h
 cases h2
 refine ⟨by omega,_,_,rfl,by omega,fun h5=>?_⟩
 obtain ⟨g,c0,h6,rfl⟩:=h4 hi
 refine ⟨g,c0,h6,?_⟩
 rw [if_neg (by omega)]
 show some (Addr.add ⟨g,i*sz,none⟩ (1*sz))=_
 simp only [Addr.add,Nat.succ_mul,Nat.zero_mul,Nat.zero_add,if_neg hz]
theorem TailS.len {x v:Value} {sz n i:Nat} (h:TailS x sz n i v):∃ a c,v=.slice a (n - i) c:=by
 obtain ⟨-,a,c,h,-⟩:=h
 exact ⟨a,c,h⟩
theorem TailS.at {x v:Value} {sz n i:Nat} (h:TailS x sz n i v) (hi:i < n):∃ g c0 c,x=.slice (some ⟨g,0,none⟩) n c0∧v=.slice (some ⟨g,i*sz,none⟩) (n - i) c:=by
 obtain ⟨-,a,c,rfl,-,h4⟩:=h
 obtain ⟨g,c0,h5,rfl⟩:=h4 hi
 exact ⟨g,c0,c,h5,rfl⟩
theorem elem_is18 {P:Program} {t e:TypeId} (hu:P.underlying t=some (.slice e)):P.elem t=e:=by simp [Program.elem,hu]
theorem runs_lo18 {E:VE} (hE:VOk E) {t e:TypeId} (hu:E.P.underlying t=some (.slice e)) {j:TI} (hj:E.tt e=some j) {a:Option Addr} {n cap:Nat} {k:IntKind} {x:Int} (i:Nat) (hx:x=i) (hi:i≤n):Runs E.toEnv (Instr.sliceAt t (.slice a n cap) (some (.int k x)) none none) (.slice (if cap=i then a else a.map (·.add (i*j.size))) (n - i) (cap - i)):=fun w _=>by
 subst hx
 have he:=elem_is18 hu
 have hu2:E.P.underlying t=some (.slice (E.P.elem t)):=by rw [he];exact hu
 rw [run_sliceAt_slice _ t _ _ _ _ hu2,run_slice_l _ t a n cap hu2 k i (by omega) (by omega),he,Go.SX.run_sizeOf (hE _ j hj)]
 simp only [Result.andThen_ok,sliced,Int.toNat_natCast]
def AtQ (R:Led×Int) (r:Value) (U:MemL):Prop:=∃ xh xc xp,IsL xh R.1.h.length∧IsL xc R.1.c.length∧IsL xp R.1.p.length∧r=.tuple #[.agg #[xh,xc,xp],.int .i64 R.2]∧U=[(9506,Blk.own xh 66 2 R.1.h.length (cat sumA R.1.h)),(9507,Blk.own xc 49 3 R.1.c.length (cat sumK R.1.c)),(9508,Blk.own xp 49 3 R.1.p.length (cat sumK R.1.p))]
theorem AtQ.bad (e:Int):AtQ (.zero,e) (.tuple #[.agg #[.slice none 0 0,.slice none 0 0,.slice none 0 0],.int .i64 e]) [(9506,Blk.own (.slice none 0 0) 66 2 0 #[]),(9507,Blk.own (.slice none 0 0) 49 3 0 #[]),(9508,Blk.own (.slice none 0 0) 49 3 0 #[])] :=
 ⟨.slice none 0 0,.slice none 0 0,.slice none 0 0,.nil,.nil,.nil,rfl,rfl⟩
theorem day_ok {a:AC} (h:validA a=true):0≤a.day∧a.day≤73048:=by
 unfold validA at h
 simp only [Bool.and_eq_true] at h
 obtain ⟨-,h⟩:=h
 split at h
 ·unfold AC.beq AC.nil at h
  simp only [Bool.and_eq_true,beq_iff_eq] at h
  have:=h.2.2.2.2.1
  omega
 ·simp only [Bool.and_eq_true,bodyOk,Bool.not_eq_true',decide_eq_false_iff_not] at h
  omega
theorem visX_len {xs:List EC} {k:Int} (h:chkX xs=0):(visX xs k).length≤4096:=by
 unfold visX
 rw [if_pos h,fm_lenE fun i hi=>visNE_mem hi]
 have h1:=visNE_len xs k
 have h2:=(chkX_zero h).2
 omega
theorem visA_len {al:List AC} {k:Int} (h:chkA al=0):(visA al k).length≤4096:=by
 unfold visA
 rw [if_pos h,fm_len fun i hi=>visN_mem hi]
 have h1:=visN_len al k
 have h2:=(chkA_zero h).2
 omega
theorem offA0 (i:Nat):offAt (i*76) 0 ti61.size=i*76:=by
 show offAt (i*76) 0 76=i*76
 simp [offAt]
theorem offX0 (i:Nat):offAt (i*10) 0 ti31.size=i*10:=by
 show offAt (i*10) 0 10=i*10
 simp [offAt]
theorem at_z {E:Env} (hE:E.P=Tryz.prog) {ve va:Value} {xs:List EC} {al:List AC} {k day:Int} (hv:Lst E ve 10 xs.length (cat EC.A xs)) (hva:Lst E va 76 al.length (cat AC.A al)) (hn:xs.length≤2000000000000) (hm:al.length≤1000000000000) (hin:∀ y∈xs,y.In) (hina:∀ y∈al,y.In):OwnC E 17 [SV.c ve,SV.c va,SV.c (.int .i64 k),SV.c (.int .i64 day)] [] (AtQ (atP xs al k day)):=by
 refine sx_ownC [21,23] tt_ok mixed at17 E hE [SV.c ve,SV.c va,SV.c (.int .i64 k),SV.c (.int .i64 day)] [] _ rfl rfl fun w X β hT=>?_
 have hv':=hv.of_old hT
 have hva':=hva.of_old hT
 have C1:=OwnC.caps (vis_e (E:=(envC Tryz.prog tt Tryz.f17.ntmps w X (tiedK [] β) [21,23]).toEnv) (k:=k) rfl hv' hn hin)
 have C2:=OwnC.caps (vis_za (E:=(envC Tryz.prog tt Tryz.f17.ntmps w X (tiedK [] β) [21,23]).toEnv) (k:=k) rfl hva' hm hina)
 refine .inr (.inr (.inr ⟨[],[3000],[_,_],[],_,C1,rfl,trivial,rfl,trivial,?_⟩))
 rintro r U ⟨⟨sx,nx,hsx,rfl,hx,rfl⟩,hcx⟩
 refine ⟨rfl,?_⟩
 have bad:∀ e:Int,atP xs al k day=(.zero,e)→AtQ (atP xs al k day) (.tuple #[.agg #[.slice none 0 0,.slice none 0 0,.slice none 0 0],.int .i64 e]) [(9506,Blk.own (.slice none 0 0) 66 2 0 #[]),(9507,Blk.own (.slice none 0 0) 49 3 0 #[]),(9508,Blk.own (.slice none 0 0) 49 3 0 #[])]:=fun e h=>by
  rw [h];exact AtQ.bad e
 refine ⟨fun h=>?_,fun h=>?_⟩
 ·have h:(chkX xs != 0)=true:=h
  have h:chkX xs≠0:=by simpa using h
  have hP:atP xs al k day=(.zero,chkX xs):=by unfold atP;rw [if_pos h]
  refine ⟨_,rfl,nil3_fits,?_⟩
  exact ⟨_,[],bad _ hP,⟨.inr ⟨rfl,rfl,rfl⟩,.inr ⟨rfl,rfl,rfl⟩,.inr ⟨rfl,rfl,rfl⟩,trivial⟩,rfl⟩
 have h:(chkX xs != 0)=false:=h
 have hX:chkX xs=0:=by simpa using h
 refine .inr (.inr (.inr ⟨[(3000,3001)],[3001],[_,_],[],_,C2,rfl,trivial,rfl,trivial,?_⟩))
 rintro r U ⟨⟨sa,na,hsa,rfl,ha,rfl⟩,hca⟩
 refine ⟨rfl,?_⟩
 refine ⟨fun h=>?_,fun h=>?_⟩
 ·have h:(chkA al != 0)=true:=h
  have h:chkA al≠0:=by simpa using h
  have hP:atP xs al k day=(.zero,chkA al):=by unfold atP;rw [if_neg (fun h=>h hX),if_pos h]
  refine ⟨_,rfl,nil3_fits,?_⟩
  exact ⟨_,[],bad _ hP,⟨.inr ⟨rfl,rfl,rfl⟩,.inr ⟨rfl,rfl,rfl⟩,.inr ⟨rfl,rfl,rfl⟩,trivial⟩,rfl⟩
 have h:(chkA al != 0)=false:=h
 have hA:chkA al=0:=by simpa using h
 refine .inl ⟨_,within_p day 0 73048,fun h=>?_,fun h=>?_⟩
 ·have h:(!(inB day 0 73048))=true:=h
  have h:inB day 0 73048=false:=by simpa using h
  have hP:atP xs al k day=(.zero,50):=by unfold atP;rw [if_neg (fun h=>h hX),if_neg (fun h=>h hA),if_pos h]
  refine ⟨_,rfl,nil3_fits,?_⟩
  exact ⟨_,[],bad _ hP,⟨.inr ⟨rfl,rfl,rfl⟩,.inr ⟨rfl,rfl,rfl⟩,.inr ⟨rfl,rfl,rfl⟩,trivial⟩,rfl⟩
 have h:(!(inB day 0 73048))=false:=h
 have hD:inB day 0 73048=true:=by simpa using h
 have hP:atP xs al k day=finL (runL day .zero (opsL (visA al k) (visX xs k) day)):=by unfold atP;rw [if_neg (fun h=>h hX),if_neg (fun h=>h hA),if_neg (by rw [hD];decide)]
 have dX:dayIne (visX xs k):=fun z hz=>(visX_ok z hz).2.d
 have dA:dayIna (visA al k):=fun z hz=>day_ok (visA_mem z hz).2
 have nX:nx≤4096:=by rw [hsx];exact visX_len hX
 have nA:na≤4096:=by rw [hsa];exact visA_len hA
 have hcx:=hcx 3000 _ _ _ _ _ rfl
 have hca:=hca 3000 _ _ _ _ _ rfl
 have S1:=sortS_e (E:=(envC Tryz.prog tt Tryz.f17.ntmps w X (tiedK [] β) [21,23]).toEnv) rfl hx hsx (by omega) dX
 have S2:=sortS_a (E:=(envC Tryz.prog tt Tryz.f17.ntmps w X (tiedK [] β) [21,23]).toEnv) rfl ha hsa (by omega) dA
 refine .inr (.inr (.inl ⟨[(6000,3000)],[_,_],[_],_,[_],S1,rfl,⟨.inl rfl,trivial⟩,rfl,rfl,?_⟩))
 refine .inr (.inr (.inl ⟨[(6000,3001)],[_,_],[_],_,[_],S2,rfl,⟨.inl rfl,trivial⟩,rfl,rfl,?_⟩))
 refine ⟨#[fnW 43,.slice none 0 0],rfl,#[fnW 44,.slice none 0 0],rfl,#[fnW 44,.slice none 0 0],rfl,LdA (.slice none 0 0) (.slice none 0 0) (.slice none 0 0) day,rfl,?_⟩
 have sA:Srt AC.day (stabK AC.day (visA al k)):=(stabK_stab AC.day _).srt
 have sX:Srt EC.day (stabK EC.day (visX xs k)):=(stabK_stab EC.day _).srt
 have lA:(stabK AC.day (visA al k)).length=na:=by rw [(stabK_stab AC.day _).len];exact hsa.symm
 have lX:(stabK EC.day (visX xs k)).length=nx:=by rw [(stabK_stab EC.day _).len];exact hsx.symm
 have mA:∀ a∈stabK AC.day (visA al k),a.In:=fun a h=>hina a (visA_mem a ((stabK_stab AC.day _).perm.mem_iff.1 h)).1
 have mX:∀ x∈stabK EC.day (visX xs k),EOk x:=fun x h=>(visX_ok x ((stabK_stab EC.day _).perm.mem_iff.1 h)).2
 rw [← rest_all] at hP
 generalize stabK AC.day (visA al k)=A at sA lA mA hP ⊢
 generalize stabK EC.day (visX xs k)=B at sX lX mX hP ⊢
 refine ⟨rfl,fun f m=>∃ (g:Led) (vh vc vp:Value),IsL vh g.h.length∧IsL vc g.c.length∧IsL vp g.p.length∧(g.h.length≤16384∧g.c.length≤8192∧g.p.length≤8192)∧atP xs al k day=pfL g∧f=[(8,SV.ptr 8 0),(13,SV.ptr 48 0)]∧m=[(8,Blk.row 40 3 #[.slice none 0 0,.slice none 0 0,.slice none 0 0]),(48,Blk.row 93 7 (LdA vh vc vp day)),(9501,Blk.own vh 136 2 (g.h).length (cat sumA g.h)),(9504,Blk.own vc 183 3 (g.c).length (cat sumK g.c)),(9505,Blk.own vp 183 3 (g.p).length (cat sumK g.p))],?_,?_⟩
 rotate_left
 ·rintro f1 m1 ⟨g,vh,vc,vp,hh,hc,hp,hl,hF,rfl,rfl⟩
  have PO:=portfolio_z (E:=(envC Tryz.prog tt Tryz.f17.ntmps w X (tiedK [] β) [21,23]).toEnv) (day:=day) rfl hh hc hp (by omega)
  refine .inr (.inr (.inr ⟨[(9500,48)],[9506,9507,9508],[_],[_,_,_,_],_,PO,rfl,⟨.inl rfl,.inl rfl,.inl rfl,rfl,trivial⟩,rfl,trivial,?_⟩))
  rintro r U ⟨xh,xc,xp,q1,q2,q3,rfl,rfl⟩
  refine ⟨by kernel_rfl,?_⟩
  have Q:AtQ (atP xs al k day) (.tuple #[.agg #[xh,xc,xp],.int .i64 (pfL g).2]) [(9506,Blk.own xh 66 2 (pfL g).1.h.length (cat sumA (pfL g).1.h)),(9507,Blk.own xc 49 3 (pfL g).1.c.length (cat sumK (pfL g).1.c)),(9508,Blk.own xp 49 3 (pfL g).1.p.length (cat sumK (pfL g).1.p))]:=by
   rw [hF];exact ⟨xh,xc,xp,q1,q2,q3,rfl,rfl⟩
  exact ⟨fits3 (isL_one q1) (isL_one q2) (isL_one q3),_,[],Q,⟨.inl rfl,.inl rfl,.inl rfl,trivial⟩,rfl⟩
 refine ⟨fun q f m=>∃ (i j:Nat) (va' vx':Value) (g:Led) (vh vc vp:Value),q=(na - i)+(nx - j)∧TailS sa 76 na i va'∧TailS sx 10 nx j vx'∧LedOk g∧IsL vh g.h.length∧IsL vc g.c.length∧IsL vp g.p.length∧(g.h.length≤2*(i+j)∧g.c.length≤i+j∧g.p.length≤i+j)∧runL day .zero (restL day A B)=runL day g (restL day (A.drop i) (B.drop j))∧f=[(3,SV.c (.int .i64 day)),(8,SV.ptr 8 0),(10,SV.c vx'),(12,SV.c va'),(13,SV.ptr 48 0)]∧m=[(8,Blk.row 40 3 #[.slice none 0 0,.slice none 0 0,.slice none 0 0]),(3000,Blk.own sx 31 10 nx (cat EC.A B)),(3001,Blk.own sa 61 76 na (cat AC.A A)),(48,Blk.row 93 7 (LdA vh vc vp day)),(9501,Blk.own vh 136 2 (g.h).length (cat sumA g.h)),(9504,Blk.own vc 183 3 (g.c).length (cat sumK g.c)),(9505,Blk.own vp 183 3 (g.p).length (cat sumK g.p))],na+nx,⟨_,_,⟨0,0,sa,sx,.zero,.slice none 0 0,.slice none 0 0,.slice none 0 0,by omega,.start ha hca,.start hx hcx,.zero,.nil,.nil,.nil,⟨by decide,by decide,by decide⟩,rfl,rfl,rfl⟩,⟨rfl,rfl,rfl,rfl,rfl,trivial⟩,⟨rfl,.inl rfl,.inl rfl,rfl,.inr ⟨rfl,rfl,rfl⟩,.inr ⟨rfl,rfl,rfl⟩,.inr ⟨rfl,rfl,rfl⟩,trivial⟩,rfl⟩,?_⟩
 rintro q f m ⟨i,j,va',vx',g,vh,vc,vp,rfl,ta,tx,hg,hh,hc,hp,hl,hR,rfl,rfl⟩
 obtain ⟨aa,ac,rfl⟩:=ta.len
 obtain ⟨xa,xc,rfl⟩:=tx.len
 refine ⟨_,fun w' _=>run_len_sl Tryz.underlying51 w',?_⟩
 refine ⟨fun c=>?_,fun c=>?_⟩
 ·have ci:i=na:=by have:=of_decide_eq_false (show decide (((na - i:Nat):Int) > 0)=false from c);have:=ta.1;omega
  refine ⟨_,fun w' _=>run_len_sl Tryz.underlying26 w',?_⟩
  refine ⟨fun c1=>?_,fun c1=>?_⟩
  ·have cj:j < nx:=by have:=of_decide_eq_true (show decide (((nx - j:Nat):Int) > 0)=true from c1);omega
   refine ⟨fun f m=>∃ (i2 j2:Nat) (va2 vx2:Value) (g2:Led) (wh wc wp:Value) (e:Int),i2+j2=i+j+1∧TailS sa 76 na i2 va2∧TailS sx 10 nx j2 vx2∧IsL wh g2.h.length∧IsL wc g2.c.length∧IsL wp g2.p.length∧((e≠0∧runL day g (restL day (A.drop i) (B.drop j))=.error e)∨(e=0∧LedOk g2∧(g2.h.length≤2*(i2+j2)∧g2.c.length≤i2+j2∧g2.p.length≤i2+j2)∧runL day g (restL day (A.drop i) (B.drop j))=runL day g2 (restL day (A.drop i2) (B.drop j2))))∧f=[(3,SV.c (.int .i64 day)),(8,SV.ptr 8 0),(10,SV.c vx2),(12,SV.c va2),(13,SV.ptr 48 0),(14,SV.c (.int .i64 e))]∧m=[(8,Blk.row 40 3 #[.slice none 0 0,.slice none 0 0,.slice none 0 0]),(3000,Blk.own sx 31 10 nx (cat EC.A B)),(3001,Blk.own sa 61 76 na (cat AC.A A)),(48,Blk.row 93 7 (LdA wh wc wp day)),(9501,Blk.own wh 136 2 (g2.h).length (cat sumA g2.h)),(9504,Blk.own wc 183 3 (g2.c).length (cat sumK g2.c)),(9505,Blk.own wp 183 3 (g2.p).length (cat sumK g2.p))],?_,?_⟩
   rotate_left
   ·rintro f1 m1 ⟨i2,j2,va2,vx2,g2,wh,wc,wp,e,hij,ta2,tx2,hh2,hc2,hp2,hE2,rfl,rfl⟩
    refine ⟨fun c=>?_,fun c=>?_⟩
    ·have c:(e != 0)=true:=c
     have c:e≠0:=by simpa using c
     rcases hE2 with ⟨-,hE2⟩ | ⟨hE2,-⟩
     ·refine ⟨_,rfl,nil3_fits,?_⟩
      exact ⟨_,[],bad e (by rw [hP,hR,hE2];rfl),⟨.inr ⟨rfl,rfl,rfl⟩,.inr ⟨rfl,rfl,rfl⟩,.inr ⟨rfl,rfl,rfl⟩,trivial⟩,rfl⟩
     ·exact absurd hE2 c
    ·have c:(e != 0)=false:=c
     have c:e=0:=by simpa using c
     rcases hE2 with ⟨hE2,-⟩ | ⟨-,hg2,hl2,hE2⟩
     ·exact absurd c hE2
     ·have t1:=ta2.1
      have t2:=tx2.1
      have t3:=ta.1
      have t4:=tx.1
      exact ⟨(na - i2)+(nx - j2),_,_,by omega,⟨i2,j2,va2,vx2,g2,wh,wc,wp,rfl,ta2,tx2,hg2,hh2,hc2,hp2,hl2,by rw [hR,hE2],rfl,rfl⟩,⟨rfl,rfl,rfl,rfl,rfl,trivial⟩,⟨rfl,.inl rfl,.inl rfl,rfl,.inl rfl,.inl rfl,.inl rfl,trivial⟩,rfl⟩
   obtain ⟨x,hx0⟩:∃ x,B[j]? = some x:=⟨_,List.getElem?_eq_getElem (show j < B.length by omega)⟩
   obtain ⟨gX,cX0,cX1,rfl,hvx2⟩:=tx.at cj
   cases hvx2
   have hdx:=drop_at hx0
   have LX:(cat EC.A B)[j*10+2]? = some (.int .i64 x.day):=(cat_get EC.size B j x 2 hx0 (by decide)).trans x.g2
   have hhead:∀ z,(A.drop i)[0]? = some z→¬ z.day≤x.day:=fun z hz=>by rw [List.drop_eq_nil_of_le (by omega)] at hz;cases hz
   refine ⟨_,fun w' _=>run_len_sl Tryz.underlying26 w',?_⟩
   refine ⟨fun _=>?_,fun c3=>absurd c3 (by simp only [beq_iff_eq,Bool.not_false];omega)⟩
   refine ⟨_,fun w' _=>run_len_sl Tryz.underlying51 w',?_⟩
   refine ⟨fun c4=>absurd c4 (by rw [decide_eq_false (by omega)];decide),fun _=>?_⟩
   refine ⟨by kernel_rfl,nofun,fun _=>?_⟩
   refine ⟨by omega,by omega,.inr ⟨3000,gX,_,nx,cX0,_,_,_,rfl,rfl,_,(by rw [offX0];exact LX),?_⟩⟩
   refine ⟨fun c2=>?_,fun c2=>?_⟩
   ·have c2:day < x.day:=of_decide_eq_true c2
    have hE3:restL day (A.drop i) (B.drop j)=[]:=by
     rw [hdx];exact rest_end sA.drop (by rw [← hdx];exact sX.drop) (merge_x hhead) c2
    exact ⟨_,_,⟨g,vh,vc,vp,hh,hc,hp,by omega,by rw [hP,hR,hE3];rfl,rfl,rfl⟩,⟨rfl,rfl,trivial⟩,⟨rfl,rfl,.inl rfl,.inl rfl,.inl rfl,trivial⟩,rfl⟩
   ·have c2:¬ day < x.day:=of_decide_eq_false c2
    have hE3:restL day (A.drop i) (B.drop j)=.inr x :: restL day (A.drop i) (B.drop (j+1)):=by
     rw [hdx];exact rest_x hhead (by omega)
    have AO:=enter_z (E:=(envC Tryz.prog tt Tryz.f17.ntmps w X (tiedK [] β) [21,23]).toEnv) (day:=day) rfl hg hh hc hp (by omega) (mX x (List.mem_of_getElem? hx0)).q
    have EA:=cat_extract EC.size hx0
    have hszX:(cat EC.A B).size=nx*10:=by rw [Go.SX.cat_size EC.size,lX]
    generalize x.A=AA at AO EA
    refine ⟨by omega,by omega,.inr ⟨3000,gX,_,nx,cX0,_,_,_,rfl,rfl,(by rw [offX0,hszX];show j*10+10≤nx*10;omega),AA,(by rw [offX0];exact EA),?_⟩⟩
    refine .inr (.inr (.inr ⟨[(9500,48)],[],[_,_],[_,_,_,_],_,AO,rfl,⟨.inl rfl,.inl rfl,.inl rfl,rfl,trivial⟩,by kernel_rfl,trivial,?_⟩))
    rintro r U ⟨g2,wh,wc,wp,k1,k2,k3,rfl,hM⟩
    refine ⟨by kernel_rfl,_,runs_lo18 (E:=(envC Tryz.prog tt Tryz.f17.ntmps w X (tiedK [] β) [21,23])) tt_ok Tryz.underlying26 (j:=ti31) rfl 1 rfl (by omega),?_⟩
    have hrun:runL day g (restL day (A.drop i) (B.drop j))=match entL day g x with
     | .error e=>.error e
     | .ok g'=>runL day g' (restL day (A.drop i) (B.drop (j+1))):=by rw [hE3];rfl
    have tn:=tx.next (by decide) cj
    cases hS:entL day g x with
    | error e =>
     rw [hS] at hM hrun
     obtain ⟨rfl,he⟩:=hM
     exact ⟨_,_,⟨i,j+1,_,_,g2,wh,wc,wp,e,by omega,ta,tn,k1,k2,k3,.inl ⟨he,hrun⟩,rfl,rfl⟩,⟨rfl,rfl,rfl,rfl,rfl,rfl,trivial⟩,⟨rfl,.inl rfl,.inl rfl,rfl,.inl rfl,.inl rfl,.inl rfl,trivial⟩,rfl⟩
    | ok g' =>
     rw [hS] at hM hrun
     obtain ⟨rfl,rfl⟩:=hM
     obtain ⟨s1,s2,s3,s4⟩:=ent_okL hg hS
     exact ⟨_,_,⟨i,j+1,_,_,g2,wh,wc,wp,0,by omega,ta,tn,k1,k2,k3,.inr ⟨rfl,s1,⟨by omega,by omega,by omega⟩,hrun⟩,rfl,rfl⟩,⟨rfl,rfl,rfl,rfl,rfl,rfl,trivial⟩,⟨rfl,.inl rfl,.inl rfl,rfl,.inl rfl,.inl rfl,.inl rfl,trivial⟩,rfl⟩
  ·have cj:j=nx:=by have:=of_decide_eq_false (show decide (((nx - j:Nat):Int) > 0)=false from c1);have:=tx.1;omega
   have hE3:restL day (A.drop i) (B.drop j)=[]:=by
    rw [List.drop_eq_nil_of_le (by omega),List.drop_eq_nil_of_le (by omega)];exact rest_nil day
   exact ⟨_,_,⟨g,vh,vc,vp,hh,hc,hp,by omega,by rw [hP,hR,hE3];rfl,rfl,rfl⟩,⟨rfl,rfl,trivial⟩,⟨rfl,rfl,.inl rfl,.inl rfl,.inl rfl,trivial⟩,rfl⟩
 ·have ci:i < na:=by have:=of_decide_eq_true (show decide (((na - i:Nat):Int) > 0)=true from c);omega
  refine ⟨fun _=>?_,nofun⟩
  refine ⟨fun f m=>∃ (i2 j2:Nat) (va2 vx2:Value) (g2:Led) (wh wc wp:Value) (e:Int),i2+j2=i+j+1∧TailS sa 76 na i2 va2∧TailS sx 10 nx j2 vx2∧IsL wh g2.h.length∧IsL wc g2.c.length∧IsL wp g2.p.length∧((e≠0∧runL day g (restL day (A.drop i) (B.drop j))=.error e)∨(e=0∧LedOk g2∧(g2.h.length≤2*(i2+j2)∧g2.c.length≤i2+j2∧g2.p.length≤i2+j2)∧runL day g (restL day (A.drop i) (B.drop j))=runL day g2 (restL day (A.drop i2) (B.drop j2))))∧f=[(3,SV.c (.int .i64 day)),(8,SV.ptr 8 0),(10,SV.c vx2),(12,SV.c va2),(13,SV.ptr 48 0),(14,SV.c (.int .i64 e))]∧m=[(8,Blk.row 40 3 #[.slice none 0 0,.slice none 0 0,.slice none 0 0]),(3000,Blk.own sx 31 10 nx (cat EC.A B)),(3001,Blk.own sa 61 76 na (cat AC.A A)),(48,Blk.row 93 7 (LdA wh wc wp day)),(9501,Blk.own wh 136 2 (g2.h).length (cat sumA g2.h)),(9504,Blk.own wc 183 3 (g2.c).length (cat sumK g2.c)),(9505,Blk.own wp 183 3 (g2.p).length (cat sumK g2.p))],?_,?_⟩
  rotate_left
  ·rintro f1 m1 ⟨i2,j2,va2,vx2,g2,wh,wc,wp,e,hij,ta2,tx2,hh2,hc2,hp2,hE2,rfl,rfl⟩
   refine ⟨fun c=>?_,fun c=>?_⟩
   ·have c:(e != 0)=true:=c
    have c:e≠0:=by simpa using c
    rcases hE2 with ⟨-,hE2⟩ | ⟨hE2,-⟩
    ·refine ⟨_,rfl,nil3_fits,?_⟩
     exact ⟨_,[],bad e (by rw [hP,hR,hE2];rfl),⟨.inr ⟨rfl,rfl,rfl⟩,.inr ⟨rfl,rfl,rfl⟩,.inr ⟨rfl,rfl,rfl⟩,trivial⟩,rfl⟩
    ·exact absurd hE2 c
   ·have c:(e != 0)=false:=c
    have c:e=0:=by simpa using c
    rcases hE2 with ⟨hE2,-⟩ | ⟨-,hg2,hl2,hE2⟩
    ·exact absurd c hE2
    ·have t1:=ta2.1
     have t2:=tx2.1
     have t3:=ta.1
     have t4:=tx.1
     exact ⟨(na - i2)+(nx - j2),_,_,by omega,⟨i2,j2,va2,vx2,g2,wh,wc,wp,rfl,ta2,tx2,hg2,hh2,hc2,hp2,hl2,by rw [hR,hE2],rfl,rfl⟩,⟨rfl,rfl,rfl,rfl,rfl,trivial⟩,⟨rfl,.inl rfl,.inl rfl,rfl,.inl rfl,.inl rfl,.inl rfl,trivial⟩,rfl⟩
  refine ⟨_,fun w' _=>run_len_sl Tryz.underlying26 w',?_⟩
  obtain ⟨a,ha0⟩:∃ a,A[i]? = some a:=⟨_,List.getElem?_eq_getElem (show i < A.length by omega)⟩
  obtain ⟨gA,cA0,cA1,rfl,hva2⟩:=ta.at ci
  cases hva2
  have hda:=drop_at ha0
  refine ⟨fun c=>?_,fun c=>?_⟩
  ·have cj:j < nx:=by have c:((((nx - j:Nat):Int)) == 0)=false:=c;simp only [beq_eq_false_iff_ne] at c;omega
   obtain ⟨x,hx0⟩:∃ x,B[j]? = some x:=⟨_,List.getElem?_eq_getElem (show j < B.length by omega)⟩
   obtain ⟨gX,cX0,cX1,rfl,hvx2⟩:=tx.at cj
   cases hvx2
   have hdx:=drop_at hx0
   refine ⟨_,fun w' _=>run_len_sl Tryz.underlying51 w',fun _=>?_,fun c=>absurd c (by rw [decide_eq_true (by omega)];decide)⟩
   have LA:(cat AC.A A)[i*76+4]? = some (.int .i64 a.day):=(cat_get AC.size A i a 4 ha0 (by decide)).trans a.g4
   have LX:(cat EC.A B)[j*10+2]? = some (.int .i64 x.day):=(cat_get EC.size B j x 2 hx0 (by decide)).trans x.g2
   refine ⟨by omega,by omega,.inr ⟨3001,gA,_,na,cA0,_,_,_,rfl,rfl,_,(by rw [offA0];exact LA),?_⟩⟩
   refine ⟨by omega,by omega,.inr ⟨3000,gX,_,nx,cX0,_,_,_,rfl,rfl,_,(by rw [offX0];exact LX),?_⟩⟩
   refine ⟨by kernel_rfl,fun c1=>?_,fun c1=>?_⟩
   ·have c1:a.day≤x.day:=of_decide_eq_true c1
    have hhead:∀ z,(B.drop j)[0]? = some z→a.day≤z.day:=fun z hz=>by rw [hdx] at hz;cases hz;exact c1
    refine ⟨by omega,by omega,.inr ⟨3001,gA,_,na,cA0,_,_,_,rfl,rfl,_,(by rw [offA0];exact LA),?_⟩⟩
    refine ⟨fun c2=>?_,fun c2=>?_⟩
    ·have c2:day < a.day:=of_decide_eq_true c2
     have hE3:restL day (A.drop i) (B.drop j)=[]:=by
      rw [hda];exact rest_end (by rw [← hda];exact sA.drop) sX.drop (merge_a hhead) c2
     exact ⟨_,_,⟨g,vh,vc,vp,hh,hc,hp,by omega,by rw [hP,hR,hE3];rfl,rfl,rfl⟩,⟨rfl,rfl,trivial⟩,⟨rfl,rfl,.inl rfl,.inl rfl,.inl rfl,trivial⟩,rfl⟩
    ·have c2:¬ day < a.day:=of_decide_eq_false c2
     have hE3:restL day (A.drop i) (B.drop j)=.inl a :: restL day (A.drop (i+1)) (B.drop j):=by
      rw [hda];exact rest_a hhead (by omega)
     have AO:=act_z (E:=(envC Tryz.prog tt Tryz.f17.ntmps w X (tiedK [] β) [21,23]).toEnv) (day:=day) rfl hg hh hc hp (by omega) (mA a (List.mem_of_getElem? ha0))
     have EA:=cat_extract AC.size ha0
     have hszA:(cat AC.A A).size=na*76:=by rw [Go.SX.cat_size AC.size,lA]
     generalize a.A=AA at AO EA
     refine ⟨by omega,by omega,.inr ⟨3001,gA,_,na,cA0,_,_,_,rfl,rfl,(by rw [offA0,hszA];show i*76+76≤na*76;omega),AA,(by rw [offA0];exact EA),?_⟩⟩
     refine .inr (.inr (.inr ⟨[(9500,48)],[],[_,_],[_,_,_,_],_,AO,rfl,⟨.inl rfl,.inl rfl,.inl rfl,rfl,trivial⟩,by kernel_rfl,trivial,?_⟩))
     rintro r U ⟨g2,wh,wc,wp,k1,k2,k3,rfl,hM⟩
     refine ⟨by kernel_rfl,_,runs_lo18 (E:=(envC Tryz.prog tt Tryz.f17.ntmps w X (tiedK [] β) [21,23])) tt_ok Tryz.underlying51 (j:=ti61) rfl 1 rfl (by omega),?_⟩
     have hrun:runL day g (restL day (A.drop i) (B.drop j))=match actL g a with
      | .error e=>.error e
      | .ok g'=>runL day g' (restL day (A.drop (i+1)) (B.drop j)):=by rw [hE3];rfl
     have tn:=ta.next (by decide) ci
     cases hS:actL g a with
     | error e =>
      rw [hS] at hM hrun
      obtain ⟨rfl,he⟩:=hM
      exact ⟨_,_,⟨i+1,j,_,_,g2,wh,wc,wp,e,by omega,tn,tx,k1,k2,k3,.inl ⟨he,hrun⟩,rfl,rfl⟩,⟨rfl,rfl,rfl,rfl,rfl,rfl,trivial⟩,⟨rfl,.inl rfl,.inl rfl,rfl,.inl rfl,.inl rfl,.inl rfl,trivial⟩,rfl⟩
     | ok g' =>
      rw [hS] at hM hrun
      obtain ⟨rfl,rfl⟩:=hM
      obtain ⟨s1,s2,s3,s4⟩:=act_okL hg hS
      exact ⟨_,_,⟨i+1,j,_,_,g2,wh,wc,wp,0,by omega,tn,tx,k1,k2,k3,.inr ⟨rfl,s1,⟨by omega,by omega,by rw [s4];omega⟩,hrun⟩,rfl,rfl⟩,⟨rfl,rfl,rfl,rfl,rfl,rfl,trivial⟩,⟨rfl,.inl rfl,.inl rfl,rfl,.inl rfl,.inl rfl,.inl rfl,trivial⟩,rfl⟩
   ·have c1:¬ a.day≤x.day:=of_decide_eq_false c1
    have hhead:∀ z,(A.drop i)[0]? = some z→¬ z.day≤x.day:=fun z hz=>by rw [hda] at hz;cases hz;exact c1
    refine ⟨by omega,by omega,.inr ⟨3000,gX,_,nx,cX0,_,_,_,rfl,rfl,_,(by rw [offX0];exact LX),?_⟩⟩
    refine ⟨fun c2=>?_,fun c2=>?_⟩
    ·have c2:day < x.day:=of_decide_eq_true c2
     have hE3:restL day (A.drop i) (B.drop j)=[]:=by
      rw [hdx];exact rest_end sA.drop (by rw [← hdx];exact sX.drop) (merge_x hhead) c2
     exact ⟨_,_,⟨g,vh,vc,vp,hh,hc,hp,by omega,by rw [hP,hR,hE3];rfl,rfl,rfl⟩,⟨rfl,rfl,trivial⟩,⟨rfl,rfl,.inl rfl,.inl rfl,.inl rfl,trivial⟩,rfl⟩
    ·have c2:¬ day < x.day:=of_decide_eq_false c2
     have hE3:restL day (A.drop i) (B.drop j)=.inr x :: restL day (A.drop i) (B.drop (j+1)):=by
      rw [hdx];exact rest_x hhead (by omega)
     have AO:=enter_z (E:=(envC Tryz.prog tt Tryz.f17.ntmps w X (tiedK [] β) [21,23]).toEnv) (day:=day) rfl hg hh hc hp (by omega) (mX x (List.mem_of_getElem? hx0)).q
     have EA:=cat_extract EC.size hx0
     have hszX:(cat EC.A B).size=nx*10:=by rw [Go.SX.cat_size EC.size,lX]
     generalize x.A=AA at AO EA
     refine ⟨by omega,by omega,.inr ⟨3000,gX,_,nx,cX0,_,_,_,rfl,rfl,(by rw [offX0,hszX];show j*10+10≤nx*10;omega),AA,(by rw [offX0];exact EA),?_⟩⟩
     refine .inr (.inr (.inr ⟨[(9500,48)],[],[_,_],[_,_,_,_],_,AO,rfl,⟨.inl rfl,.inl rfl,.inl rfl,rfl,trivial⟩,by kernel_rfl,trivial,?_⟩))
     rintro r U ⟨g2,wh,wc,wp,k1,k2,k3,rfl,hM⟩
     refine ⟨by kernel_rfl,_,runs_lo18 (E:=(envC Tryz.prog tt Tryz.f17.ntmps w X (tiedK [] β) [21,23])) tt_ok Tryz.underlying26 (j:=ti31) rfl 1 rfl (by omega),?_⟩
     have hrun:runL day g (restL day (A.drop i) (B.drop j))=match entL day g x with
      | .error e=>.error e
      | .ok g'=>runL day g' (restL day (A.drop i) (B.drop (j+1))):=by rw [hE3];rfl
     have tn:=tx.next (by decide) cj
     cases hS:entL day g x with
     | error e =>
      rw [hS] at hM hrun
      obtain ⟨rfl,he⟩:=hM
      exact ⟨_,_,⟨i,j+1,_,_,g2,wh,wc,wp,e,by omega,ta,tn,k1,k2,k3,.inl ⟨he,hrun⟩,rfl,rfl⟩,⟨rfl,rfl,rfl,rfl,rfl,rfl,trivial⟩,⟨rfl,.inl rfl,.inl rfl,rfl,.inl rfl,.inl rfl,.inl rfl,trivial⟩,rfl⟩
     | ok g' =>
      rw [hS] at hM hrun
      obtain ⟨rfl,rfl⟩:=hM
      obtain ⟨s1,s2,s3,s4⟩:=ent_okL hg hS
      exact ⟨_,_,⟨i,j+1,_,_,g2,wh,wc,wp,0,by omega,ta,tn,k1,k2,k3,.inr ⟨rfl,s1,⟨by omega,by omega,by omega⟩,hrun⟩,rfl,rfl⟩,⟨rfl,rfl,rfl,rfl,rfl,rfl,trivial⟩,⟨rfl,.inl rfl,.inl rfl,rfl,.inl rfl,.inl rfl,.inl rfl,trivial⟩,rfl⟩
  ·have cj:j=nx:=by have c:((((nx - j:Nat):Int)) == 0)=true:=c;simp only [beq_iff_eq] at c;have:=tx.1;omega
   have LA:(cat AC.A A)[i*76+4]? = some (.int .i64 a.day):=(cat_get AC.size A i a 4 ha0 (by decide)).trans a.g4
   have hhead:∀ z,(B.drop j)[0]? = some z→a.day≤z.day:=fun z hz=>by rw [List.drop_eq_nil_of_le (by omega)] at hz;cases hz
   refine ⟨by kernel_rfl,fun _=>?_,nofun⟩
   refine ⟨by omega,by omega,.inr ⟨3001,gA,_,na,cA0,_,_,_,rfl,rfl,_,(by rw [offA0];exact LA),?_⟩⟩
   refine ⟨fun c2=>?_,fun c2=>?_⟩
   ·have c2:day < a.day:=of_decide_eq_true c2
    have hE3:restL day (A.drop i) (B.drop j)=[]:=by
     rw [hda];exact rest_end (by rw [← hda];exact sA.drop) sX.drop (merge_a hhead) c2
    exact ⟨_,_,⟨g,vh,vc,vp,hh,hc,hp,by omega,by rw [hP,hR,hE3];rfl,rfl,rfl⟩,⟨rfl,rfl,trivial⟩,⟨rfl,rfl,.inl rfl,.inl rfl,.inl rfl,trivial⟩,rfl⟩
   ·have c2:¬ day < a.day:=of_decide_eq_false c2
    have hE3:restL day (A.drop i) (B.drop j)=.inl a :: restL day (A.drop (i+1)) (B.drop j):=by
     rw [hda];exact rest_a hhead (by omega)
    have AO:=act_z (E:=(envC Tryz.prog tt Tryz.f17.ntmps w X (tiedK [] β) [21,23]).toEnv) (day:=day) rfl hg hh hc hp (by omega) (mA a (List.mem_of_getElem? ha0))
    have EA:=cat_extract AC.size ha0
    have hszA:(cat AC.A A).size=na*76:=by rw [Go.SX.cat_size AC.size,lA]
    generalize a.A=AA at AO EA
    refine ⟨by omega,by omega,.inr ⟨3001,gA,_,na,cA0,_,_,_,rfl,rfl,(by rw [offA0,hszA];show i*76+76≤na*76;omega),AA,(by rw [offA0];exact EA),?_⟩⟩
    refine .inr (.inr (.inr ⟨[(9500,48)],[],[_,_],[_,_,_,_],_,AO,rfl,⟨.inl rfl,.inl rfl,.inl rfl,rfl,trivial⟩,by kernel_rfl,trivial,?_⟩))
    rintro r U ⟨g2,wh,wc,wp,k1,k2,k3,rfl,hM⟩
    refine ⟨by kernel_rfl,_,runs_lo18 (E:=(envC Tryz.prog tt Tryz.f17.ntmps w X (tiedK [] β) [21,23])) tt_ok Tryz.underlying51 (j:=ti61) rfl 1 rfl (by omega),?_⟩
    have hrun:runL day g (restL day (A.drop i) (B.drop j))=match actL g a with
     | .error e=>.error e
     | .ok g'=>runL day g' (restL day (A.drop (i+1)) (B.drop j)):=by rw [hE3];rfl
    have tn:=ta.next (by decide) ci
    cases hS:actL g a with
    | error e =>
     rw [hS] at hM hrun
     obtain ⟨rfl,he⟩:=hM
     exact ⟨_,_,⟨i+1,j,_,_,g2,wh,wc,wp,e,by omega,tn,tx,k1,k2,k3,.inl ⟨he,hrun⟩,rfl,rfl⟩,⟨rfl,rfl,rfl,rfl,rfl,rfl,trivial⟩,⟨rfl,.inl rfl,.inl rfl,rfl,.inl rfl,.inl rfl,.inl rfl,trivial⟩,rfl⟩
    | ok g' =>
     rw [hS] at hM hrun
     obtain ⟨rfl,rfl⟩:=hM
     obtain ⟨s1,s2,s3,s4⟩:=act_okL hg hS
     exact ⟨_,_,⟨i+1,j,_,_,g2,wh,wc,wp,0,by omega,tn,tx,k1,k2,k3,.inr ⟨rfl,s1,⟨by omega,by omega,by rw [s4];omega⟩,hrun⟩,rfl,rfl⟩,⟨rfl,rfl,rfl,rfl,rfl,rfl,trivial⟩,⟨rfl,.inl rfl,.inl rfl,rfl,.inl rfl,.inl rfl,.inl rfl,trivial⟩,rfl⟩
def eqA (x y:Bs×Int):Bool:=decide (x.1=y.1) && ((x.2 == y.2) && true)
def eqK (x y:Ky×Int):Bool:=decide (x.1.1=y.1.1) && ((x.1.2 == y.1.2) && ((x.2 == y.2) && true))
theorem eqA_self (x:Bs×Int):eqA x x=true:=by simp [eqA]
theorem eqK_self (x:Ky×Int):eqK x x=true:=by simp [eqK]
theorem eq_hol_raw {d:Nat} (x y:Bs×Int) (w:World):(Op.equalIn (d+1+1) 66 (.agg (sumA x)) (.agg (sumA y))).run Tryz.prog w=.ok (eqA x y) w:=by
 rw [run_equalIn_struct w (d+1) 66 _ _ (by simp only [Program.fieldsOf,Tryz.underlying66]) (by kernel_rfl)]
 rw [show (Tryz.prog.fieldsOf 66).toList=[⟨ "Instrument",9,0,false,"","",0⟩,⟨ "Quantity",3,1,false,"","",16⟩] from by simp only [Program.fieldsOf,Tryz.underlying66]]
 refine eqF_cons (by decide) (part_cell tok9 rfl rfl w) (part_cell tok9 rfl rfl w) (eq_str _ _ w) fun _=>?_
 exact eqF_cons (by decide) (part_cell tok3 rfl rfl w) (part_cell tok3 rfl rfl w) (eq_int64 _ Tryz.underlying3 _ _ w) fun _=>eqF_nil
theorem guard_hol:Tryz.prog.eqGuardType Tryz.prog.depth 66=false:=by kernel_rfl
theorem neq_hol {E:Env} (hE:E.P=Tryz.prog) (x y:Bs×Int) {u v:Operand}:Runs E (do eqGuard .neq 66 u v (.agg (sumA x)) (.agg (sumA y));binOp .neq 66 (.agg (sumA x)) (.agg (sumA y))) (.bool (!(eqA x y))) :=
 runs_neq (by rw [hE];exact guard_hol) fun w=>by rw [hE];exact eq_hol_raw x y w
theorem neqs_hol {E:Env} (hE:E.P=Tryz.prog) (x:Bs×Int) {u v:Operand}:Runs E (do eqGuard .neq 66 u v (.agg (sumA x)) (.agg (sumA x));binOp .neq 66 (.agg (sumA x)) (.agg (sumA x))) (.bool false):=by
 have:=neq_hol hE x x (u:=u) (v:=v)
 rwa [eqA_self] at this
theorem eq_bal_raw {d:Nat} (x y:Ky×Int) (w:World):(Op.equalIn (d+1+1) 49 (.agg (sumK x)) (.agg (sumK y))).run Tryz.prog w=.ok (eqK x y) w:=by
 rw [run_equalIn_struct w (d+1) 49 _ _ (by simp only [Program.fieldsOf,Tryz.underlying49]) (by kernel_rfl)]
 rw [show (Tryz.prog.fieldsOf 49).toList=[⟨ "Currency",9,0,false,"","",0⟩,⟨ "Day",3,1,false,"","",16⟩,⟨ "Amount",3,2,false,"","",24⟩] from by simp only [Program.fieldsOf,Tryz.underlying49]]
 refine eqF_cons (by decide) (part_cell tok9 rfl rfl w) (part_cell tok9 rfl rfl w) (eq_str _ _ w) fun _=>?_
 refine eqF_cons (by decide) (part_cell tok3 rfl rfl w) (part_cell tok3 rfl rfl w) (eq_int64 _ Tryz.underlying3 _ _ w) fun _=>?_
 exact eqF_cons (by decide) (part_cell tok3 rfl rfl w) (part_cell tok3 rfl rfl w) (eq_int64 _ Tryz.underlying3 _ _ w) fun _=>eqF_nil
theorem guard_bal:Tryz.prog.eqGuardType Tryz.prog.depth 49=false:=by kernel_rfl
theorem eql_bal {E:Env} (hE:E.P=Tryz.prog) (x y:Ky×Int) {u v:Operand}:Runs E (do eqGuard .eql 49 u v (.agg (sumK x)) (.agg (sumK y));binOp .eql 49 (.agg (sumK x)) (.agg (sumK y))) (.bool (eqK x y)) :=
 runs_eql (by rw [hE];exact guard_bal) fun w=>by rw [hE];exact eq_bal_raw x y w
theorem neqs_bal {E:Env} (hE:E.P=Tryz.prog) (x:Ky×Int) {u v:Operand}:Runs E (do eqGuard .neq 49 u v (.agg (sumK x)) (.agg (sumK x));binOp .neq 49 (.agg (sumK x)) (.agg (sumK x))) (.bool false):=by
 have:=runs_neq (E:=E) (t:=49) (x:=u) (y:=v) (by rw [hE];exact guard_bal) fun w=>by rw [hE];exact eq_bal_raw x x w
 rwa [eqK_self] at this
theorem offB (j:Nat):offAt 0 ((j:Nat):Int) ti49.size=j*3:=by
 show offAt 0 ((j:Nat):Int) 3=j*3
 simp [offAt]
theorem offH (j:Nat):offAt 0 ((j:Nat):Int) ti66.size=j*2:=by
 show offAt 0 ((j:Nat):Int) 2=j*2
 simp [offAt]
theorem sameB_o {E:Env} (hE:E.P=Tryz.prog) {x y:Value} {C:List (Ky×Int)} {n:Nat} (hx:IsL x n) (hy:IsL y n) (hn:n=C.length) (hb:n≤1000000000000):OwnC E 55 [SV.c x,SV.c y] [(9520,Blk.own x 49 3 n (cat sumK C)),(9521,Blk.own y 49 3 n (cat sumK C))] (fun r U=>r=.bool true∧U=[(9520,Blk.own x 49 3 n (cat sumK C)),(9521,Blk.own y 49 3 n (cat sumK C))]):=by
 refine sx_ownC [] tt_ok mixed at55 E hE [SV.c x,SV.c y] [(9520,Blk.own x 49 3 n (cat sumK C)),(9521,Blk.own y 49 3 n (cat sumK C))] _ rfl rfl fun w X β hT=>?_
 have hE':(envC Tryz.prog tt Tryz.f55.ntmps w X (tiedK [(9520,Blk.own x 49 3 n (cat sumK C)),(9521,Blk.own y 49 3 n (cat sumK C))] β)).toEnv.P=Tryz.prog:=rfl
 obtain ⟨xa,xc,rfl⟩:=hx.len
 obtain ⟨ya,yc,rfl⟩:=hy.len
 refine ⟨_,fun w' _=>run_len_sl Tryz.underlying38 w',_,fun w' _=>run_len_sl Tryz.underlying38 w',?_⟩
 refine ⟨fun c=>absurd c (by simp),fun _=>?_⟩
 refine ⟨fun q f m=>∃ i:Nat,q=n - i∧i≤n∧f=[(0,SV.c (.slice xa n xc)),(1,SV.c (.slice ya n yc)),(5,SV.c (.int .i64 (i:Nat)))]∧m=[(9520,Blk.own (.slice xa n xc) 49 3 n (cat sumK C)),(9521,Blk.own (.slice ya n yc) 49 3 n (cat sumK C))],n,⟨_,_,⟨0,by omega,by omega,rfl,rfl⟩,⟨rfl,rfl,rfl,trivial⟩,⟨.inl rfl,.inl rfl,trivial⟩,rfl⟩,?_⟩
 rintro q f m ⟨i,rfl,hi,rfl,rfl⟩
 refine ⟨_,fun w' _=>run_len_sl Tryz.underlying38 w',fun h=>?_,fun h=>?_⟩
 ·have h:i < n:=by have:=of_decide_eq_true h;omega
  rcases hx with ⟨hs1,hs2⟩ | ⟨g0,c0,hs1⟩
  ·omega
  cases hs1
  rcases hy with ⟨hs1,hs2⟩ | ⟨g1,c1,hs1⟩
  ·omega
  cases hs1
  obtain ⟨y,hy⟩:∃ y,C[i]? = some y:=⟨_,List.getElem?_eq_getElem (by omega)⟩
  have L1:=cat_extract sumK_size hy
  have hsz:(cat sumK C).size=n*3:=by rw [Go.SX.cat_size sumK_size,hn]
  have N1:=fun (u v:Operand)=>neqs_bal hE' y (u:=u) (v:=v)
  generalize hYA:sumK y=YA at L1 N1
  have F1:Fits YA 3:=by rw [← hYA];exact sumK_fits y
  refine ⟨by omega,by omega,.inr ⟨9520,g0,_,n,_,_,_,_,rfl,rfl,(by rw [offB,hsz];show i*3+3≤n*3;omega),YA,(by rw [offB];exact L1),?_⟩⟩
  refine ⟨by omega,by omega,.inr ⟨9521,g1,_,n,_,_,_,_,rfl,rfl,(by rw [offB,hsz];show i*3+3≤n*3;omega),YA,(by rw [offB];exact L1),?_⟩⟩
  refine ⟨_,N1 _ _,by kernel_rfl,nofun,fun _=>?_⟩
  exact ⟨n - (i+1),_,_,by omega,⟨i+1,rfl,by omega,rfl,rfl⟩,⟨rfl,rfl,c_int (i64_succ (by omega)),trivial⟩,⟨.inl rfl,.inl rfl,trivial⟩,rfl⟩
 ·have h:i=n:=by have:=of_decide_eq_false h;omega
  subst h
  exact ⟨[_,_],[],⟨rfl,rfl⟩,⟨.inl rfl,.inl rfl,trivial⟩,rfl⟩
theorem same_o {E:Env} (hE:E.P=Tryz.prog) {xh xc xp yh yc yp:Value} {g:Led} (hh:IsL xh g.h.length) (hc:IsL xc g.c.length) (hp:IsL xp g.p.length) (kh:IsL yh g.h.length) (kc:IsL yc g.c.length) (kp:IsL yp g.p.length) (hl:g.h.length≤10000000000∧g.c.length≤10000000000∧g.p.length≤10000000000):OwnC E 23 [SV.c (.agg #[xh,xc,xp]),SV.c (.agg #[yh,yc,yp])] [(9506,Blk.own xh 66 2 g.h.length (cat sumA g.h)),(9507,Blk.own xc 49 3 g.c.length (cat sumK g.c)),(9508,Blk.own xp 49 3 g.p.length (cat sumK g.p)),(9516,Blk.own yh 66 2 g.h.length (cat sumA g.h)),(9517,Blk.own yc 49 3 g.c.length (cat sumK g.c)),(9518,Blk.own yp 49 3 g.p.length (cat sumK g.p))] (fun r U=>r=.bool true∧U=[(9506,Blk.own xh 66 2 g.h.length (cat sumA g.h)),(9507,Blk.own xc 49 3 g.c.length (cat sumK g.c)),(9508,Blk.own xp 49 3 g.p.length (cat sumK g.p)),(9516,Blk.own yh 66 2 g.h.length (cat sumA g.h)),(9517,Blk.own yc 49 3 g.c.length (cat sumK g.c)),(9518,Blk.own yp 49 3 g.p.length (cat sumK g.p))]):=by
 refine sx_ownC [] tt_ok mixed at23 E hE [SV.c (.agg #[xh,xc,xp]),SV.c (.agg #[yh,yc,yp])] [(9506,Blk.own xh 66 2 g.h.length (cat sumA g.h)),(9507,Blk.own xc 49 3 g.c.length (cat sumK g.c)),(9508,Blk.own xp 49 3 g.p.length (cat sumK g.p)),(9516,Blk.own yh 66 2 g.h.length (cat sumA g.h)),(9517,Blk.own yc 49 3 g.c.length (cat sumK g.c)),(9518,Blk.own yp 49 3 g.p.length (cat sumK g.p))] _ rfl rfl fun w X β hT=>?_
 have hE':(envC Tryz.prog tt Tryz.f23.ntmps w X (tiedK [(9506,Blk.own xh 66 2 g.h.length (cat sumA g.h)),(9507,Blk.own xc 49 3 g.c.length (cat sumK g.c)),(9508,Blk.own xp 49 3 g.p.length (cat sumK g.p)),(9516,Blk.own yh 66 2 g.h.length (cat sumA g.h)),(9517,Blk.own yc 49 3 g.c.length (cat sumK g.c)),(9518,Blk.own yp 49 3 g.p.length (cat sumK g.p))] β)).toEnv.P=Tryz.prog:=rfl
 have BC:=sameB_o hE' hc kc rfl (by omega)
 have BP:=sameB_o hE' hp kp rfl (by omega)
 obtain ⟨xha,xhc,rfl⟩:=hh.len
 obtain ⟨yha,yhc,rfl⟩:=kh.len
 refine ⟨rfl,rfl,_,rfl,_,fun w' _=>run_len_sl Tryz.underlying37 w',_,rfl,_,fun w' _=>run_len_sl Tryz.underlying37 w',?_⟩
 refine ⟨fun c=>absurd c (by simp),fun _=>?_⟩
 refine ⟨fun q f m=>∃ i:Nat,q=g.h.length - i∧i≤g.h.length∧f=[(2,SV.ptr 2 0),(3,SV.ptr 3 0),(5,SV.c (.int .i64 (i:Nat)))]∧m=(2,Blk.row 40 3 #[.slice xha g.h.length xhc,xc,xp]) :: (3,Blk.row 40 3 #[.slice yha g.h.length yhc,yc,yp]) :: [(9506,Blk.own (.slice xha g.h.length xhc) 66 2 g.h.length (cat sumA g.h)),(9507,Blk.own xc 49 3 g.c.length (cat sumK g.c)),(9508,Blk.own xp 49 3 g.p.length (cat sumK g.p)),(9516,Blk.own (.slice yha g.h.length yhc) 66 2 g.h.length (cat sumA g.h)),(9517,Blk.own yc 49 3 g.c.length (cat sumK g.c)),(9518,Blk.own yp 49 3 g.p.length (cat sumK g.p))],g.h.length,⟨_,_,⟨0,by omega,by omega,rfl,rfl⟩,⟨rfl,rfl,rfl,trivial⟩,⟨rfl,rfl,.inl rfl,.inl rfl,.inl rfl,.inl rfl,.inl rfl,.inl rfl,trivial⟩,rfl⟩,?_⟩
 rintro q f m ⟨i,rfl,hi,rfl,rfl⟩
 refine ⟨_,rfl,_,fun w' _=>run_len_sl Tryz.underlying37 w',fun h=>?_,fun h=>?_⟩
 ·have h:i < g.h.length:=by have:=of_decide_eq_true h;omega
  rcases hh with ⟨hs1,hs2⟩ | ⟨g0,c0,hs1⟩
  ·omega
  cases hs1
  rcases kh with ⟨hs1,hs2⟩ | ⟨g1,c1,hs1⟩
  ·omega
  cases hs1
  obtain ⟨y,hy⟩:∃ y,g.h[i]? = some y:=⟨_,List.getElem?_eq_getElem (by omega)⟩
  have L1:=cat_extract sumA_size hy
  have hsz:(cat sumA g.h).size=g.h.length*2:=Go.SX.cat_size sumA_size _
  have N1:=fun (u v:Operand)=>neqs_hol hE' y (u:=u) (v:=v)
  generalize hYA:sumA y=YA at L1 N1
  refine ⟨_,rfl,by omega,by omega,.inr ⟨9506,g0,_,g.h.length,_,_,_,_,rfl,rfl,(by rw [offH,hsz];show i*2+2≤g.h.length*2;omega),YA,(by rw [offH];exact L1),?_⟩⟩
  refine ⟨_,rfl,by omega,by omega,.inr ⟨9516,g1,_,g.h.length,_,_,_,_,rfl,rfl,(by rw [offH,hsz];show i*2+2≤g.h.length*2;omega),YA,(by rw [offH];exact L1),?_⟩⟩
  refine ⟨_,N1 _ _,by kernel_rfl,nofun,fun _=>?_⟩
  exact ⟨g.h.length - (i+1),_,_,by omega,⟨i+1,rfl,by omega,rfl,rfl⟩,⟨rfl,rfl,c_int (i64_succ (by omega)),trivial⟩,⟨rfl,rfl,.inl rfl,.inl rfl,.inl rfl,.inl rfl,.inl rfl,.inl rfl,trivial⟩,rfl⟩
 ·have h:i=g.h.length:=by have:=of_decide_eq_false h;omega
  subst h
  refine ⟨_,rfl,_,rfl,.inr (.inr (.inl ⟨[(9520,9507),(9521,9517)],[_,_],[_,_],_,[_,_],BC,rfl,⟨.inl rfl,.inl rfl,trivial⟩,rfl,rfl,?_⟩))⟩
  refine ⟨fun _=>?_,nofun⟩
  refine ⟨_,rfl,_,rfl,.inr (.inr (.inl ⟨[(9520,9508),(9521,9518)],[_,_],[_,_],_,[_,_],BP,rfl,⟨.inl rfl,.inl rfl,trivial⟩,rfl,rfl,?_⟩))⟩
  exact ⟨[_,_,_,_,_,_],[],⟨rfl,rfl⟩,⟨.inl rfl,.inl rfl,.inl rfl,.inl rfl,.inl rfl,.inl rfl,trivial⟩,rfl⟩
end Go.Proofs.YtekfkdddadcalaaGreatDoor
