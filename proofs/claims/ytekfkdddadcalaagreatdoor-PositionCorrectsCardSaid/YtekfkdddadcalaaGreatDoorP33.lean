/- made entries. places in lists; no condition. -/
import Derived.Test.YtekfkdddadcalaaGreatDoorP32
set_option maxRecDepth 100000
set_option maxHeartbeats 4000000
namespace Go.Proofs.YtekfkdddadcalaaGreatDoor
open Go Go.RowKit Go.SX
theorem mk_ent {D kind i s qty amt known:Int} {key ins cur:Bs} (hD:0≤D∧D≤73048) (hi:0≤i∧i < 8) (hs:0≤s∧s≤3) (ha : -100000≤amt∧amt≤100000) (hc:cur∈codes3) (hk:(kind=1∧ins∈stocks4∧qty≠0∧-2000≤qty∧qty≤2000)∨(kind=2∧ins=[]∧qty=0)):MkB D ⟨kind,key,min 73048 (IntKind.i64.wrap (D+i)),min 73048 (IntKind.i64.wrap (min 73048 (IntKind.i64.wrap (D+i))+s)),ins,qty,amt,cur,known,false⟩:=by
 have e1:IntKind.i64.wrap (D+i)=D+i:=i64_in (by omega)
 rw [e1]
 have e2:IntKind.i64.wrap (min 73048 (D+i)+s)=min 73048 (D+i)+s:=i64_in (by omega)
 rw [e2]
 refine ⟨rfl,⟨?_,?_,?_⟩,⟨?_,?_,?_⟩,ha,hc,hk⟩
 ·show 0≤min 73048 (D+i);omega
 ·show D≤min 73048 (D+i)+1;omega
 ·show min 73048 (D+i)≤D+7;omega
 ·show min 73048 (D+i)≤min 73048 (min 73048 (D+i)+s);omega
 ·show min 73048 (min 73048 (D+i)+s)≤73048;omega
 ·show min 73048 (min 73048 (D+i)+s)≤D+10;omega
def RE (P:EC→Prop) (r:Value):Prop:=∃ x:EC,r=.agg x.A∧P x
theorem MkX.first {D:Int} {x:EC} (h:MkX D x) (hv:x.void=false) (hD:0≤D) (key:Bs):MkX D { x with key:=key,day:=max 0 (D - 1) }∧(x.kind=1→MkX D { x with key:=key,day:=max 0 (D - 1),qty:=2000 }):=by
 have hb:=h.live hv
 have h1:=hb.d
 have h2:=hb.s
 refine ⟨.inr ⟨hv,⟨by show (0:Int)≤max 0 (D - 1);omega,by show D≤max 0 (D - 1)+1;omega,by show max 0 (D - 1)≤D+7;omega⟩,⟨by show max 0 (D - 1)≤x.settle;omega,h2.2⟩,hb.a,hb.c,hb.k⟩,fun hk=>.inr ⟨hv,⟨by show (0:Int)≤max 0 (D - 1);omega,by show D≤max 0 (D - 1)+1;omega,by show max 0 (D - 1)≤D+7;omega⟩,⟨by show max 0 (D - 1)≤x.settle;omega,h2.2⟩,hb.a,hb.c,?_⟩⟩
 rcases hb.k with ⟨k1,k2,-⟩ | ⟨k1,-⟩
 ·exact .inl ⟨k1,k2,by show (2000:Int)≠0;decide,by show (-2000:Int)≤2000;decide,by show (2000:Int)≤2000;decide⟩
 ·omega
theorem fill_entry (day known qty amt:Int) (key ins cur:Bs) {pl:List (Nat×Nat)} (hpl:pl=[(0,1),(1,1),(2,1),(3,1),(4,1),(5,1),(6,1),(7,1),(8,1),(9,1)]):Instr.fill (fun k=>pl[k]?) ti31.zero [(0,.int .i64 1),(1,.string (S key)),(2,.int .i64 day),(4,.string (S ins)),(5,.int .i64 qty),(6,.int .i64 amt),(7,.string (S cur)),(8,.int .i64 known)]=some (EC.A ⟨1,key,day,0,ins,qty,amt,cur,known,false⟩):=by
 subst hpl;kernel_rfl
theorem EC.s0 (a:EC) (n:Int):a.A.setIfInBounds (0+0) (.int .i64 n)=({ a with kind:=n }:EC).A:=rfl
theorem EC.s1 (a:EC) (l:Bs):a.A.setIfInBounds (0+1) (.string (S l))=({ a with key:=l }:EC).A:=rfl
theorem EC.s2 (a:EC) (n:Int):a.A.setIfInBounds (0+2) (.int .i64 n)=({ a with day:=n }:EC).A:=rfl
theorem EC.s3 (a:EC) (n:Int):a.A.setIfInBounds (0+3) (.int .i64 n)=({ a with settle:=n }:EC).A:=rfl
theorem EC.s4 (a:EC) (l:Bs):a.A.setIfInBounds (0+4) (.string (S l))=({ a with ins:=l }:EC).A:=rfl
theorem EC.s5 (a:EC) (n:Int):a.A.setIfInBounds (0+5) (.int .i64 n)=({ a with qty:=n }:EC).A:=rfl
theorem EC.s6 (a:EC) (n:Int):a.A.setIfInBounds (0+6) (.int .i64 n)=({ a with amt:=n }:EC).A:=rfl
theorem EC.s8 (a:EC) (n:Int):a.A.setIfInBounds (0+8) (.int .i64 n)=({ a with known:=n }:EC).A:=rfl
theorem entry_m {day:Int} (hD:0≤day∧day≤73048) (known:Int):Gen 21 [SV.c (.int .i64 day),SV.c (.int .i64 known)] 20 (RE fun x=>(MkX day x∧x.key∈keysE)∧x.known=known):=by
 intro zs k hk
 obtain ⟨r1,k1,a1,b1,⟨key,rfl,c1⟩,O1⟩:=one_g (xs:=[[101,49],[101,50],[101,51],[101,52],[101,53],[101,54]]) (by decide) (by decide) zs k (by omega)
 obtain ⟨r2,k2,a2,b2,⟨i2,rfl,c2⟩,O2⟩:=next_g (n:=8) (by decide) zs k1 (by omega)
 obtain ⟨r3,k3,a3,b3,⟨ins,rfl,c3⟩,O3⟩:=stock_m zs k2 (by omega)
 obtain ⟨r4,k4,a4,b4,⟨i4,rfl,c4⟩,O4⟩:=next_g (n:=1000) (by decide) zs k3 (by omega)
 obtain ⟨r5,k5,a5,b5,⟨amt,rfl,c5⟩,O5⟩:=range_g (lo:=-100000) (hi:=100000) (by decide) (by decide) (by decide) zs k4 (by omega)
 obtain ⟨r6,k6,a6,b6,⟨cur,rfl,c6⟩,O6⟩:=code_m zs k5 (by omega)
 obtain ⟨r7,k7,a7,b7,⟨i7,rfl,c7⟩,O7⟩:=pick_g (xs:=[0,0,1,2,3]) (by decide) (by decide) zs k6 (by omega)
 obtain ⟨r8,k8,a8,b8,⟨flow,rfl⟩,O8⟩:=chance_g (a:=1) (b:=4) (by decide) zs k7 (by omega)
 have ck:key∈keysE:=by
  simp only [List.mem_cons,List.not_mem_nil,or_false] at c1
  rcases c1 with rfl | rfl | rfl | rfl | rfl | rfl<;>decide
 have q7:0≤i7∧i7≤3:=by simp at c7;omega
 have q4:IntKind.i64.wrap (1+i4)=1+i4:=i64_in (by omega)
 have n0:(MkX day (EC.nil key known)∧key∈keysE)∧known=known:=⟨⟨.inl rfl,ck⟩,rfl⟩
 have mk:∀ (kind:Int) (ins:Bs) (qty:Int),((kind=1∧ins∈stocks4∧qty≠0∧-2000≤qty∧qty≤2000)∨(kind=2∧ins=[]∧qty=0))→(MkX day ⟨kind,key,min 73048 (IntKind.i64.wrap (day+i2)),min 73048 (IntKind.i64.wrap (min 73048 (IntKind.i64.wrap (day+i2))+i7)),ins,qty,amt,cur,known,false⟩∧key∈keysE)∧known=known:=fun kind ins qty h=>⟨⟨.inr (mk_ent hD ⟨c2.1,by omega⟩ q7 c5 c6 h),ck⟩,rfl⟩
 cases flow
 ·obtain ⟨r9,k9,a9,b9,⟨sale,rfl⟩,O9⟩:=chance_g (a:=1) (b:=3) (by decide) zs k8 (by omega)
  cases sale
  ·obtain ⟨r10,k10,a10,b10,⟨void,rfl⟩,O10⟩:=chance_g (a:=1) (b:=9) (by decide) zs k9 (by omega)
   cases void
   ·refine ⟨_,k10,by omega,by omega,⟨⟨1,key,min 73048 (IntKind.i64.wrap (day+i2)),min 73048 (IntKind.i64.wrap (min 73048 (IntKind.i64.wrap (day+i2))+i7)),ins,IntKind.i64.wrap (1+i4),amt,cur,known,false⟩,rfl,mk 1 ins _ (.inl ⟨rfl,c3,by rw [q4];omega,by rw [q4];omega,by rw [q4];omega⟩)⟩,fun E v d hE hv=>?_⟩
    refine sx_ownT1 [] tt_ok mixed at21 E hE d (25,2,tb v k,tb v k10) [SV.ptr 1000 0,SV.c (.int .i64 day),SV.c (.int .i64 known)] _ rfl rfl fun w b hT=>?_
    have hv:=hv.of_old hE.symm hT
    exact ⟨by decide,by decide,strs [[101,49],[101,50],[101,51],[101,52],[101,53],[101,54]],by kernel_rfl,rfl,.inr ⟨_,_,_,O1 _ v 1000 9 (by decide) rfl hv,⟨rfl,rfl,trivial⟩,rfl,.inr ⟨_,_,_,O2 _ v 1000 rfl hv,⟨rfl,trivial⟩,rfl,_,fun w' _=>run_min_ct _ _ w',.inr ⟨_,_,_,O3 _ v 1000 rfl hv,⟨rfl,trivial⟩,rfl,.inr ⟨_,_,_,O4 _ v 1000 rfl hv,⟨rfl,trivial⟩,rfl,.inr ⟨_,_,_,O5 _ v 1000 rfl hv,⟨rfl,trivial⟩,rfl,.inr ⟨_,_,_,O6 _ v 1000 rfl hv,⟨rfl,trivial⟩,rfl,_,fill_entry (min 73048 (IntKind.i64.wrap (day+i2))) known (IntKind.i64.wrap (1+i4)) amt key ins cur rfl,EC.fits ⟨1,key,min 73048 (IntKind.i64.wrap (day+i2)),0,ins,IntKind.i64.wrap (1+i4),amt,cur,known,false⟩,_,EC.g2 ⟨1,key,min 73048 (IntKind.i64.wrap (day+i2)),0,ins,IntKind.i64.wrap (1+i4),amt,cur,known,false⟩,by decide,by decide,ints [0,0,1,2,3],by kernel_rfl,rfl,.inr ⟨_,_,_,O7 _ v 1000 30 (by decide) rfl hv,⟨rfl,rfl,trivial⟩,rfl,_,fun w' _=>run_min_ct _ _ w',by decide,rfl,_,EC.s3 ⟨1,key,min 73048 (IntKind.i64.wrap (day+i2)),0,ins,IntKind.i64.wrap (1+i4),amt,cur,known,false⟩ _,by kernel_rfl,.inr ⟨_,_,_,O8 _ v 1000 rfl hv,⟨rfl,trivial⟩,rfl,(nf rfl),fun _=>⟨_,EC.g0 ⟨1,key,min 73048 (IntKind.i64.wrap (day+i2)),min 73048 (IntKind.i64.wrap (min 73048 (IntKind.i64.wrap (day+i2))+i7)),ins,IntKind.i64.wrap (1+i4),amt,cur,known,false⟩,fun _=>.inr ⟨_,_,_,O9 _ v 1000 rfl hv,⟨rfl,trivial⟩,rfl,(nf rfl),fun _=>.inr ⟨_,_,_,O10 _ v 1000 rfl hv,⟨rfl,trivial⟩,rfl,(nf rfl),fun _=>⟨EC.fits _,rfl,rfl,trivial⟩⟩⟩,(nf rfl)⟩⟩⟩⟩⟩⟩⟩⟩⟩⟩
   ·refine ⟨_,k10,by omega,by omega,⟨EC.nil key known,rfl,n0⟩,fun E v d hE hv=>?_⟩
    refine sx_ownT1 [] tt_ok mixed at21 E hE d (25,2,tb v k,tb v k10) [SV.ptr 1000 0,SV.c (.int .i64 day),SV.c (.int .i64 known)] _ rfl rfl fun w b hT=>?_
    have hv:=hv.of_old hE.symm hT
    exact ⟨by decide,by decide,strs [[101,49],[101,50],[101,51],[101,52],[101,53],[101,54]],by kernel_rfl,rfl,.inr ⟨_,_,_,O1 _ v 1000 9 (by decide) rfl hv,⟨rfl,rfl,trivial⟩,rfl,.inr ⟨_,_,_,O2 _ v 1000 rfl hv,⟨rfl,trivial⟩,rfl,_,fun w' _=>run_min_ct _ _ w',.inr ⟨_,_,_,O3 _ v 1000 rfl hv,⟨rfl,trivial⟩,rfl,.inr ⟨_,_,_,O4 _ v 1000 rfl hv,⟨rfl,trivial⟩,rfl,.inr ⟨_,_,_,O5 _ v 1000 rfl hv,⟨rfl,trivial⟩,rfl,.inr ⟨_,_,_,O6 _ v 1000 rfl hv,⟨rfl,trivial⟩,rfl,_,fill_entry (min 73048 (IntKind.i64.wrap (day+i2))) known (IntKind.i64.wrap (1+i4)) amt key ins cur rfl,EC.fits ⟨1,key,min 73048 (IntKind.i64.wrap (day+i2)),0,ins,IntKind.i64.wrap (1+i4),amt,cur,known,false⟩,_,EC.g2 ⟨1,key,min 73048 (IntKind.i64.wrap (day+i2)),0,ins,IntKind.i64.wrap (1+i4),amt,cur,known,false⟩,by decide,by decide,ints [0,0,1,2,3],by kernel_rfl,rfl,.inr ⟨_,_,_,O7 _ v 1000 30 (by decide) rfl hv,⟨rfl,rfl,trivial⟩,rfl,_,fun w' _=>run_min_ct _ _ w',by decide,rfl,_,EC.s3 ⟨1,key,min 73048 (IntKind.i64.wrap (day+i2)),0,ins,IntKind.i64.wrap (1+i4),amt,cur,known,false⟩ _,by kernel_rfl,.inr ⟨_,_,_,O8 _ v 1000 rfl hv,⟨rfl,trivial⟩,rfl,(nf rfl),fun _=>⟨_,EC.g0 ⟨1,key,min 73048 (IntKind.i64.wrap (day+i2)),min 73048 (IntKind.i64.wrap (min 73048 (IntKind.i64.wrap (day+i2))+i7)),ins,IntKind.i64.wrap (1+i4),amt,cur,known,false⟩,fun _=>.inr ⟨_,_,_,O9 _ v 1000 rfl hv,⟨rfl,trivial⟩,rfl,(nf rfl),fun _=>.inr ⟨_,_,_,O10 _ v 1000 rfl hv,⟨rfl,trivial⟩,rfl,fun _=>⟨_,EC.g1 ⟨1,key,min 73048 (IntKind.i64.wrap (day+i2)),min 73048 (IntKind.i64.wrap (min 73048 (IntKind.i64.wrap (day+i2))+i7)),ins,IntKind.i64.wrap (1+i4),amt,cur,known,false⟩,_,fill_voidE key known rfl,EC.fits _,rfl,rfl,trivial⟩,(nf rfl)⟩⟩,(nf rfl)⟩⟩⟩⟩⟩⟩⟩⟩⟩⟩
  ·obtain ⟨r10,k10,a10,b10,⟨i10,rfl,c10⟩,O10⟩:=next_g (n:=60) (by decide) zs k9 (by omega)
   have q10:IntKind.i64.wrap (0 - IntKind.i64.wrap (1+i10))=-(1+i10):=by rw [i64_in (x:=1+i10) (by omega),i64_in (by omega)];omega
   obtain ⟨r11,k11,a11,b11,⟨void,rfl⟩,O11⟩:=chance_g (a:=1) (b:=9) (by decide) zs k10 (by omega)
   cases void
   ·refine ⟨_,k11,by omega,by omega,⟨⟨1,key,min 73048 (IntKind.i64.wrap (day+i2)),min 73048 (IntKind.i64.wrap (min 73048 (IntKind.i64.wrap (day+i2))+i7)),ins,IntKind.i64.wrap (0 - IntKind.i64.wrap (1+i10)),amt,cur,known,false⟩,rfl,mk 1 ins _ (.inl ⟨rfl,c3,by rw [q10];omega,by rw [q10];omega,by rw [q10];omega⟩)⟩,fun E v d hE hv=>?_⟩
    refine sx_ownT1 [] tt_ok mixed at21 E hE d (25,2,tb v k,tb v k11) [SV.ptr 1000 0,SV.c (.int .i64 day),SV.c (.int .i64 known)] _ rfl rfl fun w b hT=>?_
    have hv:=hv.of_old hE.symm hT
    exact ⟨by decide,by decide,strs [[101,49],[101,50],[101,51],[101,52],[101,53],[101,54]],by kernel_rfl,rfl,.inr ⟨_,_,_,O1 _ v 1000 9 (by decide) rfl hv,⟨rfl,rfl,trivial⟩,rfl,.inr ⟨_,_,_,O2 _ v 1000 rfl hv,⟨rfl,trivial⟩,rfl,_,fun w' _=>run_min_ct _ _ w',.inr ⟨_,_,_,O3 _ v 1000 rfl hv,⟨rfl,trivial⟩,rfl,.inr ⟨_,_,_,O4 _ v 1000 rfl hv,⟨rfl,trivial⟩,rfl,.inr ⟨_,_,_,O5 _ v 1000 rfl hv,⟨rfl,trivial⟩,rfl,.inr ⟨_,_,_,O6 _ v 1000 rfl hv,⟨rfl,trivial⟩,rfl,_,fill_entry (min 73048 (IntKind.i64.wrap (day+i2))) known (IntKind.i64.wrap (1+i4)) amt key ins cur rfl,EC.fits ⟨1,key,min 73048 (IntKind.i64.wrap (day+i2)),0,ins,IntKind.i64.wrap (1+i4),amt,cur,known,false⟩,_,EC.g2 ⟨1,key,min 73048 (IntKind.i64.wrap (day+i2)),0,ins,IntKind.i64.wrap (1+i4),amt,cur,known,false⟩,by decide,by decide,ints [0,0,1,2,3],by kernel_rfl,rfl,.inr ⟨_,_,_,O7 _ v 1000 30 (by decide) rfl hv,⟨rfl,rfl,trivial⟩,rfl,_,fun w' _=>run_min_ct _ _ w',by decide,rfl,_,EC.s3 ⟨1,key,min 73048 (IntKind.i64.wrap (day+i2)),0,ins,IntKind.i64.wrap (1+i4),amt,cur,known,false⟩ _,by kernel_rfl,.inr ⟨_,_,_,O8 _ v 1000 rfl hv,⟨rfl,trivial⟩,rfl,(nf rfl),fun _=>⟨_,EC.g0 ⟨1,key,min 73048 (IntKind.i64.wrap (day+i2)),min 73048 (IntKind.i64.wrap (min 73048 (IntKind.i64.wrap (day+i2))+i7)),ins,IntKind.i64.wrap (1+i4),amt,cur,known,false⟩,fun _=>.inr ⟨_,_,_,O9 _ v 1000 rfl hv,⟨rfl,trivial⟩,rfl,fun _=>.inr ⟨_,_,_,O10 _ v 1000 rfl hv,⟨rfl,trivial⟩,rfl,by decide,rfl,_,EC.s5 ⟨1,key,min 73048 (IntKind.i64.wrap (day+i2)),min 73048 (IntKind.i64.wrap (min 73048 (IntKind.i64.wrap (day+i2))+i7)),ins,IntKind.i64.wrap (1+i4),amt,cur,known,false⟩ _,.inr ⟨_,_,_,O11 _ v 1000 rfl hv,⟨rfl,trivial⟩,rfl,(nf rfl),fun _=>⟨EC.fits _,rfl,rfl,trivial⟩⟩⟩,(nf rfl)⟩,(nf rfl)⟩⟩⟩⟩⟩⟩⟩⟩⟩⟩
   ·refine ⟨_,k11,by omega,by omega,⟨EC.nil key known,rfl,n0⟩,fun E v d hE hv=>?_⟩
    refine sx_ownT1 [] tt_ok mixed at21 E hE d (25,2,tb v k,tb v k11) [SV.ptr 1000 0,SV.c (.int .i64 day),SV.c (.int .i64 known)] _ rfl rfl fun w b hT=>?_
    have hv:=hv.of_old hE.symm hT
    exact ⟨by decide,by decide,strs [[101,49],[101,50],[101,51],[101,52],[101,53],[101,54]],by kernel_rfl,rfl,.inr ⟨_,_,_,O1 _ v 1000 9 (by decide) rfl hv,⟨rfl,rfl,trivial⟩,rfl,.inr ⟨_,_,_,O2 _ v 1000 rfl hv,⟨rfl,trivial⟩,rfl,_,fun w' _=>run_min_ct _ _ w',.inr ⟨_,_,_,O3 _ v 1000 rfl hv,⟨rfl,trivial⟩,rfl,.inr ⟨_,_,_,O4 _ v 1000 rfl hv,⟨rfl,trivial⟩,rfl,.inr ⟨_,_,_,O5 _ v 1000 rfl hv,⟨rfl,trivial⟩,rfl,.inr ⟨_,_,_,O6 _ v 1000 rfl hv,⟨rfl,trivial⟩,rfl,_,fill_entry (min 73048 (IntKind.i64.wrap (day+i2))) known (IntKind.i64.wrap (1+i4)) amt key ins cur rfl,EC.fits ⟨1,key,min 73048 (IntKind.i64.wrap (day+i2)),0,ins,IntKind.i64.wrap (1+i4),amt,cur,known,false⟩,_,EC.g2 ⟨1,key,min 73048 (IntKind.i64.wrap (day+i2)),0,ins,IntKind.i64.wrap (1+i4),amt,cur,known,false⟩,by decide,by decide,ints [0,0,1,2,3],by kernel_rfl,rfl,.inr ⟨_,_,_,O7 _ v 1000 30 (by decide) rfl hv,⟨rfl,rfl,trivial⟩,rfl,_,fun w' _=>run_min_ct _ _ w',by decide,rfl,_,EC.s3 ⟨1,key,min 73048 (IntKind.i64.wrap (day+i2)),0,ins,IntKind.i64.wrap (1+i4),amt,cur,known,false⟩ _,by kernel_rfl,.inr ⟨_,_,_,O8 _ v 1000 rfl hv,⟨rfl,trivial⟩,rfl,(nf rfl),fun _=>⟨_,EC.g0 ⟨1,key,min 73048 (IntKind.i64.wrap (day+i2)),min 73048 (IntKind.i64.wrap (min 73048 (IntKind.i64.wrap (day+i2))+i7)),ins,IntKind.i64.wrap (1+i4),amt,cur,known,false⟩,fun _=>.inr ⟨_,_,_,O9 _ v 1000 rfl hv,⟨rfl,trivial⟩,rfl,fun _=>.inr ⟨_,_,_,O10 _ v 1000 rfl hv,⟨rfl,trivial⟩,rfl,by decide,rfl,_,EC.s5 ⟨1,key,min 73048 (IntKind.i64.wrap (day+i2)),min 73048 (IntKind.i64.wrap (min 73048 (IntKind.i64.wrap (day+i2))+i7)),ins,IntKind.i64.wrap (1+i4),amt,cur,known,false⟩ _,.inr ⟨_,_,_,O11 _ v 1000 rfl hv,⟨rfl,trivial⟩,rfl,fun _=>⟨_,EC.g1 ⟨1,key,min 73048 (IntKind.i64.wrap (day+i2)),min 73048 (IntKind.i64.wrap (min 73048 (IntKind.i64.wrap (day+i2))+i7)),ins,IntKind.i64.wrap (0 - IntKind.i64.wrap (1+i10)),amt,cur,known,false⟩,_,fill_voidE key known rfl,EC.fits _,rfl,rfl,trivial⟩,(nf rfl)⟩⟩,(nf rfl)⟩,(nf rfl)⟩⟩⟩⟩⟩⟩⟩⟩⟩⟩
 ·obtain ⟨r9,k9,a9,b9,⟨void,rfl⟩,O9⟩:=chance_g (a:=1) (b:=9) (by decide) zs k8 (by omega)
  cases void
  ·refine ⟨_,k9,by omega,by omega,⟨⟨2,key,min 73048 (IntKind.i64.wrap (day+i2)),min 73048 (IntKind.i64.wrap (min 73048 (IntKind.i64.wrap (day+i2))+i7)),[],0,amt,cur,known,false⟩,rfl,mk 2 [] 0 (.inr ⟨rfl,rfl,rfl⟩)⟩,fun E v d hE hv=>?_⟩
   refine sx_ownT1 [] tt_ok mixed at21 E hE d (25,2,tb v k,tb v k9) [SV.ptr 1000 0,SV.c (.int .i64 day),SV.c (.int .i64 known)] _ rfl rfl fun w b hT=>?_
   have hv:=hv.of_old hE.symm hT
   exact ⟨by decide,by decide,strs [[101,49],[101,50],[101,51],[101,52],[101,53],[101,54]],by kernel_rfl,rfl,.inr ⟨_,_,_,O1 _ v 1000 9 (by decide) rfl hv,⟨rfl,rfl,trivial⟩,rfl,.inr ⟨_,_,_,O2 _ v 1000 rfl hv,⟨rfl,trivial⟩,rfl,_,fun w' _=>run_min_ct _ _ w',.inr ⟨_,_,_,O3 _ v 1000 rfl hv,⟨rfl,trivial⟩,rfl,.inr ⟨_,_,_,O4 _ v 1000 rfl hv,⟨rfl,trivial⟩,rfl,.inr ⟨_,_,_,O5 _ v 1000 rfl hv,⟨rfl,trivial⟩,rfl,.inr ⟨_,_,_,O6 _ v 1000 rfl hv,⟨rfl,trivial⟩,rfl,_,fill_entry (min 73048 (IntKind.i64.wrap (day+i2))) known (IntKind.i64.wrap (1+i4)) amt key ins cur rfl,EC.fits ⟨1,key,min 73048 (IntKind.i64.wrap (day+i2)),0,ins,IntKind.i64.wrap (1+i4),amt,cur,known,false⟩,_,EC.g2 ⟨1,key,min 73048 (IntKind.i64.wrap (day+i2)),0,ins,IntKind.i64.wrap (1+i4),amt,cur,known,false⟩,by decide,by decide,ints [0,0,1,2,3],by kernel_rfl,rfl,.inr ⟨_,_,_,O7 _ v 1000 30 (by decide) rfl hv,⟨rfl,rfl,trivial⟩,rfl,_,fun w' _=>run_min_ct _ _ w',by decide,rfl,_,EC.s3 ⟨1,key,min 73048 (IntKind.i64.wrap (day+i2)),0,ins,IntKind.i64.wrap (1+i4),amt,cur,known,false⟩ _,by kernel_rfl,.inr ⟨_,_,_,O8 _ v 1000 rfl hv,⟨rfl,trivial⟩,rfl,fun _=>⟨by decide,rfl,_,EC.s0 ⟨1,key,min 73048 (IntKind.i64.wrap (day+i2)),min 73048 (IntKind.i64.wrap (min 73048 (IntKind.i64.wrap (day+i2))+i7)),ins,IntKind.i64.wrap (1+i4),amt,cur,known,false⟩ 2,by decide,rfl,_,EC.s4 ⟨2,key,min 73048 (IntKind.i64.wrap (day+i2)),min 73048 (IntKind.i64.wrap (min 73048 (IntKind.i64.wrap (day+i2))+i7)),ins,IntKind.i64.wrap (1+i4),amt,cur,known,false⟩ [],by decide,rfl,_,EC.s5 ⟨2,key,min 73048 (IntKind.i64.wrap (day+i2)),min 73048 (IntKind.i64.wrap (min 73048 (IntKind.i64.wrap (day+i2))+i7)),[],IntKind.i64.wrap (1+i4),amt,cur,known,false⟩ 0,_,EC.g0 ⟨2,key,min 73048 (IntKind.i64.wrap (day+i2)),min 73048 (IntKind.i64.wrap (min 73048 (IntKind.i64.wrap (day+i2))+i7)),[],0,amt,cur,known,false⟩,(nf rfl),fun _=>⟨(nf rfl),fun _=>.inr ⟨_,_,_,O9 _ v 1000 rfl hv,⟨rfl,trivial⟩,rfl,(nf rfl),fun _=>⟨EC.fits _,rfl,rfl,trivial⟩⟩⟩⟩,(nf rfl)⟩⟩⟩⟩⟩⟩⟩⟩⟩
  ·refine ⟨_,k9,by omega,by omega,⟨EC.nil key known,rfl,n0⟩,fun E v d hE hv=>?_⟩
   refine sx_ownT1 [] tt_ok mixed at21 E hE d (25,2,tb v k,tb v k9) [SV.ptr 1000 0,SV.c (.int .i64 day),SV.c (.int .i64 known)] _ rfl rfl fun w b hT=>?_
   have hv:=hv.of_old hE.symm hT
   exact ⟨by decide,by decide,strs [[101,49],[101,50],[101,51],[101,52],[101,53],[101,54]],by kernel_rfl,rfl,.inr ⟨_,_,_,O1 _ v 1000 9 (by decide) rfl hv,⟨rfl,rfl,trivial⟩,rfl,.inr ⟨_,_,_,O2 _ v 1000 rfl hv,⟨rfl,trivial⟩,rfl,_,fun w' _=>run_min_ct _ _ w',.inr ⟨_,_,_,O3 _ v 1000 rfl hv,⟨rfl,trivial⟩,rfl,.inr ⟨_,_,_,O4 _ v 1000 rfl hv,⟨rfl,trivial⟩,rfl,.inr ⟨_,_,_,O5 _ v 1000 rfl hv,⟨rfl,trivial⟩,rfl,.inr ⟨_,_,_,O6 _ v 1000 rfl hv,⟨rfl,trivial⟩,rfl,_,fill_entry (min 73048 (IntKind.i64.wrap (day+i2))) known (IntKind.i64.wrap (1+i4)) amt key ins cur rfl,EC.fits ⟨1,key,min 73048 (IntKind.i64.wrap (day+i2)),0,ins,IntKind.i64.wrap (1+i4),amt,cur,known,false⟩,_,EC.g2 ⟨1,key,min 73048 (IntKind.i64.wrap (day+i2)),0,ins,IntKind.i64.wrap (1+i4),amt,cur,known,false⟩,by decide,by decide,ints [0,0,1,2,3],by kernel_rfl,rfl,.inr ⟨_,_,_,O7 _ v 1000 30 (by decide) rfl hv,⟨rfl,rfl,trivial⟩,rfl,_,fun w' _=>run_min_ct _ _ w',by decide,rfl,_,EC.s3 ⟨1,key,min 73048 (IntKind.i64.wrap (day+i2)),0,ins,IntKind.i64.wrap (1+i4),amt,cur,known,false⟩ _,by kernel_rfl,.inr ⟨_,_,_,O8 _ v 1000 rfl hv,⟨rfl,trivial⟩,rfl,fun _=>⟨by decide,rfl,_,EC.s0 ⟨1,key,min 73048 (IntKind.i64.wrap (day+i2)),min 73048 (IntKind.i64.wrap (min 73048 (IntKind.i64.wrap (day+i2))+i7)),ins,IntKind.i64.wrap (1+i4),amt,cur,known,false⟩ 2,by decide,rfl,_,EC.s4 ⟨2,key,min 73048 (IntKind.i64.wrap (day+i2)),min 73048 (IntKind.i64.wrap (min 73048 (IntKind.i64.wrap (day+i2))+i7)),ins,IntKind.i64.wrap (1+i4),amt,cur,known,false⟩ [],by decide,rfl,_,EC.s5 ⟨2,key,min 73048 (IntKind.i64.wrap (day+i2)),min 73048 (IntKind.i64.wrap (min 73048 (IntKind.i64.wrap (day+i2))+i7)),[],IntKind.i64.wrap (1+i4),amt,cur,known,false⟩ 0,_,EC.g0 ⟨2,key,min 73048 (IntKind.i64.wrap (day+i2)),min 73048 (IntKind.i64.wrap (min 73048 (IntKind.i64.wrap (day+i2))+i7)),[],0,amt,cur,known,false⟩,(nf rfl),fun _=>⟨(nf rfl),fun _=>.inr ⟨_,_,_,O9 _ v 1000 rfl hv,⟨rfl,trivial⟩,rfl,fun _=>⟨_,EC.g1 ⟨2,key,min 73048 (IntKind.i64.wrap (day+i2)),min 73048 (IntKind.i64.wrap (min 73048 (IntKind.i64.wrap (day+i2))+i7)),[],0,amt,cur,known,false⟩,_,fill_voidE key known rfl,EC.fits _,rfl,rfl,trivial⟩,(nf rfl)⟩⟩⟩,(nf rfl)⟩⟩⟩⟩⟩⟩⟩⟩⟩
def EntM (D:Int) (n:Nat) (k:Nat) (v:Value) (x:Value) (U:MemL):Prop:=∃ (xs:List EC) (k':Nat) (b:Int),k≤k'∧k'≤k+4000∧IsL x n∧MkL D n b xs∧b≤2+5*n∧U=[(1000,Blk.row 25 2 (tb v k')),(3001,Blk.own x 31 10 n (cat EC.A xs))]
theorem run_maxe {P:Program} {ats:Array TypeId} {ty:TypeId} {cs:Array Bool} (x y:Int) (w:World):(builtin .max ats ty cs #[.int .i64 x,.int .i64 y]).run P w=.ok (.value (.int .i64 (max x y))) w:=by
 simp [builtin,Go.Lib.run_max_ints]
theorem entries_m {E:Env} (hE:E.P=Tryz.prog) {v:Value} {zs:List Int} (hv:Tp E v zs) {n k:Nat} (hn:n≤30) (hk:k+4000≤4000000000000000000) {day:Int} (hD:0≤day∧day≤73048):OwnC E 11 [SV.ptr 1000 0,SV.c (.int .i64 (n:Nat)),SV.c (.int .i64 day)] [(1000,Blk.row 25 2 (tb v k))] (EntM day n k v):=by
 refine sx_ownC [13] tt_ok mixed at11 E hE [SV.ptr 1000 0,SV.c (.int .i64 (n:Nat)),SV.c (.int .i64 day)] [(1000,Blk.row 25 2 (tb v k))] _ rfl rfl fun w X β hT=>?_
 have hv':Tp (envC Tryz.prog tt Tryz.f11.ntmps w X (tiedK [(1000,Blk.row 25 2 (tb v k))] β)).toEnv v zs:=hv.of_old hE.symm hT
 obtain ⟨r1,k1,a1,b1,⟨i1,rfl,c1⟩,O1⟩:=next_g (n:=3) (by decide) zs k (by omega)
 refine .inr (.inl ⟨_,_,_,O1 _ v 1000 rfl hv',⟨rfl,trivial⟩,rfl,?_⟩)
 refine ⟨fun q f m=>∃ (i k2:Nat) (xs:List EC) (x:Value) (known:Int),q=n - i∧i≤n∧k≤k2∧k2≤k+1+100*i∧IsL x i∧MkL day i known xs∧0≤known∧known≤2+5*i∧f=[(0,SV.ptr 1000 0),(1,SV.c (.int .i64 (n:Nat))),(2,SV.c (.int .i64 day)),(7,SV.c x),(8,SV.c (.int .i64 known)),(9,SV.c (.int .i64 (i:Nat)))]∧m=[(1000,Blk.row 25 2 (tb v k2)),(3001,Blk.own x 31 10 i (cat EC.A xs))],n,⟨_,_,⟨0,k1,[],.slice none 0 0,i1,by omega,by omega,by omega,by omega,.nil,.nil c1.1,c1.1,by omega,rfl,rfl⟩,⟨rfl,rfl,rfl,rfl,rfl,rfl,trivial⟩,⟨rfl,.inr ⟨rfl,rfl,rfl⟩,trivial⟩,rfl⟩,?_⟩
 rintro q f m ⟨i,k2,xs,x,known,rfl,hi,hk1,hk2,hx,hM,h0,hb,rfl,rfl⟩
 refine ⟨fun h=>?_,fun h=>?_⟩
 ·have h:i < n:=by have:=of_decide_eq_true h;omega
  obtain ⟨r3,k3,a3,b3,⟨i3,rfl,c3⟩,O3⟩:=pick_g (xs:=[0,1,4]) (by decide) (by decide) zs k2 (by omega)
  have q3:0≤i3∧i3≤4:=by simp at c3;omega
  have e3:IntKind.i64.wrap (known+IntKind.i64.wrap (1+i3))=known+1+i3:=by rw [i64_in (x:=1+i3) (by omega),i64_in (by omega)];omega
  obtain ⟨r4,k4,a4,b4,⟨y,rfl,c4,c5⟩,O4⟩:=entry_m hD (IntKind.i64.wrap (known+IntKind.i64.wrap (1+i3))) zs k3 (by omega)
  have ed:IntKind.i64.wrap (day - 1)=day - 1:=i64_in (by omega)
  refine .inl ⟨by decide,by decide,ints [0,1,4],by kernel_rfl,rfl,.inr (.inl ⟨_,_,_,O3 _ v 1000 20 (by decide) rfl hv',⟨rfl,rfl,trivial⟩,rfl,?_⟩)⟩
  refine .inr (.inl ⟨_,_,_,O4 _ v 1000 rfl hv',⟨rfl,trivial⟩,rfl,y.fits,?_⟩)
  refine ⟨fun f m=>∃ (z:EC) (k5:Nat),k4≤k5∧k5≤k4+1∧(MkX day z∧z.key∈keysE)∧z.known=IntKind.i64.wrap (known+IntKind.i64.wrap (1+i3))∧f=[(0,SV.ptr 1000 0),(1,SV.c (.int .i64 (n:Nat))),(2,SV.c (.int .i64 day)),(7,SV.c x),(8,SV.c (.int .i64 (IntKind.i64.wrap (known+IntKind.i64.wrap (1+i3))))),(9,SV.c (.int .i64 (i:Nat))),(10,SV.ptr 10 0)]∧m=[(1000,Blk.row 25 2 (tb v k5)),(3001,Blk.own x 31 10 i (cat EC.A xs)),(10,Blk.row 31 10 z.A)],?_,?_⟩
  ·refine ⟨fun h3=>⟨_,EC.g9 y,fun hy=>?_,fun hy=>?_⟩,fun h3=>⟨nf rfl,fun _=>?_⟩⟩
   ·have hy:y.void=false:=by simpa using hy
    have hf:=c4.1.first hy hD.1
    obtain ⟨r5,k5,a5,b5,⟨key,rfl,c6⟩,O5⟩:=one_g (xs:=[[112,49],[112,50],[112,51]]) (by decide) (by decide) zs k4 (by omega)
    have hk5:key∈keysE:=by
     simp only [List.mem_cons,List.not_mem_nil,or_false] at c6
     rcases c6 with rfl | rfl | rfl<;>decide
    refine .inl ⟨by decide,by decide,strs [[112,49],[112,50],[112,51]],by kernel_rfl,rfl,.inr (.inl ⟨_,_,_,O5 _ v 1000 36 (by decide) rfl hv',⟨rfl,rfl,trivial⟩,rfl,by decide,rfl,_,EC.s1 y key,?_⟩)⟩
    refine ⟨_,fun w' _=>run_maxe _ _ w',by decide,rfl,_,EC.s2 ({ y with key:=key }:EC) _,?_⟩
    rw [ed]
    have fin:∀ z:EC,(MkX day z∧z.key∈keysE)→z.known=IntKind.i64.wrap (known+IntKind.i64.wrap (1+i3))→k4≤k5∧k5≤k4+1∧(MkX day z∧z.key∈keysE)∧z.known=IntKind.i64.wrap (known+IntKind.i64.wrap (1+i3)):=fun z h1 h2=>⟨by omega,by omega,h1,h2⟩
    refine ⟨_,EC.g0 ({ y with key:=key,day:=max 0 (day - 1) }:EC),fun hk=>⟨_,EC.g5 ({ y with key:=key,day:=max 0 (day - 1) }:EC),fun _=>⟨by decide,rfl,_,EC.s5 ({ y with key:=key,day:=max 0 (day - 1) }:EC) 2000,?_⟩,fun _=>?_⟩,fun _=>⟨nf rfl,fun _=>?_⟩⟩
    ·obtain ⟨d1,d2,d3,d4⟩:=fin { y with key:=key,day:=max 0 (day - 1),qty:=2000 } ⟨(hf key).2 (eq_of_beq hk),hk5⟩ c5
     exact ⟨_,_,⟨_,k5,d1,d2,d3,d4,rfl,rfl⟩,⟨rfl,rfl,rfl,rfl,rfl,rfl,rfl,trivial⟩,⟨rfl,.inl rfl,rfl,trivial⟩,rfl⟩
    all_goals
     obtain ⟨d1,d2,d3,d4⟩:=fin { y with key:=key,day:=max 0 (day - 1) } ⟨(hf key).1,hk5⟩ c5
     exact ⟨_,_,⟨_,k5,d1,d2,d3,d4,rfl,rfl⟩,⟨rfl,rfl,rfl,rfl,rfl,rfl,rfl,trivial⟩,⟨rfl,.inl rfl,rfl,trivial⟩,rfl⟩
   ·exact ⟨_,_,⟨y,k4,by omega,by omega,c4,c5,rfl,rfl⟩,⟨rfl,rfl,rfl,rfl,rfl,rfl,rfl,trivial⟩,⟨rfl,.inl rfl,rfl,trivial⟩,rfl⟩
   ·exact ⟨_,_,⟨y,k4,by omega,by omega,c4,c5,rfl,rfl⟩,⟨rfl,rfl,rfl,rfl,rfl,rfl,rfl,trivial⟩,⟨rfl,.inl rfl,rfl,trivial⟩,rfl⟩
  rintro f1 m1 ⟨z,k5,a6,b6,c6,c7,rfl,rfl⟩
  have F1:=fill_ent1 z
  have F5:cat EC.A xs++z.A=cat EC.A (xs++[z]):=cat_snoc xs z
  obtain ⟨q,hq,hb'⟩:=info_ent
  refine .inl ⟨by decide,by decide,_,F1,z.size,by decide,3001,i,_,.inl rfl,by decide,z.one,z.size,_,z.ext10,?_⟩
  refine ⟨by omega,by unfold maxLen;omega,⟨q,hq,by rw [hb'];omega⟩,trivial,fun g2 cap2=>?_⟩
  refine ⟨n - (i+1),_,_,by omega,⟨i+1,k5,xs++[z],_,_,rfl,by omega,by omega,by omega,.some,?_,?_,?_,rfl,rfl⟩,⟨rfl,rfl,rfl,rfl,rfl,c_int (i64_succ (by omega)),trivial⟩,⟨rfl,.inl (own_eq F5),trivial⟩,rfl⟩
  ·rw [e3] at c7;rw [e3,← c7];exact hM.snoc c6.1 c6.2 (by omega) h0 (by omega) (by omega)
  ·rw [e3];omega
  ·rw [e3];omega
 ·have h:i=n:=by have:=of_decide_eq_false h;omega
  subst h
  exact ⟨[(1000,Blk.row 25 2 (tb v k2)),(3001,Blk.own x 31 10 i (cat EC.A xs))],[],⟨xs,k2,known,by omega,by omega,hx,hM,hb,rfl⟩,⟨rfl,.inl rfl,trivial⟩,rfl⟩
theorem off10 (p:Nat):offAt 0 ((p:Nat):Int) ti31.size=p*10:=by
 show offAt 0 ((p:Nat):Int) 10=p*10
 simp [offAt]
theorem off3 (p:Nat):offAt 0 ((p:Nat):Int) ti49.size=p*3:=by
 show offAt 0 ((p:Nat):Int) 3=p*3
 simp [offAt]
end Go.Proofs.YtekfkdddadcalaaGreatDoor
