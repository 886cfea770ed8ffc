/- walks: days and actions that are made. walks: a number that is made. walks: ratios that are made. walks: the law ActionPlays. a tape that came in; no condition. -/
import Derived.Lib.MinMax
import Derived.Test.YtnfmpddhcjkjbaaGreatDoorP21
set_option maxRecDepth 100000
set_option maxHeartbeats 4000000
namespace Go.Proofs.YtnfmpddhcjkjbaaGreatDoor
open Go Go.RowKit Go.SX
theorem day_g:Gen 17 [] 2 (RI fun i=>0≤i∧i≤73048):=by
 intro zs k hk
 obtain ⟨r1,k1,a1,b1,⟨i1,rfl,c1⟩,O1⟩:=next_g (n:=12) (by decide) zs k (by omega)
 by_cases h0:i1=0
 ·obtain ⟨r2,k2,a2,b2,⟨i2,rfl,c2⟩,O2⟩:=next_g (n:=40) (by decide) zs k1 (by omega)
  refine ⟨_,k2,by omega,by omega,⟨i2,rfl,by omega⟩,fun E v d hE hv=>?_⟩
  refine sx_ownT1 [] tt_ok mixed at17 E hE d (42,2,tb v k,tb v k2) [SV.ptr 1000 0] _ rfl rfl fun w b hT=>?_
  have hv:=hv.of_old hE.symm hT
  subst h0
  exact .inr ⟨_,_,_,O1 _ v 1000 rfl hv,⟨rfl,trivial⟩,rfl,fun _=>.inr ⟨_,_,_,O2 _ v 1000 rfl hv,⟨rfl,trivial⟩,rfl,rfl,rfl,trivial⟩,nofun⟩
 by_cases h1:i1=1
 ·obtain ⟨r2,k2,a2,b2,⟨i2,rfl,c2⟩,O2⟩:=next_g (n:=40) (by decide) zs k1 (by omega)
  refine ⟨_,k2,by omega,by omega,⟨73048 - i2,rfl,by omega⟩,fun E v d hE hv=>?_⟩
  refine sx_ownT1 [] tt_ok mixed at17 E hE d (42,2,tb v k,tb v k2) [SV.ptr 1000 0] _ rfl rfl fun w b hT=>?_
  have hv:=hv.of_old hE.symm hT
  subst h1
  exact .inr ⟨_,_,_,O1 _ v 1000 rfl hv,⟨rfl,trivial⟩,rfl,nofun,fun _=>⟨fun _=>.inr ⟨_,_,_,O2 _ v 1000 rfl hv,⟨rfl,trivial⟩,rfl,vi (i64_in (by omega)),rfl,trivial⟩,nofun⟩⟩
 by_cases h2:i1=2
 ·obtain ⟨r2,k2,a2,b2,⟨i2,rfl,c2⟩,O2⟩:=next_g (n:=73049) (by decide) zs k1 (by omega)
  refine ⟨_,k2,by omega,by omega,⟨i2,rfl,by omega⟩,fun E v d hE hv=>?_⟩
  refine sx_ownT1 [] tt_ok mixed at17 E hE d (42,2,tb v k,tb v k2) [SV.ptr 1000 0] _ rfl rfl fun w b hT=>?_
  have hv:=hv.of_old hE.symm hT
  subst h2
  exact .inr ⟨_,_,_,O1 _ v 1000 rfl hv,⟨rfl,trivial⟩,rfl,nofun,fun _=>⟨nofun,fun _=>⟨fun _=>.inr ⟨_,_,_,O2 _ v 1000 rfl hv,⟨rfl,trivial⟩,rfl,rfl,rfl,trivial⟩,nofun⟩⟩⟩
 by_cases h3:i1=3
 ·obtain ⟨r2,k2,a2,b2,⟨i2,rfl,c2⟩,O2⟩:=pick_g (xs:=[59,60,365,366,1520,8825,36584,36583,36525,9861,9862]) (by decide) (by decide) zs k1 (by omega)
  refine ⟨_,k2,by omega,by omega,⟨i2,rfl,by simp at c2;omega⟩,fun E v d hE hv=>?_⟩
  refine sx_ownT1 [] tt_ok mixed at17 E hE d (42,2,tb v k,tb v k2) [SV.ptr 1000 0] _ rfl rfl fun w b hT=>?_
  have hv:=hv.of_old hE.symm hT
  subst h3
  exact .inr ⟨_,_,_,O1 _ v 1000 rfl hv,⟨rfl,trivial⟩,rfl,nofun,fun _=>⟨nofun,fun _=>⟨nofun,fun _=>⟨fun _=>⟨by decide,by decide,ints [59,60,365,366,1520,8825,36584,36583,36525,9861,9862],by kernel_rfl,rfl,.inr ⟨_,_,_,O2 _ v 1000 21 (by decide) rfl hv,⟨rfl,rfl,trivial⟩,rfl,rfl,rfl,trivial⟩⟩,nofun⟩⟩⟩⟩
 ·obtain ⟨r2,k2,a2,b2,⟨i2,rfl,c2⟩,O2⟩:=next_g (n:=60) (by decide) zs k1 (by omega)
  refine ⟨_,k2,by omega,by omega,⟨9487+i2,rfl,by omega⟩,fun E v d hE hv=>?_⟩
  refine sx_ownT1 [] tt_ok mixed at17 E hE d (42,2,tb v k,tb v k2) [SV.ptr 1000 0] _ rfl rfl fun w b hT=>?_
  have hv:=hv.of_old hE.symm hT
  have n:∀ {j:Int},¬ i1=j→∀ {C:Prop},(i1 == j)=true→C:=fun h _ e=>absurd (eq_of_beq e) h
  exact .inr ⟨_,_,_,O1 _ v 1000 rfl hv,⟨rfl,trivial⟩,rfl,n h0,fun _=>⟨n h1,fun _=>⟨n h2,fun _=>⟨n h3,fun _=>.inr ⟨_,_,_,O2 _ v 1000 rfl hv,⟨rfl,trivial⟩,rfl,vi (i64_in (by omega)),rfl,trivial⟩⟩⟩⟩⟩
theorem stock_g:Gen 60 [] 1 (RS fun l=>l.length≤100):=by
 intro zs k hk
 obtain ⟨r1,k1,a1,b1,⟨l,rfl,c1⟩,O1⟩:=one_g (xs:=[[65,67,77,69],[66,79,78,68],[71,79,76,68],[88,49]]) (by decide) (by decide) zs k (by omega)
 refine ⟨_,k1,by omega,by omega,⟨l,rfl,by simp at c1;rcases c1 with rfl | rfl | rfl | rfl<;>simp⟩,fun E v d hE hv=>?_⟩
 refine sx_ownT1 [] tt_ok mixed at60 E hE d (42,2,tb v k,tb v k1) [SV.ptr 1000 0] _ rfl rfl fun w b hT=>?_
 have hv:=hv.of_old hE.symm hT
 exact ⟨by decide,by decide,strs [[65,67,77,69],[66,79,78,68],[71,79,76,68],[88,49]],by kernel_rfl,rfl,.inr ⟨_,_,_,O1 _ v 1000 4 (by decide) rfl hv,⟨rfl,rfl,trivial⟩,rfl,rfl,rfl,trivial⟩⟩
theorem code_g:Gen 61 [] 1 (RS fun l=>l.length≤100):=by
 intro zs k hk
 obtain ⟨r1,k1,a1,b1,⟨l,rfl,c1⟩,O1⟩:=one_g (xs:=[[85,83,68],[85,83,68],[69,85,82],[71,66,80]]) (by decide) (by decide) zs k (by omega)
 refine ⟨_,k1,by omega,by omega,⟨l,rfl,by simp at c1;rcases c1 with rfl | rfl | rfl<;>simp⟩,fun E v d hE hv=>?_⟩
 refine sx_ownT1 [] tt_ok mixed at61 E hE d (42,2,tb v k,tb v k1) [SV.ptr 1000 0] _ rfl rfl fun w b hT=>?_
 have hv:=hv.of_old hE.symm hT
 exact ⟨by decide,by decide,strs [[85,83,68],[85,83,68],[69,85,82],[71,66,80]],by kernel_rfl,rfl,.inr ⟨_,_,_,O1 _ v 1000 4 (by decide) rfl hv,⟨rfl,rfl,trivial⟩,rfl,rfl,rfl,trivial⟩⟩
theorem AC.set3 (a:AC) (l:List UInt8):a.A.setIfInBounds (0+3) (.string (S l))=({ a with into:=l }:AC).A:=by kernel_rfl
theorem AC.set0 (a:AC) (n:Int):a.A.setIfInBounds (0+0) (.int .i64 n)=({ a with kind:=n }:AC).A:=by kernel_rfl
theorem AC.set5 (a:AC) (n:Int):a.A.setIfInBounds (0+5) (.int .i64 n)=({ a with num:=n }:AC).A:=by kernel_rfl
theorem AC.set6 (a:AC) (n:Int):a.A.setIfInBounds (0+6) (.int .i64 n)=({ a with den:=n }:AC).A:=by kernel_rfl
theorem AC.setcash (a:AC) (r:RQ):splice a.A (0+7) r.A.toList=({ a with cash:=r }:AC).A:=by kernel_rfl
theorem fill_made (kind day known:Int) (key ins cur:List UInt8) (r:RQ) {pl:List (Nat×Nat)} (hpl:pl=[(0,1),(1,1),(2,1),(3,1),(4,1),(5,1),(6,1),(7,66),(73,1),(74,1),(75,1)]):Instr.fill (fun k=>pl[k]?) ti29.zero [(0,.int .i64 kind),(1,.string (S key)),(2,.string (S ins)),(4,.int .i64 day),(7,.agg r.A),(8,.string (S cur)),(9,.int .i64 known)]=some (AC.A ⟨kind,key,ins,[],day,0,0,r,cur,known,false⟩):=by
 subst hpl
 kernel_rfl
theorem run_min_ct {P:Program} {ats:Array TypeId} {ty:TypeId} {cs:Array Bool} (x y:Int) (w:World):(builtin .min ats ty cs #[.int .i64 x,.int .i64 y]).run P w=.ok (.value (.int .i64 (min x y))) w:=by
 simp [builtin,Go.Lib.run_min_ints]
def RC (P:AC→Prop) (r:Value):Prop:=∃ a:AC,r=.agg a.A∧P a
theorem action_g (day known:Int):Gen 16 [SV.c (.int .i64 day),SV.c (.int .i64 known)] 20 (RC AC.In):=by
 intro zs k hk
 obtain ⟨r1,k1,a1,b1,⟨kind,rfl,c1⟩,O1⟩:=range_g (lo:=1) (hi:=3) (by decide) (by decide) (by decide) zs k (by omega)
 obtain ⟨r2,k2,a2,b2,⟨key,rfl,c2⟩,O2⟩:=one_g (xs:=[[115,49],[115,50],[100,49],[109,49]]) (by decide) (by decide) zs k1 (by omega)
 obtain ⟨r3,k3,a3,b3,⟨ins,rfl,c3⟩,O3⟩:=stock_g zs k2 (by omega)
 obtain ⟨r4,k4,a4,b4,⟨i4,rfl,c4⟩,O4⟩:=next_g (n:=8) (by decide) zs k3 (by omega)
 obtain ⟨r5,k5,a5,b5,⟨cash,rfl,c5⟩,O5⟩:=price_g zs k4 (by omega)
 obtain ⟨r6,k6,a6,b6,⟨cur,rfl,c6⟩,O6⟩:=code_g zs k5 (by omega)
 have lkey:key.length≤9223372036854775807:=by simp at c2;rcases c2 with rfl | rfl | rfl | rfl<;>simp
 have c5:=c5.in_
 have n0:(AC.nil key known).In:=⟨nil_in,lkey,by simp [AC.nil],by simp [AC.nil],by simp [AC.nil],by simp [AC.nil],by simp [AC.nil]⟩
 have mk:∀ (kind:Int) (into:List UInt8) (dy num den:Int) (r:RQ),into.length≤100→r.In→-1000000000≤num∧num≤1000000000→-1000000000≤den∧den≤1000000000→(AC.mk kind key ins into dy num den r cur known false).In:=fun kind into dy num den r h1 h2 h3 h4=>⟨h2,lkey,by show ins.length≤_;omega,by show into.length≤_;omega,by show cur.length≤_;omega,by show _≤num∧num≤_;omega,by show _≤den∧den≤_;omega⟩
 by_cases h2:kind=2
 ·subst h2
  obtain ⟨r7,k7,a7,b7,⟨void,rfl⟩,O7⟩:=chance_g (a:=1) (b:=8) (by decide) zs k6 (by omega)
  cases void
  ·refine ⟨_,k7,by omega,by omega,⟨(AC.mk 2 key ins [] (min 73048 (IntKind.i64.wrap (day+i4))) 0 0 cash cur known false),rfl,mk _ _ _ _ _ _ (by simp) c5 (by omega) (by omega)⟩,fun E v d hE hv=>?_⟩
   refine sx_ownT1 [] tt_ok mixed at16 E hE d (42,2,tb v k,tb v k7) [SV.ptr 1000 0,SV.c (.int .i64 day),SV.c (.int .i64 known)] _ rfl rfl fun w b hT=>?_
   have hv:=hv.of_old hE.symm hT
   exact .inr ⟨_,_,_,O1 _ v 1000 rfl hv,⟨rfl,trivial⟩,rfl,by decide,by decide,strs [[115,49],[115,50],[100,49],[109,49]],by kernel_rfl,rfl,.inr ⟨_,_,_,O2 _ v 1000 11 (by decide) rfl hv,⟨rfl,rfl,trivial⟩,rfl,.inr ⟨_,_,_,O3 _ v 1000 rfl hv,⟨rfl,trivial⟩,rfl,.inr ⟨_,_,_,O4 _ v 1000 rfl hv,⟨rfl,trivial⟩,rfl,_,fun w' _=>run_min_ct _ _ w',.inr ⟨_,_,_,O5 _ v 1000 rfl hv,⟨rfl,trivial⟩,rfl,.inr ⟨_,_,_,O6 _ v 1000 rfl hv,⟨rfl,trivial⟩,rfl,_,fill_made 2 (min 73048 (IntKind.i64.wrap (day+i4))) known key ins cur cash rfl,AC.fits (AC.mk 2 key ins [] (min 73048 (IntKind.i64.wrap (day+i4))) 0 0 cash cur known false),_,AC.g0 (AC.mk 2 key ins [] (min 73048 (IntKind.i64.wrap (day+i4))) 0 0 cash cur known false),nofun,fun _=>⟨_,AC.g0 (AC.mk 2 key ins [] (min 73048 (IntKind.i64.wrap (day+i4))) 0 0 cash cur known false),nofun,fun _=>⟨_,AC.g0 (AC.mk 2 key ins [] (min 73048 (IntKind.i64.wrap (day+i4))) 0 0 cash cur known false),nofun,fun _=>⟨nofun,fun _=>.inr ⟨_,_,_,O7 _ v 1000 rfl hv,⟨rfl,trivial⟩,rfl,nofun,fun _=>⟨AC.fits _,rfl,rfl,trivial⟩⟩⟩⟩⟩⟩⟩⟩⟩⟩⟩
  ·refine ⟨_,k7,by omega,by omega,⟨AC.nil key known,rfl,n0⟩,fun E v d hE hv=>?_⟩
   refine sx_ownT1 [] tt_ok mixed at16 E hE d (42,2,tb v k,tb v k7) [SV.ptr 1000 0,SV.c (.int .i64 day),SV.c (.int .i64 known)] _ rfl rfl fun w b hT=>?_
   have hv:=hv.of_old hE.symm hT
   exact .inr ⟨_,_,_,O1 _ v 1000 rfl hv,⟨rfl,trivial⟩,rfl,by decide,by decide,strs [[115,49],[115,50],[100,49],[109,49]],by kernel_rfl,rfl,.inr ⟨_,_,_,O2 _ v 1000 11 (by decide) rfl hv,⟨rfl,rfl,trivial⟩,rfl,.inr ⟨_,_,_,O3 _ v 1000 rfl hv,⟨rfl,trivial⟩,rfl,.inr ⟨_,_,_,O4 _ v 1000 rfl hv,⟨rfl,trivial⟩,rfl,_,fun w' _=>run_min_ct _ _ w',.inr ⟨_,_,_,O5 _ v 1000 rfl hv,⟨rfl,trivial⟩,rfl,.inr ⟨_,_,_,O6 _ v 1000 rfl hv,⟨rfl,trivial⟩,rfl,_,fill_made 2 (min 73048 (IntKind.i64.wrap (day+i4))) known key ins cur cash rfl,AC.fits (AC.mk 2 key ins [] (min 73048 (IntKind.i64.wrap (day+i4))) 0 0 cash cur known false),_,AC.g0 (AC.mk 2 key ins [] (min 73048 (IntKind.i64.wrap (day+i4))) 0 0 cash cur known false),nofun,fun _=>⟨_,AC.g0 (AC.mk 2 key ins [] (min 73048 (IntKind.i64.wrap (day+i4))) 0 0 cash cur known false),nofun,fun _=>⟨_,AC.g0 (AC.mk 2 key ins [] (min 73048 (IntKind.i64.wrap (day+i4))) 0 0 cash cur known false),nofun,fun _=>⟨nofun,fun _=>.inr ⟨_,_,_,O7 _ v 1000 rfl hv,⟨rfl,trivial⟩,rfl,fun _=>⟨_,AC.g1 (AC.mk 2 key ins [] (min 73048 (IntKind.i64.wrap (day+i4))) 0 0 cash cur known false),_,fill_void key known rfl,AC.fits _,rfl,rfl,trivial⟩,nofun⟩⟩⟩⟩⟩⟩⟩⟩⟩⟩
 have hk3:kind=1∨kind=3:=by omega
 rcases hk3 with hk3 | hk3
 ·subst hk3
  obtain ⟨r7,k7,a7,b7,⟨i7,rfl,c7⟩,O7⟩:=next_g (n:=50) (by decide) zs k6 (by omega)
  have e7:IntKind.i64.wrap (1+i7)=1+i7:=i64_in (by omega)
  obtain ⟨r8,k8,a8,b8,⟨num,rfl,c8⟩,O8⟩:=pick_g (xs:=[1,2,3,10,1000,IntKind.i64.wrap (1+i7)]) (by simp) (by simp) zs k7 (by omega)
  obtain ⟨r9,k9,a9,b9,⟨i9,rfl,c9⟩,O9⟩:=next_g (n:=50) (by decide) zs k8 (by omega)
  have e9:IntKind.i64.wrap (1+i9)=1+i9:=i64_in (by omega)
  obtain ⟨r10,k10,a10,b10,⟨den,rfl,c10⟩,O10⟩:=pick_g (xs:=[1,1,2,3,7,1000000,IntKind.i64.wrap (1+i9)]) (by simp) (by simp) zs k9 (by omega)
  have q8 : -1000000000≤num∧num≤1000000000:=by rw [e7] at c8;simp at c8;omega
  have q10 : -1000000000≤den∧den≤1000000000:=by rw [e9] at c10;simp at c10;omega
  obtain ⟨r11,k11,a11,b11,⟨zero,rfl⟩,O11⟩:=chance_g (a:=1) (b:=4) (by decide) zs k10 (by omega)
  obtain ⟨r12,k12,a12,b12,⟨void,rfl⟩,O12⟩:=chance_g (a:=1) (b:=8) (by decide) zs k11 (by omega)
  cases zero
  ·cases void
   ·refine ⟨_,k12,by omega,by omega,⟨(AC.mk 1 key ins [] (min 73048 (IntKind.i64.wrap (day+i4))) num den cash cur known false),rfl,mk _ _ _ _ _ _ (by simp) c5 q8 q10⟩,fun E v d hE hv=>?_⟩
    refine sx_ownT1 [] tt_ok mixed at16 E hE d (42,2,tb v k,tb v k12) [SV.ptr 1000 0,SV.c (.int .i64 day),SV.c (.int .i64 known)] _ rfl rfl fun w b hT=>?_
    have hv:=hv.of_old hE.symm hT
    exact .inr ⟨_,_,_,O1 _ v 1000 rfl hv,⟨rfl,trivial⟩,rfl,by decide,by decide,strs [[115,49],[115,50],[100,49],[109,49]],by kernel_rfl,rfl,.inr ⟨_,_,_,O2 _ v 1000 11 (by decide) rfl hv,⟨rfl,rfl,trivial⟩,rfl,.inr ⟨_,_,_,O3 _ v 1000 rfl hv,⟨rfl,trivial⟩,rfl,.inr ⟨_,_,_,O4 _ v 1000 rfl hv,⟨rfl,trivial⟩,rfl,_,fun w' _=>run_min_ct _ _ w',.inr ⟨_,_,_,O5 _ v 1000 rfl hv,⟨rfl,trivial⟩,rfl,.inr ⟨_,_,_,O6 _ v 1000 rfl hv,⟨rfl,trivial⟩,rfl,_,fill_made 1 (min 73048 (IntKind.i64.wrap (day+i4))) known key ins cur cash rfl,AC.fits (AC.mk 1 key ins [] (min 73048 (IntKind.i64.wrap (day+i4))) 0 0 cash cur known false),_,AC.g0 (AC.mk 1 key ins [] (min 73048 (IntKind.i64.wrap (day+i4))) 0 0 cash cur known false),fun _=>.inr ⟨_,_,_,O7 _ v 1000 rfl hv,⟨rfl,trivial⟩,rfl,by decide,by decide,ints [1,2,3,10,1000,IntKind.i64.wrap (1+i7)],by kernel_rfl,rfl,.inr ⟨_,_,_,O8 _ v 1000 33 (by decide) rfl hv,⟨rfl,rfl,trivial⟩,rfl,.inr ⟨_,_,_,O9 _ v 1000 rfl hv,⟨rfl,trivial⟩,rfl,by decide,by decide,ints [1,1,2,3,7,1000000,IntKind.i64.wrap (1+i9)],by kernel_rfl,rfl,.inr ⟨_,_,_,O10 _ v 1000 39 (by decide) rfl hv,⟨rfl,rfl,trivial⟩,rfl,by decide,rfl,_,AC.set5 (AC.mk 1 key ins [] (min 73048 (IntKind.i64.wrap (day+i4))) 0 0 cash cur known false) num,by decide,rfl,_,AC.set6 (AC.mk 1 key ins [] (min 73048 (IntKind.i64.wrap (day+i4))) num 0 cash cur known false) den,_,AC.g0 (AC.mk 1 key ins [] (min 73048 (IntKind.i64.wrap (day+i4))) num den cash cur known false),nofun,fun _=>⟨_,AC.g0 (AC.mk 1 key ins [] (min 73048 (IntKind.i64.wrap (day+i4))) num den cash cur known false),fun _=>.inr ⟨_,_,_,O11 _ v 1000 rfl hv,⟨rfl,trivial⟩,rfl,nofun,fun _=>.inr ⟨_,_,_,O12 _ v 1000 rfl hv,⟨rfl,trivial⟩,rfl,nofun,fun _=>⟨AC.fits _,rfl,rfl,trivial⟩⟩⟩,nofun⟩⟩⟩⟩⟩,nofun⟩⟩⟩⟩⟩⟩
   ·refine ⟨_,k12,by omega,by omega,⟨AC.nil key known,rfl,n0⟩,fun E v d hE hv=>?_⟩
    refine sx_ownT1 [] tt_ok mixed at16 E hE d (42,2,tb v k,tb v k12) [SV.ptr 1000 0,SV.c (.int .i64 day),SV.c (.int .i64 known)] _ rfl rfl fun w b hT=>?_
    have hv:=hv.of_old hE.symm hT
    exact .inr ⟨_,_,_,O1 _ v 1000 rfl hv,⟨rfl,trivial⟩,rfl,by decide,by decide,strs [[115,49],[115,50],[100,49],[109,49]],by kernel_rfl,rfl,.inr ⟨_,_,_,O2 _ v 1000 11 (by decide) rfl hv,⟨rfl,rfl,trivial⟩,rfl,.inr ⟨_,_,_,O3 _ v 1000 rfl hv,⟨rfl,trivial⟩,rfl,.inr ⟨_,_,_,O4 _ v 1000 rfl hv,⟨rfl,trivial⟩,rfl,_,fun w' _=>run_min_ct _ _ w',.inr ⟨_,_,_,O5 _ v 1000 rfl hv,⟨rfl,trivial⟩,rfl,.inr ⟨_,_,_,O6 _ v 1000 rfl hv,⟨rfl,trivial⟩,rfl,_,fill_made 1 (min 73048 (IntKind.i64.wrap (day+i4))) known key ins cur cash rfl,AC.fits (AC.mk 1 key ins [] (min 73048 (IntKind.i64.wrap (day+i4))) 0 0 cash cur known false),_,AC.g0 (AC.mk 1 key ins [] (min 73048 (IntKind.i64.wrap (day+i4))) 0 0 cash cur known false),fun _=>.inr ⟨_,_,_,O7 _ v 1000 rfl hv,⟨rfl,trivial⟩,rfl,by decide,by decide,ints [1,2,3,10,1000,IntKind.i64.wrap (1+i7)],by kernel_rfl,rfl,.inr ⟨_,_,_,O8 _ v 1000 33 (by decide) rfl hv,⟨rfl,rfl,trivial⟩,rfl,.inr ⟨_,_,_,O9 _ v 1000 rfl hv,⟨rfl,trivial⟩,rfl,by decide,by decide,ints [1,1,2,3,7,1000000,IntKind.i64.wrap (1+i9)],by kernel_rfl,rfl,.inr ⟨_,_,_,O10 _ v 1000 39 (by decide) rfl hv,⟨rfl,rfl,trivial⟩,rfl,by decide,rfl,_,AC.set5 (AC.mk 1 key ins [] (min 73048 (IntKind.i64.wrap (day+i4))) 0 0 cash cur known false) num,by decide,rfl,_,AC.set6 (AC.mk 1 key ins [] (min 73048 (IntKind.i64.wrap (day+i4))) num 0 cash cur known false) den,_,AC.g0 (AC.mk 1 key ins [] (min 73048 (IntKind.i64.wrap (day+i4))) num den cash cur known false),nofun,fun _=>⟨_,AC.g0 (AC.mk 1 key ins [] (min 73048 (IntKind.i64.wrap (day+i4))) num den cash cur known false),fun _=>.inr ⟨_,_,_,O11 _ v 1000 rfl hv,⟨rfl,trivial⟩,rfl,nofun,fun _=>.inr ⟨_,_,_,O12 _ v 1000 rfl hv,⟨rfl,trivial⟩,rfl,fun _=>⟨_,AC.g1 (AC.mk 1 key ins [] (min 73048 (IntKind.i64.wrap (day+i4))) num den cash cur known false),_,fill_void key known rfl,AC.fits _,rfl,rfl,trivial⟩,nofun⟩⟩,nofun⟩⟩⟩⟩⟩,nofun⟩⟩⟩⟩⟩⟩
  ·cases void
   ·refine ⟨_,k12,by omega,by omega,⟨(AC.mk 1 key ins [] (min 73048 (IntKind.i64.wrap (day+i4))) num den (RQ.of 0 1) cur known false),rfl,mk _ _ _ _ _ _ (by simp) one_in0 q8 q10⟩,fun E v d hE hv=>?_⟩
    refine sx_ownT1 [] tt_ok mixed at16 E hE d (42,2,tb v k,tb v k12) [SV.ptr 1000 0,SV.c (.int .i64 day),SV.c (.int .i64 known)] _ rfl rfl fun w b hT=>?_
    have hv:=hv.of_old hE.symm hT
    exact .inr ⟨_,_,_,O1 _ v 1000 rfl hv,⟨rfl,trivial⟩,rfl,by decide,by decide,strs [[115,49],[115,50],[100,49],[109,49]],by kernel_rfl,rfl,.inr ⟨_,_,_,O2 _ v 1000 11 (by decide) rfl hv,⟨rfl,rfl,trivial⟩,rfl,.inr ⟨_,_,_,O3 _ v 1000 rfl hv,⟨rfl,trivial⟩,rfl,.inr ⟨_,_,_,O4 _ v 1000 rfl hv,⟨rfl,trivial⟩,rfl,_,fun w' _=>run_min_ct _ _ w',.inr ⟨_,_,_,O5 _ v 1000 rfl hv,⟨rfl,trivial⟩,rfl,.inr ⟨_,_,_,O6 _ v 1000 rfl hv,⟨rfl,trivial⟩,rfl,_,fill_made 1 (min 73048 (IntKind.i64.wrap (day+i4))) known key ins cur cash rfl,AC.fits (AC.mk 1 key ins [] (min 73048 (IntKind.i64.wrap (day+i4))) 0 0 cash cur known false),_,AC.g0 (AC.mk 1 key ins [] (min 73048 (IntKind.i64.wrap (day+i4))) 0 0 cash cur known false),fun _=>.inr ⟨_,_,_,O7 _ v 1000 rfl hv,⟨rfl,trivial⟩,rfl,by decide,by decide,ints [1,2,3,10,1000,IntKind.i64.wrap (1+i7)],by kernel_rfl,rfl,.inr ⟨_,_,_,O8 _ v 1000 33 (by decide) rfl hv,⟨rfl,rfl,trivial⟩,rfl,.inr ⟨_,_,_,O9 _ v 1000 rfl hv,⟨rfl,trivial⟩,rfl,by decide,by decide,ints [1,1,2,3,7,1000000,IntKind.i64.wrap (1+i9)],by kernel_rfl,rfl,.inr ⟨_,_,_,O10 _ v 1000 39 (by decide) rfl hv,⟨rfl,rfl,trivial⟩,rfl,by decide,rfl,_,AC.set5 (AC.mk 1 key ins [] (min 73048 (IntKind.i64.wrap (day+i4))) 0 0 cash cur known false) num,by decide,rfl,_,AC.set6 (AC.mk 1 key ins [] (min 73048 (IntKind.i64.wrap (day+i4))) num 0 cash cur known false) den,_,AC.g0 (AC.mk 1 key ins [] (min 73048 (IntKind.i64.wrap (day+i4))) num den cash cur known false),nofun,fun _=>⟨_,AC.g0 (AC.mk 1 key ins [] (min 73048 (IntKind.i64.wrap (day+i4))) num den cash cur known false),fun _=>.inr ⟨_,_,_,O11 _ v 1000 rfl hv,⟨rfl,trivial⟩,rfl,fun _=>.inl ⟨_,zeroR_r,by decide,RQ.A_fits _,_,AC.setcash (AC.mk 1 key ins [] (min 73048 (IntKind.i64.wrap (day+i4))) num den cash cur known false) (RQ.of 0 1),.inr ⟨_,_,_,O12 _ v 1000 rfl hv,⟨rfl,trivial⟩,rfl,nofun,fun _=>⟨AC.fits _,rfl,rfl,trivial⟩⟩⟩,nofun⟩,nofun⟩⟩⟩⟩⟩,nofun⟩⟩⟩⟩⟩⟩
   ·refine ⟨_,k12,by omega,by omega,⟨AC.nil key known,rfl,n0⟩,fun E v d hE hv=>?_⟩
    refine sx_ownT1 [] tt_ok mixed at16 E hE d (42,2,tb v k,tb v k12) [SV.ptr 1000 0,SV.c (.int .i64 day),SV.c (.int .i64 known)] _ rfl rfl fun w b hT=>?_
    have hv:=hv.of_old hE.symm hT
    exact .inr ⟨_,_,_,O1 _ v 1000 rfl hv,⟨rfl,trivial⟩,rfl,by decide,by decide,strs [[115,49],[115,50],[100,49],[109,49]],by kernel_rfl,rfl,.inr ⟨_,_,_,O2 _ v 1000 11 (by decide) rfl hv,⟨rfl,rfl,trivial⟩,rfl,.inr ⟨_,_,_,O3 _ v 1000 rfl hv,⟨rfl,trivial⟩,rfl,.inr ⟨_,_,_,O4 _ v 1000 rfl hv,⟨rfl,trivial⟩,rfl,_,fun w' _=>run_min_ct _ _ w',.inr ⟨_,_,_,O5 _ v 1000 rfl hv,⟨rfl,trivial⟩,rfl,.inr ⟨_,_,_,O6 _ v 1000 rfl hv,⟨rfl,trivial⟩,rfl,_,fill_made 1 (min 73048 (IntKind.i64.wrap (day+i4))) known key ins cur cash rfl,AC.fits (AC.mk 1 key ins [] (min 73048 (IntKind.i64.wrap (day+i4))) 0 0 cash cur known false),_,AC.g0 (AC.mk 1 key ins [] (min 73048 (IntKind.i64.wrap (day+i4))) 0 0 cash cur known false),fun _=>.inr ⟨_,_,_,O7 _ v 1000 rfl hv,⟨rfl,trivial⟩,rfl,by decide,by decide,ints [1,2,3,10,1000,IntKind.i64.wrap (1+i7)],by kernel_rfl,rfl,.inr ⟨_,_,_,O8 _ v 1000 33 (by decide) rfl hv,⟨rfl,rfl,trivial⟩,rfl,.inr ⟨_,_,_,O9 _ v 1000 rfl hv,⟨rfl,trivial⟩,rfl,by decide,by decide,ints [1,1,2,3,7,1000000,IntKind.i64.wrap (1+i9)],by kernel_rfl,rfl,.inr ⟨_,_,_,O10 _ v 1000 39 (by decide) rfl hv,⟨rfl,rfl,trivial⟩,rfl,by decide,rfl,_,AC.set5 (AC.mk 1 key ins [] (min 73048 (IntKind.i64.wrap (day+i4))) 0 0 cash cur known false) num,by decide,rfl,_,AC.set6 (AC.mk 1 key ins [] (min 73048 (IntKind.i64.wrap (day+i4))) num 0 cash cur known false) den,_,AC.g0 (AC.mk 1 key ins [] (min 73048 (IntKind.i64.wrap (day+i4))) num den cash cur known false),nofun,fun _=>⟨_,AC.g0 (AC.mk 1 key ins [] (min 73048 (IntKind.i64.wrap (day+i4))) num den cash cur known false),fun _=>.inr ⟨_,_,_,O11 _ v 1000 rfl hv,⟨rfl,trivial⟩,rfl,fun _=>.inl ⟨_,zeroR_r,by decide,RQ.A_fits _,_,AC.setcash (AC.mk 1 key ins [] (min 73048 (IntKind.i64.wrap (day+i4))) num den cash cur known false) (RQ.of 0 1),.inr ⟨_,_,_,O12 _ v 1000 rfl hv,⟨rfl,trivial⟩,rfl,fun _=>⟨_,AC.g1 (AC.mk 1 key ins [] (min 73048 (IntKind.i64.wrap (day+i4))) num den (RQ.of 0 1) cur known false),_,fill_void key known rfl,AC.fits _,rfl,rfl,trivial⟩,nofun⟩⟩,nofun⟩,nofun⟩⟩⟩⟩⟩,nofun⟩⟩⟩⟩⟩⟩
 ·subst hk3
  obtain ⟨r7,k7,a7,b7,⟨i7,rfl,c7⟩,O7⟩:=next_g (n:=50) (by decide) zs k6 (by omega)
  have e7:IntKind.i64.wrap (1+i7)=1+i7:=i64_in (by omega)
  obtain ⟨r8,k8,a8,b8,⟨num,rfl,c8⟩,O8⟩:=pick_g (xs:=[1,2,3,10,1000,IntKind.i64.wrap (1+i7)]) (by simp) (by simp) zs k7 (by omega)
  obtain ⟨r9,k9,a9,b9,⟨i9,rfl,c9⟩,O9⟩:=next_g (n:=50) (by decide) zs k8 (by omega)
  have e9:IntKind.i64.wrap (1+i9)=1+i9:=i64_in (by omega)
  obtain ⟨r10,k10,a10,b10,⟨den,rfl,c10⟩,O10⟩:=pick_g (xs:=[1,1,2,3,7,1000000,IntKind.i64.wrap (1+i9)]) (by simp) (by simp) zs k9 (by omega)
  have q8 : -1000000000≤num∧num≤1000000000:=by rw [e7] at c8;simp at c8;omega
  have q10 : -1000000000≤den∧den≤1000000000:=by rw [e9] at c10;simp at c10;omega
  obtain ⟨r11,k11,a11,b11,⟨zero,rfl⟩,O11⟩:=chance_g (a:=1) (b:=4) (by decide) zs k10 (by omega)
  obtain ⟨r12,k12,a12,b12,⟨void,rfl⟩,O12⟩:=chance_g (a:=1) (b:=8) (by decide) zs k11 (by omega)
  cases zero
  ·cases void
   ·refine ⟨_,k12,by omega,by omega,⟨(AC.mk 3 key ins [78,69,87,67,79] (min 73048 (IntKind.i64.wrap (day+i4))) num den cash cur known false),rfl,mk _ _ _ _ _ _ (by simp) c5 q8 q10⟩,fun E v d hE hv=>?_⟩
    refine sx_ownT1 [] tt_ok mixed at16 E hE d (42,2,tb v k,tb v k12) [SV.ptr 1000 0,SV.c (.int .i64 day),SV.c (.int .i64 known)] _ rfl rfl fun w b hT=>?_
    have hv:=hv.of_old hE.symm hT
    exact .inr ⟨_,_,_,O1 _ v 1000 rfl hv,⟨rfl,trivial⟩,rfl,by decide,by decide,strs [[115,49],[115,50],[100,49],[109,49]],by kernel_rfl,rfl,.inr ⟨_,_,_,O2 _ v 1000 11 (by decide) rfl hv,⟨rfl,rfl,trivial⟩,rfl,.inr ⟨_,_,_,O3 _ v 1000 rfl hv,⟨rfl,trivial⟩,rfl,.inr ⟨_,_,_,O4 _ v 1000 rfl hv,⟨rfl,trivial⟩,rfl,_,fun w' _=>run_min_ct _ _ w',.inr ⟨_,_,_,O5 _ v 1000 rfl hv,⟨rfl,trivial⟩,rfl,.inr ⟨_,_,_,O6 _ v 1000 rfl hv,⟨rfl,trivial⟩,rfl,_,fill_made 3 (min 73048 (IntKind.i64.wrap (day+i4))) known key ins cur cash rfl,AC.fits (AC.mk 3 key ins [] (min 73048 (IntKind.i64.wrap (day+i4))) 0 0 cash cur known false),_,AC.g0 (AC.mk 3 key ins [] (min 73048 (IntKind.i64.wrap (day+i4))) 0 0 cash cur known false),fun _=>.inr ⟨_,_,_,O7 _ v 1000 rfl hv,⟨rfl,trivial⟩,rfl,by decide,by decide,ints [1,2,3,10,1000,IntKind.i64.wrap (1+i7)],by kernel_rfl,rfl,.inr ⟨_,_,_,O8 _ v 1000 33 (by decide) rfl hv,⟨rfl,rfl,trivial⟩,rfl,.inr ⟨_,_,_,O9 _ v 1000 rfl hv,⟨rfl,trivial⟩,rfl,by decide,by decide,ints [1,1,2,3,7,1000000,IntKind.i64.wrap (1+i9)],by kernel_rfl,rfl,.inr ⟨_,_,_,O10 _ v 1000 39 (by decide) rfl hv,⟨rfl,rfl,trivial⟩,rfl,by decide,rfl,_,AC.set5 (AC.mk 3 key ins [] (min 73048 (IntKind.i64.wrap (day+i4))) 0 0 cash cur known false) num,by decide,rfl,_,AC.set6 (AC.mk 3 key ins [] (min 73048 (IntKind.i64.wrap (day+i4))) num 0 cash cur known false) den,_,AC.g0 (AC.mk 3 key ins [] (min 73048 (IntKind.i64.wrap (day+i4))) num den cash cur known false),fun _=>⟨by decide,rfl,_,AC.set3 (AC.mk 3 key ins [] (min 73048 (IntKind.i64.wrap (day+i4))) num den cash cur known false) [78,69,87,67,79],_,AC.g0 (AC.mk 3 key ins [78,69,87,67,79] (min 73048 (IntKind.i64.wrap (day+i4))) num den cash cur known false),fun _=>.inr ⟨_,_,_,O11 _ v 1000 rfl hv,⟨rfl,trivial⟩,rfl,nofun,fun _=>.inr ⟨_,_,_,O12 _ v 1000 rfl hv,⟨rfl,trivial⟩,rfl,nofun,fun _=>⟨AC.fits _,rfl,rfl,trivial⟩⟩⟩,nofun⟩,nofun⟩⟩⟩⟩,nofun⟩⟩⟩⟩⟩⟩
   ·refine ⟨_,k12,by omega,by omega,⟨AC.nil key known,rfl,n0⟩,fun E v d hE hv=>?_⟩
    refine sx_ownT1 [] tt_ok mixed at16 E hE d (42,2,tb v k,tb v k12) [SV.ptr 1000 0,SV.c (.int .i64 day),SV.c (.int .i64 known)] _ rfl rfl fun w b hT=>?_
    have hv:=hv.of_old hE.symm hT
    exact .inr ⟨_,_,_,O1 _ v 1000 rfl hv,⟨rfl,trivial⟩,rfl,by decide,by decide,strs [[115,49],[115,50],[100,49],[109,49]],by kernel_rfl,rfl,.inr ⟨_,_,_,O2 _ v 1000 11 (by decide) rfl hv,⟨rfl,rfl,trivial⟩,rfl,.inr ⟨_,_,_,O3 _ v 1000 rfl hv,⟨rfl,trivial⟩,rfl,.inr ⟨_,_,_,O4 _ v 1000 rfl hv,⟨rfl,trivial⟩,rfl,_,fun w' _=>run_min_ct _ _ w',.inr ⟨_,_,_,O5 _ v 1000 rfl hv,⟨rfl,trivial⟩,rfl,.inr ⟨_,_,_,O6 _ v 1000 rfl hv,⟨rfl,trivial⟩,rfl,_,fill_made 3 (min 73048 (IntKind.i64.wrap (day+i4))) known key ins cur cash rfl,AC.fits (AC.mk 3 key ins [] (min 73048 (IntKind.i64.wrap (day+i4))) 0 0 cash cur known false),_,AC.g0 (AC.mk 3 key ins [] (min 73048 (IntKind.i64.wrap (day+i4))) 0 0 cash cur known false),fun _=>.inr ⟨_,_,_,O7 _ v 1000 rfl hv,⟨rfl,trivial⟩,rfl,by decide,by decide,ints [1,2,3,10,1000,IntKind.i64.wrap (1+i7)],by kernel_rfl,rfl,.inr ⟨_,_,_,O8 _ v 1000 33 (by decide) rfl hv,⟨rfl,rfl,trivial⟩,rfl,.inr ⟨_,_,_,O9 _ v 1000 rfl hv,⟨rfl,trivial⟩,rfl,by decide,by decide,ints [1,1,2,3,7,1000000,IntKind.i64.wrap (1+i9)],by kernel_rfl,rfl,.inr ⟨_,_,_,O10 _ v 1000 39 (by decide) rfl hv,⟨rfl,rfl,trivial⟩,rfl,by decide,rfl,_,AC.set5 (AC.mk 3 key ins [] (min 73048 (IntKind.i64.wrap (day+i4))) 0 0 cash cur known false) num,by decide,rfl,_,AC.set6 (AC.mk 3 key ins [] (min 73048 (IntKind.i64.wrap (day+i4))) num 0 cash cur known false) den,_,AC.g0 (AC.mk 3 key ins [] (min 73048 (IntKind.i64.wrap (day+i4))) num den cash cur known false),fun _=>⟨by decide,rfl,_,AC.set3 (AC.mk 3 key ins [] (min 73048 (IntKind.i64.wrap (day+i4))) num den cash cur known false) [78,69,87,67,79],_,AC.g0 (AC.mk 3 key ins [78,69,87,67,79] (min 73048 (IntKind.i64.wrap (day+i4))) num den cash cur known false),fun _=>.inr ⟨_,_,_,O11 _ v 1000 rfl hv,⟨rfl,trivial⟩,rfl,nofun,fun _=>.inr ⟨_,_,_,O12 _ v 1000 rfl hv,⟨rfl,trivial⟩,rfl,fun _=>⟨_,AC.g1 (AC.mk 3 key ins [78,69,87,67,79] (min 73048 (IntKind.i64.wrap (day+i4))) num den cash cur known false),_,fill_void key known rfl,AC.fits _,rfl,rfl,trivial⟩,nofun⟩⟩,nofun⟩,nofun⟩⟩⟩⟩,nofun⟩⟩⟩⟩⟩⟩
  ·cases void
   ·refine ⟨_,k12,by omega,by omega,⟨(AC.mk 3 key ins [78,69,87,67,79] (min 73048 (IntKind.i64.wrap (day+i4))) num den (RQ.of 0 1) cur known false),rfl,mk _ _ _ _ _ _ (by simp) one_in0 q8 q10⟩,fun E v d hE hv=>?_⟩
    refine sx_ownT1 [] tt_ok mixed at16 E hE d (42,2,tb v k,tb v k12) [SV.ptr 1000 0,SV.c (.int .i64 day),SV.c (.int .i64 known)] _ rfl rfl fun w b hT=>?_
    have hv:=hv.of_old hE.symm hT
    exact .inr ⟨_,_,_,O1 _ v 1000 rfl hv,⟨rfl,trivial⟩,rfl,by decide,by decide,strs [[115,49],[115,50],[100,49],[109,49]],by kernel_rfl,rfl,.inr ⟨_,_,_,O2 _ v 1000 11 (by decide) rfl hv,⟨rfl,rfl,trivial⟩,rfl,.inr ⟨_,_,_,O3 _ v 1000 rfl hv,⟨rfl,trivial⟩,rfl,.inr ⟨_,_,_,O4 _ v 1000 rfl hv,⟨rfl,trivial⟩,rfl,_,fun w' _=>run_min_ct _ _ w',.inr ⟨_,_,_,O5 _ v 1000 rfl hv,⟨rfl,trivial⟩,rfl,.inr ⟨_,_,_,O6 _ v 1000 rfl hv,⟨rfl,trivial⟩,rfl,_,fill_made 3 (min 73048 (IntKind.i64.wrap (day+i4))) known key ins cur cash rfl,AC.fits (AC.mk 3 key ins [] (min 73048 (IntKind.i64.wrap (day+i4))) 0 0 cash cur known false),_,AC.g0 (AC.mk 3 key ins [] (min 73048 (IntKind.i64.wrap (day+i4))) 0 0 cash cur known false),fun _=>.inr ⟨_,_,_,O7 _ v 1000 rfl hv,⟨rfl,trivial⟩,rfl,by decide,by decide,ints [1,2,3,10,1000,IntKind.i64.wrap (1+i7)],by kernel_rfl,rfl,.inr ⟨_,_,_,O8 _ v 1000 33 (by decide) rfl hv,⟨rfl,rfl,trivial⟩,rfl,.inr ⟨_,_,_,O9 _ v 1000 rfl hv,⟨rfl,trivial⟩,rfl,by decide,by decide,ints [1,1,2,3,7,1000000,IntKind.i64.wrap (1+i9)],by kernel_rfl,rfl,.inr ⟨_,_,_,O10 _ v 1000 39 (by decide) rfl hv,⟨rfl,rfl,trivial⟩,rfl,by decide,rfl,_,AC.set5 (AC.mk 3 key ins [] (min 73048 (IntKind.i64.wrap (day+i4))) 0 0 cash cur known false) num,by decide,rfl,_,AC.set6 (AC.mk 3 key ins [] (min 73048 (IntKind.i64.wrap (day+i4))) num 0 cash cur known false) den,_,AC.g0 (AC.mk 3 key ins [] (min 73048 (IntKind.i64.wrap (day+i4))) num den cash cur known false),fun _=>⟨by decide,rfl,_,AC.set3 (AC.mk 3 key ins [] (min 73048 (IntKind.i64.wrap (day+i4))) num den cash cur known false) [78,69,87,67,79],_,AC.g0 (AC.mk 3 key ins [78,69,87,67,79] (min 73048 (IntKind.i64.wrap (day+i4))) num den cash cur known false),fun _=>.inr ⟨_,_,_,O11 _ v 1000 rfl hv,⟨rfl,trivial⟩,rfl,fun _=>.inl ⟨_,zeroR_r,by decide,RQ.A_fits _,_,AC.setcash (AC.mk 3 key ins [78,69,87,67,79] (min 73048 (IntKind.i64.wrap (day+i4))) num den cash cur known false) (RQ.of 0 1),.inr ⟨_,_,_,O12 _ v 1000 rfl hv,⟨rfl,trivial⟩,rfl,nofun,fun _=>⟨AC.fits _,rfl,rfl,trivial⟩⟩⟩,nofun⟩,nofun⟩,nofun⟩⟩⟩⟩,nofun⟩⟩⟩⟩⟩⟩
   ·refine ⟨_,k12,by omega,by omega,⟨AC.nil key known,rfl,n0⟩,fun E v d hE hv=>?_⟩
    refine sx_ownT1 [] tt_ok mixed at16 E hE d (42,2,tb v k,tb v k12) [SV.ptr 1000 0,SV.c (.int .i64 day),SV.c (.int .i64 known)] _ rfl rfl fun w b hT=>?_
    have hv:=hv.of_old hE.symm hT
    exact .inr ⟨_,_,_,O1 _ v 1000 rfl hv,⟨rfl,trivial⟩,rfl,by decide,by decide,strs [[115,49],[115,50],[100,49],[109,49]],by kernel_rfl,rfl,.inr ⟨_,_,_,O2 _ v 1000 11 (by decide) rfl hv,⟨rfl,rfl,trivial⟩,rfl,.inr ⟨_,_,_,O3 _ v 1000 rfl hv,⟨rfl,trivial⟩,rfl,.inr ⟨_,_,_,O4 _ v 1000 rfl hv,⟨rfl,trivial⟩,rfl,_,fun w' _=>run_min_ct _ _ w',.inr ⟨_,_,_,O5 _ v 1000 rfl hv,⟨rfl,trivial⟩,rfl,.inr ⟨_,_,_,O6 _ v 1000 rfl hv,⟨rfl,trivial⟩,rfl,_,fill_made 3 (min 73048 (IntKind.i64.wrap (day+i4))) known key ins cur cash rfl,AC.fits (AC.mk 3 key ins [] (min 73048 (IntKind.i64.wrap (day+i4))) 0 0 cash cur known false),_,AC.g0 (AC.mk 3 key ins [] (min 73048 (IntKind.i64.wrap (day+i4))) 0 0 cash cur known false),fun _=>.inr ⟨_,_,_,O7 _ v 1000 rfl hv,⟨rfl,trivial⟩,rfl,by decide,by decide,ints [1,2,3,10,1000,IntKind.i64.wrap (1+i7)],by kernel_rfl,rfl,.inr ⟨_,_,_,O8 _ v 1000 33 (by decide) rfl hv,⟨rfl,rfl,trivial⟩,rfl,.inr ⟨_,_,_,O9 _ v 1000 rfl hv,⟨rfl,trivial⟩,rfl,by decide,by decide,ints [1,1,2,3,7,1000000,IntKind.i64.wrap (1+i9)],by kernel_rfl,rfl,.inr ⟨_,_,_,O10 _ v 1000 39 (by decide) rfl hv,⟨rfl,rfl,trivial⟩,rfl,by decide,rfl,_,AC.set5 (AC.mk 3 key ins [] (min 73048 (IntKind.i64.wrap (day+i4))) 0 0 cash cur known false) num,by decide,rfl,_,AC.set6 (AC.mk 3 key ins [] (min 73048 (IntKind.i64.wrap (day+i4))) num 0 cash cur known false) den,_,AC.g0 (AC.mk 3 key ins [] (min 73048 (IntKind.i64.wrap (day+i4))) num den cash cur known false),fun _=>⟨by decide,rfl,_,AC.set3 (AC.mk 3 key ins [] (min 73048 (IntKind.i64.wrap (day+i4))) num den cash cur known false) [78,69,87,67,79],_,AC.g0 (AC.mk 3 key ins [78,69,87,67,79] (min 73048 (IntKind.i64.wrap (day+i4))) num den cash cur known false),fun _=>.inr ⟨_,_,_,O11 _ v 1000 rfl hv,⟨rfl,trivial⟩,rfl,fun _=>.inl ⟨_,zeroR_r,by decide,RQ.A_fits _,_,AC.setcash (AC.mk 3 key ins [78,69,87,67,79] (min 73048 (IntKind.i64.wrap (day+i4))) num den cash cur known false) (RQ.of 0 1),.inr ⟨_,_,_,O12 _ v 1000 rfl hv,⟨rfl,trivial⟩,rfl,fun _=>⟨_,AC.g1 (AC.mk 3 key ins [78,69,87,67,79] (min 73048 (IntKind.i64.wrap (day+i4))) num den (RQ.of 0 1) cur known false),_,fill_void key known rfl,AC.fits _,rfl,rfl,trivial⟩,nofun⟩⟩,nofun⟩,nofun⟩,nofun⟩⟩⟩⟩,nofun⟩⟩⟩⟩⟩⟩
end Go.Proofs.YtnfmpddhcjkjbaaGreatDoor
namespace Go.Proofs.YtnfmpddhcjkjbaaGreatDoor
open Go Go.RowKit Go.SX
def nx (zs:List Int) (k:Nat) (n:Int):Int:=foldI (if k < zs.length then zs.getD k 0 else (IntKind.i64.wrap ((k:Nat)*7)).tmod 11) n
theorem next_x {n:Int} (hn:n≤9223372036854775807) (zs:List Int) (k:Nat) (hk:k+1≤4000000000000000000) (E:Env) (v:Value) (d:Key) (hE:E.P=Tryz.prog) (hv:Tp E v zs):Own E 18 [SV.ptr d 0,SV.c (.int .i64 n)] [(d,Blk.row 42 2 (tb v k))] (SV.c (.int .i64 (nx zs k n))) [(d,Blk.row 42 2 (tb v (k+1)))]:=by
 obtain ⟨a,cap,rfl,hi⟩:=hv
 have hlen:∀ w',(builtin .len #[39] 3 #[false] #[.slice a zs.length cap]).run Tryz.prog w'=.ok (.value (.int .i64 (zs.length:Nat))) w':=fun w'=>run_len_sl Tryz.underlying39 w'
 unfold nx
 by_cases h:k < zs.length
 ·rw [if_pos h]
  obtain ⟨b,h2,h4⟩:=hi k h
  refine sx_ownT1 [] tt_ok mixed at18 E hE d (42,2,tb (.slice a zs.length cap) k,tb (.slice a zs.length cap) (k+1)) [SV.ptr 1000 0,SV.c (.int .i64 n)] _ rfl rfl fun w b hT=>?_
  refine ⟨_,rfl,by decide,_,rfl,_,rfl,_,fun w' _=>hlen w',by kernel_rfl,fun _=>?_,fun h=>absurd (of_decide_eq_false h) (by omega)⟩
  refine ⟨_,rfl,_,rfl,_,runs_old hE.symm hT h2,_,runs_old hE.symm hT h4,by kernel_rfl,_,rfl,Nat.lt_add_one 1,rfl,_,rfl,.inl ⟨_,fold_t hn,rfl,?_,trivial⟩⟩
  exact row_eq (tb_set k (by omega))
 ·rw [if_neg h]
  refine sx_ownT1 [] tt_ok mixed at18 E hE d (42,2,tb (.slice a zs.length cap) k,tb (.slice a zs.length cap) (k+1)) [SV.ptr 1000 0,SV.c (.int .i64 n)] _ rfl rfl fun w b hT=>?_
  refine ⟨_,rfl,by decide,_,rfl,_,rfl,_,fun w' _=>hlen w',by kernel_rfl,fun h=>absurd (of_decide_eq_true h) (by omega),fun _=>?_⟩
  refine ⟨_,rfl,Nat.lt_add_one 1,rfl,_,rfl,.inl ⟨_,fold_t hn,?_,?_,trivial⟩⟩
  ·exact vi rfl
  ·exact row_eq (tb_set k (by omega))
theorem run_min3_ct {P:Program} {ats:Array TypeId} {ty:TypeId} {cs:Array Bool} (x y z:Int) (w:World):(builtin .min ats ty cs #[.int .i64 x,.int .i64 y,.int .i64 z]).run P w=.ok (.value (.int .i64 (min (min x y) z))) w:=by
 have e:∀ x y:Int,(if y < x then y else x)=min x y:=fun x y=>by
  rw [Int.min_def]
  split<;>split<;>omega
 simp [builtin,Builtin.min_,Builtin.min2,e]
def lv (zs:List Int) (k:Nat) (n:Int) (i:Nat):Int :=
 let v:=if nx zs (k+2*i+1) 9=0 then 0 else if nx zs (k+2*i+1) 9=1 then 4294967295 else IntKind.u32.wrap (nx zs (k+2*i) 4294967296)
 if n - 32*i < 32 then IntKind.u32.wrap (BitVec.ofInt IntKind.u32.bits v &&& BitVec.ofInt IntKind.u32.bits (IntKind.u32.wrap (IntKind.u32.wrap (1*2 ^ min (IntKind.u64.wrap (n - 32*i)).toNat IntKind.u32.bits) - 1))).toNat else v
theorem u32_bd (x:Int):0≤IntKind.u32.wrap x∧IntKind.u32.wrap x < 4294967296:=by
 show 0≤x % 4294967296∧x % 4294967296 < 4294967296
 omega
theorem lv_bd (zs:List Int) (k:Nat) (n:Int) (i:Nat):0≤lv zs k n i∧lv zs k n i < 4294967296:=by
 unfold lv
 dsimp only
 split
 ·exact u32_bd _
 ·split
  ·omega
  ·split
   ·omega
   ·exact u32_bd _
def lf (zs:List Int) (k:Nat) (n:Int) (m:Nat) (x:Nat):Nat:=if x < m then (lv zs k n x).toNat else 0
def Xi (f:Nat→Nat):Array Value:=#[.bool false]++lA f 32
theorem Xi_set {f g:Nat→Nat} {i:Nat} {u:Int} (_hi:i < 32) (h:∀ x,x < 32→(if x=i then u.toNat else f x)=g x) (hu:0≤u):(Xi f).setIfInBounds (0+1+i) (.int .u32 u)=Xi g:=by
 have e:u=((u.toNat:Nat):Int):=by omega
 rw [e,Xi,Array.setIfInBounds_append_right (by simp)]
 have e2:0+1+i - (#[Value.bool false]:Array Value).size=i:=by simp
 rw [e2,lA_set,Xi]
 congr 1
 exact lA_congr fun x hx=>h x hx
theorem Xi_zero:ti25.zero=Xi (fun _=>0):=rfl
theorem Xi_iA {f:Nat→Nat} (h:∀ i,i < 32→f i < BB):Xi f=iA false (nv f 32):=by
 unfold Xi iA mA
 congr 1
 exact lA_congr fun i hi=>(dg_nv h hi).symm
theorem u64_bd (x:Int):0≤IntKind.u64.wrap x∧IntKind.u64.wrap x < 18446744073709551616:=by
 show 0≤x % 18446744073709551616∧x % 18446744073709551616 < 18446744073709551616
 omega
theorem set_neg (a b:Bool) (N:Nat):(iA a N).setIfInBounds (0+0) (.bool b)=iA b N:=by
 rw [iA,Array.setIfInBounds_append_left (by simp)];rfl
def RN (r:Value):Prop:=∃ a N,r=.agg (iA a N)∧N < BB ^ 32
theorem int_g {bits:Int} (hb:0≤bits) (hb2:bits≤100000):Gen 64 [SV.c (.int .i64 bits)] 70 RN:=by
 intro zs k hk
 have eb:IntKind.i64.wrap (bits+1)=bits+1:=i64_in (by omega)
 obtain ⟨r1,k1,a1,b1,⟨i1,rfl,c1⟩,O1⟩:=next_g (n:=IntKind.i64.wrap (bits+1)) (by omega) zs k (by omega)
 obtain ⟨r2,k2,a2,b2,⟨i2,rfl,c2⟩,O2⟩:=pick_g (xs:=[0,1,5,20,31,32,33,64,65,100,200,400,bits,bits,i1]) (by simp) (by simp) zs k1 (by omega)
 have q2:0≤i2:=by simp at c2;omega
 obtain ⟨n,hn⟩:∃ n,n=min (min i2 bits) 1024:=⟨_,rfl⟩
 have n0:0≤n∧n≤1024:=by omega
 obtain ⟨cnt,hc1,hc2⟩:∃ cnt:Nat,cnt≤32∧∀ i:Nat,(32*(i:Int) < n↔i < cnt):=⟨((n+31) / 32).toNat,by omega,fun i=>by omega⟩
 obtain ⟨r3,k3,a3,b3,⟨neg,rfl⟩,O3⟩:=chance_g (a:=1) (b:=3) (by decide) zs (k2+2*cnt) (by omega)
 have hlt:∀ m i,i < 32→lf zs k2 n m i < BB:=fun m i _=>by
  have:=lv_bd zs k2 n i
  unfold lf;rw [BB_eq];split<;>omega
 refine ⟨_,k3,by omega,by omega,⟨neg && (sgn (zN false (nv (lf zs k2 n cnt) 32)) != 0),nv (lf zs k2 n cnt) 32,rfl,nv_lt fun i hi=>hlt cnt i hi⟩,fun E v d hE hv=>?_⟩
 refine sx_ownT1 [] tt_ok mixed at64 E hE d (42,2,tb v k,tb v k3) [SV.ptr 1000 0,SV.c (.int .i64 bits)] _ rfl rfl fun w b hT=>?_
 have hv:=hv.of_old hE.symm hT
 refine .inr ⟨_,_,_,O1 _ v 1000 rfl hv,⟨rfl,trivial⟩,rfl,by decide,by decide,ints [0,1,5,20,31,32,33,64,65,100,200,400,bits,bits,i1],by kernel_rfl,rfl,.inr ⟨_,_,_,O2 _ v 1000 17 (by decide) rfl hv,⟨rfl,rfl,trivial⟩,rfl,_,fun w' _=>run_min3_ct _ _ _ w',?_⟩⟩
 rw [← hn]
 have hz:ti25.zero=Xi (lf zs k2 n 0):=by
  rw [Xi_zero]
  congr 1
 refine ⟨fun q f m=>∃ i:Nat,q=cnt - i∧i≤cnt∧f=[(0,SV.ptr 1000 0),(1,SV.c (.int .i64 bits)),(4,SV.ptr 4 0),(5,SV.ptr 5 0),(6,SV.c (.int .i64 n)),(7,SV.c (.int .i64 i))]∧m=[(1000,Blk.row 42 2 (tb v (k2+2*i))),(4,Blk.row 25 33 ti25.zero),(5,Blk.row 25 33 (Xi (lf zs k2 n i)))],cnt,⟨_,_,⟨0,rfl,Nat.zero_le _,rfl,rfl⟩,⟨rfl,rfl,rfl,rfl,rfl,rfl,trivial⟩,⟨rfl,rfl,congrArg (fun B=>some (Blk.row 25 33 B)) hz,trivial⟩,rfl⟩,?_⟩
 rintro q f m ⟨i,rfl,hi1,rfl,rfl⟩
 have ei:IntKind.i64.wrap (32*(i:Int))=32*(i:Int):=i64_in (by omega)
 refine ⟨fun h=>?_,fun h=>?_⟩
 ·have h:32*(i:Int) < n:=by have:=of_decide_eq_true h;omega
  have hi:i < cnt:=(hc2 i).1 h
  have e2:IntKind.i64.wrap (n - IntKind.i64.wrap (32*(i:Int)))=n - 32*i:=by rw [ei];exact i64_in (by omega)
  have hst:∀ u,u=lv zs k2 n i→(Xi (lf zs k2 n i)).setIfInBounds (0+1+i) (.int .u32 u)=Xi (lf zs k2 n (i+1)):=fun u hu=>by
   have hb:=lv_bd zs k2 n i
   refine Xi_set (by omega) (fun x hx=>?_) (by omega)
   unfold lf
   by_cases e:x=i
   ·subst e;rw [if_pos rfl,if_pos (by omega),hu]
   ·rw [if_neg e]
    by_cases e3:x < i
    ·rw [if_pos e3,if_pos (by omega)]
    ·rw [if_neg e3,if_neg (by omega)]
  have hp1:k2+2*i+1+1=k2+2*(i+1):=by omega
  have N1:=next_x (n:=4294967296) (by decide) zs (k2+2*i) (by omega) _ v 1000 rfl hv
  have N2:=next_x (n:=9) (by decide) zs (k2+2*i+1) (by omega) _ v 1000 rfl hv
  rw [hp1] at N2
  have ne0:∀ {x:Int},(x == 0)=false→¬ x=0:=fun h e=>by subst e;simp at h
  have ne1:∀ {x:Int},(x == 1)=false→¬ x=1:=fun h e=>by subst e;simp at h
  have i32:(i:Int) < 32:=by omega
  have i33:0+1+i < 33:=by omega
  refine .inr ⟨_,_,_,N1,⟨rfl,trivial⟩,rfl,.inr ⟨_,_,_,N2,⟨rfl,trivial⟩,rfl,fun s0=>⟨fun l=>?_,fun l=>?_⟩,fun s0=>⟨fun s1=>⟨fun l=>?_,fun l=>?_⟩,fun s1=>⟨fun l=>?_,fun l=>?_⟩⟩⟩⟩
  ·have l:=of_decide_eq_true l
   refine ⟨(u64_bd _).1,by omega,i32,i33,rfl,Xi (lf zs k2 n (i+1)),hst _ ?_,cnt - (i+1),_,_,by omega,⟨i+1,rfl,by omega,rfl,rfl⟩,⟨rfl,rfl,rfl,rfl,rfl,c_int (i64_in (by omega)),trivial⟩,⟨rfl,rfl,rfl,trivial⟩,rfl⟩
   unfold lv
   dsimp only
   rw [if_pos (eq_of_beq s0),e2]
   rw [e2] at l
   rw [if_pos l]
  ·have l:=of_decide_eq_false l
   refine ⟨by omega,i32,i33,rfl,Xi (lf zs k2 n (i+1)),hst _ ?_,cnt - (i+1),_,_,by omega,⟨i+1,rfl,by omega,rfl,rfl⟩,⟨rfl,rfl,rfl,rfl,rfl,c_int (i64_in (by omega)),trivial⟩,⟨rfl,rfl,rfl,trivial⟩,rfl⟩
   unfold lv
   dsimp only
   rw [e2] at l
   rw [if_pos (eq_of_beq s0),if_neg l]
  ·have l:=of_decide_eq_true l
   refine ⟨(u64_bd _).1,by omega,i32,i33,rfl,Xi (lf zs k2 n (i+1)),hst _ ?_,cnt - (i+1),_,_,by omega,⟨i+1,rfl,by omega,rfl,rfl⟩,⟨rfl,rfl,rfl,rfl,rfl,c_int (i64_in (by omega)),trivial⟩,⟨rfl,rfl,rfl,trivial⟩,rfl⟩
   unfold lv
   dsimp only
   rw [if_neg (ne0 s0),if_pos (eq_of_beq s1),e2]
   rw [e2] at l
   rw [if_pos l]
  ·have l:=of_decide_eq_false l
   refine ⟨by omega,i32,i33,rfl,Xi (lf zs k2 n (i+1)),hst _ ?_,cnt - (i+1),_,_,by omega,⟨i+1,rfl,by omega,rfl,rfl⟩,⟨rfl,rfl,rfl,rfl,rfl,c_int (i64_in (by omega)),trivial⟩,⟨rfl,rfl,rfl,trivial⟩,rfl⟩
   unfold lv
   dsimp only
   rw [e2] at l
   rw [if_neg (ne0 s0),if_pos (eq_of_beq s1),if_neg l]
  ·have l:=of_decide_eq_true l
   refine ⟨(u64_bd _).1,by omega,i32,i33,rfl,Xi (lf zs k2 n (i+1)),hst _ ?_,cnt - (i+1),_,_,by omega,⟨i+1,rfl,by omega,rfl,rfl⟩,⟨rfl,rfl,rfl,rfl,rfl,c_int (i64_in (by omega)),trivial⟩,⟨rfl,rfl,rfl,trivial⟩,rfl⟩
   unfold lv
   dsimp only
   rw [if_neg (ne0 s0),if_neg (ne1 s1),e2]
   rw [e2] at l
   rw [if_pos l]
  ·have l:=of_decide_eq_false l
   refine ⟨by omega,i32,i33,rfl,Xi (lf zs k2 n (i+1)),hst _ ?_,cnt - (i+1),_,_,by omega,⟨i+1,rfl,by omega,rfl,rfl⟩,⟨rfl,rfl,rfl,rfl,rfl,c_int (i64_in (by omega)),trivial⟩,⟨rfl,rfl,rfl,trivial⟩,rfl⟩
   unfold lv
   dsimp only
   rw [e2] at l
   rw [if_neg (ne0 s0),if_neg (ne1 s1),if_neg l]
 ·have h:¬ 32*(i:Int) < n:=by have:=of_decide_eq_false h;omega
  have hi:i=cnt:=by have:=(hc2 i);omega
  subst hi
  have hxi:=Xi_iA (hlt i)
  have hN:nv (lf zs k2 n i) 32 < BB ^ 32:=nv_lt fun j hj=>hlt i j hj
  rw [hxi]
  have hsg:=sign_r (A:=iA false (nv (lf zs k2 n i) 32)) (z:=zN false (nv (lf zs k2 n i) 32)) ⟨_,_,hN,rfl,rfl⟩
  generalize nv (lf zs k2 n i) 32=N at *
  generalize zN false N=z at *
  have nl:0+0 < 33:=Nat.zero_lt_succ _
  cases neg
  ·refine .inr ⟨_,_,_,O3 _ v 1000 rfl hv,⟨rfl,trivial⟩,rfl,(fun h=>absurd h (by decide)),fun _=>⟨nl,rfl,iA false N,set_neg _ _ _,iA_fits _ _,?_,rfl,trivial⟩⟩
   rw [Bool.false_and];rfl
  ·refine .inr ⟨_,_,_,O3 _ v 1000 rfl hv,⟨rfl,trivial⟩,rfl,fun _=>.inl ⟨_,hsg,nl,rfl,iA (sgn z != 0) N,set_neg _ _ _,iA_fits _ _,?_,rfl,trivial⟩,(fun h=>absurd h (by decide))⟩
   rw [Bool.true_and];rfl
end Go.Proofs.YtnfmpddhcjkjbaaGreatDoor
namespace Go.Proofs.YtnfmpddhcjkjbaaGreatDoor
open Go Go.RowKit Go.SX
theorem RN.isI {r:Value} (h:RN r):∃ A z,r=.agg A∧IsI A z:=by
 obtain ⟨a,N,rfl,hN⟩:=h
 exact ⟨_,zN a N,rfl,⟨_,_,hN,rfl,rfl⟩⟩
theorem ratio_g:Gen 22 [] 150 (RA RQ.In):=by
 intro zs k hk
 obtain ⟨r1,k1,a1,b1,⟨ch,rfl⟩,O1⟩:=chance_g (a:=1) (b:=6) (by decide) zs k (by omega)
 cases ch
 ·obtain ⟨r2,k2,a2,b2,⟨i2,rfl,c2⟩,O2⟩:=range_g (lo:=-200) (hi:=400) (by decide) (by decide) (by decide) zs k1 (by omega)
  obtain ⟨r3,k3,a3,b3,⟨i3,rfl,c3⟩,O3⟩:=pick_g (xs:=[1,1,1,1000,1000003]) (by decide) (by decide) zs k2 (by omega)
  obtain ⟨r4,k4,a4,b4,⟨i4,rfl,c4⟩,O4⟩:=pick_g (xs:=[1,1,2,3,4,7,10,12,100,365,366,1000,1000000]) (by decide) (by decide) zs k3 (by omega)
  have d4:1≤i4∧i4≤1000000:=by simp at c4;omega
  have e5 : -9223372036854775808≤IntKind.i64.wrap (i2*i3)∧IntKind.i64.wrap (i2*i3)≤9223372036854775807:=by
   have q : -1000000000000≤i2*i3∧i2*i3≤1000000000000:=by
    simp at c3
    rcases c3 with rfl | rfl | rfl<;>omega
   rw [i64_in (by omega)];omega
  have hm:=made_of (n:=IntKind.i64.wrap (i2*i3)) (d:=i4) e5.1 e5.2 (by omega) (by omega)
  refine ⟨_,k4,by omega,by omega,⟨(mkQ (IntKind.i64.wrap (i2*i3)) i4).1,rfl,mkQ_in _ _⟩,fun E v d hE hv=>?_⟩
  refine sx_ownT1 [] tt_ok mixed at22 E hE d (42,2,tb v k,tb v k4) [SV.ptr 1000 0] _ rfl rfl fun w b hT=>?_
  have hv:=hv.of_old hE.symm hT
  exact .inr ⟨_,_,_,O1 _ v 1000 rfl hv,⟨rfl,trivial⟩,rfl,nofun,fun _=>.inr ⟨_,_,_,O2 _ v 1000 rfl hv,⟨rfl,trivial⟩,rfl,by decide,by decide,ints [1,1,1,1000,1000003],by kernel_rfl,rfl,.inr ⟨_,_,_,O3 _ v 1000 26 (by decide) rfl hv,⟨rfl,rfl,trivial⟩,rfl,by decide,by decide,ints [1,1,2,3,4,7,10,12,100,365,366,1000,1000000],by kernel_rfl,rfl,.inr ⟨_,_,_,O4 _ v 1000 30 (by decide) rfl hv,⟨rfl,rfl,trivial⟩,rfl,.inl ⟨_,hm,RQ.A_fits _,rfl,rfl,trivial⟩⟩⟩⟩⟩
 ·obtain ⟨r2,k2,a2,b2,c2,O2⟩:=int_g (bits:=200) (by decide) (by decide) zs k1 (by omega)
  obtain ⟨A,z,rfl,hA⟩:=c2.isI
  obtain ⟨r3,k3,a3,b3,c3,O3⟩:=int_g (bits:=200) (by decide) (by decide) zs k2 (by omega)
  obtain ⟨B,y,rfl,hB⟩:=c3.isI
  have hab:=abs_r hA
  have hz:(z.natAbs:Int).natAbs < BB ^ 32:=by
   obtain ⟨a,N,hN,-,rfl⟩:=hA.raw
   rw [Int.natAbs_natCast,zN_abs];exact hN
  have hsg:=sign_r (isI_e hz)
  have h1:=fromInt_r 1 (by decide) (by decide)
  have i1:=isI_e (i64_lt (n:=1) (by decide) (by decide))
  have m1:=make_r hB i1
  have m2:=make_r hB (isI_e hz)
  by_cases hy:sgn (z.natAbs:Int)=0
  ·rw [hy] at hsg
   refine ⟨_,k3,by omega,by omega,⟨(mkQ y 1).1,rfl,mkQ_in _ _⟩,fun E v d hE hv=>?_⟩
   refine sx_ownT1 [] tt_ok mixed at22 E hE d (42,2,tb v k,tb v k3) [SV.ptr 1000 0] _ rfl rfl fun w b hT=>?_
   have hv:=hv.of_old hE.symm hT
   exact .inr ⟨_,_,_,O1 _ v 1000 rfl hv,⟨rfl,trivial⟩,rfl,fun _=>.inr ⟨_,_,_,O2 _ v 1000 rfl hv,⟨rfl,trivial⟩,rfl,.inl ⟨_,hab,eA_fits _,.inl ⟨_,hsg,fun _=>.inl ⟨_,h1,eA_fits _,.inr ⟨_,_,_,O3 _ v 1000 rfl hv,⟨rfl,trivial⟩,rfl,.inl ⟨_,m1,RQ.A_fits _,by kernel_rfl,RQ.A_fits _,rfl,rfl,trivial⟩⟩⟩,nofun⟩⟩⟩,nofun⟩
  ·refine ⟨_,k3,by omega,by omega,⟨(mkQ y z.natAbs).1,rfl,mkQ_in _ _⟩,fun E v d hE hv=>?_⟩
   refine sx_ownT1 [] tt_ok mixed at22 E hE d (42,2,tb v k,tb v k3) [SV.ptr 1000 0] _ rfl rfl fun w b hT=>?_
   have hv:=hv.of_old hE.symm hT
   exact .inr ⟨_,_,_,O1 _ v 1000 rfl hv,⟨rfl,trivial⟩,rfl,fun _=>.inr ⟨_,_,_,O2 _ v 1000 rfl hv,⟨rfl,trivial⟩,rfl,.inl ⟨_,hab,eA_fits _,.inl ⟨_,hsg,fun h=>absurd (eq_of_beq h) hy,fun _=>.inr ⟨_,_,_,O3 _ v 1000 rfl hv,⟨rfl,trivial⟩,rfl,.inl ⟨_,m2,RQ.A_fits _,by kernel_rfl,RQ.A_fits _,rfl,rfl,trivial⟩⟩⟩⟩⟩,nofun⟩
theorem long_g:Gen 23 [] 500 (RA RQ.In):=by
 intro zs k hk
 have step:∀ k:Nat,∃ p:(Array Value×Int)×Nat,k+70≤4000000000000000000→(k≤p.2∧p.2≤k+70∧IsI p.1.1 p.1.2∧∀ (E:Env) (v:Value) (d:Key),E.P=Tryz.prog→Tp E v zs→Own E 64 [SV.ptr d 0,SV.c (.int .i64 480)] [(d,Blk.row 42 2 (tb v k))] (SV.c (.agg p.1.1)) [(d,Blk.row 42 2 (tb v p.2))]):=fun k=>by
  by_cases h:k+70≤4000000000000000000
  ·obtain ⟨r,k',h1,h2,h3,h4⟩:=int_g (bits:=480) (by decide) (by decide) zs k h
   obtain ⟨A,z,rfl,hA⟩:=h3.isI
   exact ⟨((A,z),k'),fun _=>⟨h1,h2,hA,h4⟩⟩
  ·exact ⟨((#[],0),0),fun h2=>absurd h2 h⟩
 obtain ⟨F,hF⟩:=Classical.axiomOfChoice step
 obtain ⟨K,hK0,hKs⟩:∃ K:Nat→Nat,K 0=k∧∀ i,K (i+1)=(F (K i)).2:=⟨fun i=>Nat.rec k (fun _ x=>(F x).2) i,rfl,fun _=>rfl⟩
 have hKb:∀ i,i≤5→k≤K i∧K i≤k+70*i:=by
  intro i
  induction i with
  | zero=>intro _;rw [hK0];omega
  | succ i ih =>
   intro hi
   have h1:=ih (by omega)
   have h2:=hF (K i) (by omega)
   rw [hKs];omega
 obtain ⟨t,ht,h1,h2⟩:∃ t,t≤4∧(∀ j,j < t→sgn ((F (K j)).1.2.natAbs:Int)=0)∧(t < 4→sgn ((F (K t)).1.2.natAbs:Int)≠0):=by
  by_cases z0:sgn ((F (K 0)).1.2.natAbs:Int)=0
  ·by_cases z1:sgn ((F (K 1)).1.2.natAbs:Int)=0
   ·by_cases z2:sgn ((F (K 2)).1.2.natAbs:Int)=0
    ·by_cases z3:sgn ((F (K 3)).1.2.natAbs:Int)=0
     ·refine ⟨4,by omega,fun j hj=>?_,fun h=>absurd h (by omega)⟩
      obtain rfl | rfl | rfl | rfl:j=0∨j=1∨j=2∨j=3:=by omega
      all_goals assumption
     ·refine ⟨3,by omega,fun j hj=>?_,fun _=>z3⟩
      obtain rfl | rfl | rfl:j=0∨j=1∨j=2:=by omega
      all_goals assumption
    ·refine ⟨2,by omega,fun j hj=>?_,fun _=>z2⟩
     obtain rfl | rfl:j=0∨j=1:=by omega
     all_goals assumption
   ·refine ⟨1,by omega,fun j hj=>?_,fun _=>z1⟩
    obtain rfl:j=0:=by omega
    assumption
  ·exact ⟨0,by omega,fun j hj=>absurd hj (by omega),fun _=>z0⟩
 have hKt:=hKb (t+1) (by omega)
 have hlast:∃ (r:Value) (k':Nat),k≤k'∧k'≤k+500∧RA RQ.In r∧(t < 4→∃ y B,r=.agg (mkQ y (F (K t)).1.2.natAbs).1.A∧IsI B y∧∀ (E:Env) (v:Value) (d:Key),E.P=Tryz.prog→Tp E v zs→Own E 64 [SV.ptr d 0,SV.c (.int .i64 480)] [(d,Blk.row 42 2 (tb v (K (t+1))))] (SV.c (.agg B)) [(d,Blk.row 42 2 (tb v k'))])∧(t=4→∃ x:RQ,r=.agg x.A∧∀ (E:Env) (v:Value) (d:Key),E.P=Tryz.prog→Tp E v zs→Own E 22 [SV.ptr d 0] [(d,Blk.row 42 2 (tb v (K 4)))] (SV.c r) [(d,Blk.row 42 2 (tb v k'))]):=by
  by_cases h:t < 4
  ·obtain ⟨r,k',h3,h4,h5,h6⟩:=int_g (bits:=480) (by decide) (by decide) zs (K (t+1)) (by omega)
   obtain ⟨B,y,rfl,hB⟩:=h5.isI
   exact ⟨_,k',by omega,by omega,⟨(mkQ y (F (K t)).1.2.natAbs).1,rfl,mkQ_in _ _⟩,fun _=>⟨y,B,rfl,hB,h6⟩,fun h=>absurd h (by omega)⟩
  ·have h4:=hKb 4 (by omega)
   obtain ⟨r,k',h3,h4,h5,h6⟩:=ratio_g zs (K 4) (by omega)
   refine ⟨r,k',by omega,by omega,h5,fun h2=>absurd h2 h,fun _=>?_⟩
   obtain ⟨x,rfl,-⟩:=h5
   exact ⟨x,rfl,h6⟩
 obtain ⟨r,k',h3,h4,h5,h6,h7⟩:=hlast
 refine ⟨r,k',h3,h4,h5,fun E v d hE hv=>?_⟩
 obtain ⟨x,rfl,hx⟩:=h5
 refine sx_ownT1 [] tt_ok mixed at23 E hE d (42,2,tb v k,tb v k') [SV.ptr 1000 0] _ rfl rfl fun w b hT=>?_
 have hv:=hv.of_old hE.symm hT
 refine ⟨fun q f m=>∃ i:Nat,q=4 - i∧i≤t∧f=[(0,SV.ptr 1000 0),(2,SV.ptr 2 0),(3,SV.c (.int .i64 i))]∧m=[(1000,Blk.row 42 2 (tb v (K i))),(2,Blk.row 27 66 ti27.zero)],4,⟨_,_,⟨0,rfl,Nat.zero_le _,rfl,rfl⟩,⟨rfl,rfl,rfl,trivial⟩,⟨by rw [hK0];rfl,rfl,trivial⟩,rfl⟩,?_⟩
 rintro q f m ⟨i,rfl,hi1,rfl,rfl⟩
 refine ⟨fun h=>?_,fun h=>?_⟩
 ·have h:i < 4:=by have:=of_decide_eq_true h;omega
  have hb:=hKb i (by omega)
  obtain ⟨f1,f2,f3,f4⟩:=hF (K i) (by omega)
  have hab:=abs_r f3
  have hz:((F (K i)).1.2.natAbs:Int).natAbs < BB ^ 32:=by
   obtain ⟨a,N,hN,-,e⟩:=f3.raw
   rw [Int.natAbs_natCast,e,zN_abs];exact hN
  have hsg:=sign_r (isI_e hz)
  have O1:=f4 _ v 1000 rfl hv
  rw [← hKs] at O1
  refine .inr ⟨_,_,_,O1,⟨rfl,trivial⟩,rfl,.inl ⟨_,hab,eA_fits _,.inl ⟨_,hsg,fun n=>?_,fun n=>?_⟩⟩⟩
  ·have hit:i=t:=by
     by_cases e:i < t
     ·rw [h1 i e] at n;cases n
     ·omega
   subst hit
   obtain ⟨y,B,e,hB,O2⟩:=h6 h
   have m2:=make_r hB (isI_e hz)
   exact .inr ⟨_,_,_,O2 _ v 1000 rfl hv,⟨rfl,trivial⟩,rfl,.inl ⟨_,m2,RQ.A_fits _,by kernel_rfl,RQ.A_fits _,e.symm,rfl,trivial⟩⟩
  ·have hit:i < t:=by
     by_cases e:i=t
     ·subst e
      have:=h2 h
      exact absurd (by simpa using n) this
     ·omega
   exact ⟨4 - (i+1),_,_,by omega,⟨i+1,rfl,by omega,rfl,rfl⟩,⟨rfl,rfl,c_int (i64_in (by omega)),trivial⟩,⟨rfl,rfl,trivial⟩,rfl⟩
 ·have h:¬ i < 4:=by have:=of_decide_eq_false h;omega
  have hi:i=4:=by omega
  have ht4:t=4:=by omega
  subst hi
  obtain ⟨x2,e,O2⟩:=h7 ht4
  exact .inr ⟨_,_,_,O2 _ v 1000 rfl hv,⟨rfl,trivial⟩,rfl,RQ.A_fits _,rfl,rfl,trivial⟩
def rats:List RQ→Array Value
 | []=>#[]
 | x :: r=>x.A++rats r
theorem rats_get:∀ {xs:List RQ} {i:Nat} (h:i < xs.length),(rats xs).extract (0+i*66) (0+i*66+66)=xs[i].A
 | x :: r,0,_=>by
  have:=@ext_mid #[] x.A (rats r) 0 66 rfl x.A_size
  simpa [rats] using this
 | x :: r,i+1,h=>by
  have ih:=rats_get (xs:=r) (i:=i) (by simpa using h)
  rw [rats,Array.extract_append,x.A_size]
  have e1:0+(i+1)*66 - 66=0+i*66:=by omega
  have e2:0+(i+1)*66+66 - 66=0+i*66+66:=by omega
  rw [e1,e2,ih,Array.extract_empty_of_size_le_start (by rw [x.A_size];omega)]
  simp
theorem pickratio3_g {a b c:RQ} (hin:∀ x∈[a,b,c],x.In):GenL 20 27 (rats [a,b,c]) 198 3 1 (RA RQ.In):=by
 intro zs k hk
 obtain ⟨r,k',h4,h5,⟨i,rfl,h6,h7⟩,hO⟩:=next_g (n:=3) (by decide) zs k hk
 have hi:i.toNat < [a,b,c].length:=by show i.toNat < 3;omega
 refine ⟨_,k',h4,h5,⟨[a,b,c][i.toNat],rfl,hin _ (List.getElem_mem hi)⟩,fun E v d e hde hE hv=>?_⟩
 refine sx_ownT2 [] tt_ok mixed at20 E hE d e hde (42,2,tb v k,tb v k') (27,198,rats [a,b,c],rats [a,b,c]) [SV.ptr 1000 0,SV.sl 1001 0 3 3] _ rfl rfl fun w b b' hT=>?_
 have:=hO _ v 1000 rfl (hv.of_old hE.symm hT)
 have hoff:0+i.toNat*66+66≤198:=by omega
 exact ⟨nofun,fun _=>.inr ⟨_,_,_,this,⟨rfl,trivial⟩,rfl,h6,by show i < 3;omega,hoff,_,rats_get hi,RQ.A_fits _,rfl,rfl,rfl,trivial⟩⟩
theorem pickratio5_g {a b c d' e':RQ} (hin:∀ x∈[a,b,c,d',e'],x.In):GenL 20 27 (rats [a,b,c,d',e']) 330 5 1 (RA RQ.In):=by
 intro zs k hk
 obtain ⟨r,k',h4,h5,⟨i,rfl,h6,h7⟩,hO⟩:=next_g (n:=5) (by decide) zs k hk
 have hi:i.toNat < [a,b,c,d',e'].length:=by show i.toNat < 5;omega
 refine ⟨_,k',h4,h5,⟨[a,b,c,d',e'][i.toNat],rfl,hin _ (List.getElem_mem hi)⟩,fun E v d e hde hE hv=>?_⟩
 refine sx_ownT2 [] tt_ok mixed at20 E hE d e hde (42,2,tb v k,tb v k') (27,330,rats [a,b,c,d',e'],rats [a,b,c,d',e']) [SV.ptr 1000 0,SV.sl 1001 0 5 5] _ rfl rfl fun w b b' hT=>?_
 have:=hO _ v 1000 rfl (hv.of_old hE.symm hT)
 have hoff:0+i.toNat*66+66≤330:=by omega
 exact ⟨nofun,fun _=>.inr ⟨_,_,_,this,⟨rfl,trivial⟩,rfl,h6,by show i < 5;omega,hoff,_,rats_get hi,RQ.A_fits _,rfl,rfl,rfl,trivial⟩⟩
end Go.Proofs.YtnfmpddhcjkjbaaGreatDoor
namespace Go.Proofs.YtnfmpddhcjkjbaaGreatDoor
open Go Go.RowKit Go.SX
theorem fill_tape (a:Option Addr) (len cap:Nat) {pl:List (Nat×Nat)} (hpl:pl=[(0,1),(1,1)]):Instr.fill (fun k=>pl[k]?) ti42.zero [(0,.slice a len cap)]=some (tb (.slice a len cap) 0):=by
 subst hpl
 rfl
theorem fill_rats3 (a b c:RQ):Instr.fill (fun k=>some (k*ti27.size,ti27.size)) (madeCells ti27.zero (3*ti27.size)) [(0,.agg a.A),(1,.agg b.A),(2,.agg c.A)]=some (rats [a,b,c]):=by kernel_rfl
theorem actionPlays_f {v:Value} {zs:List Int} (w:World) (hv:Tp (envP Tryz.prog tt Tryz.f4.ntmps w).toEnv v zs):Calls Tryz.prog 4 #[v] w fun e w'=>e=.returned (.bool true)∧Below w.heap.size w w':=by
 refine sx_at [] tt_ok mixed at4 [v] _ w rfl ?_
 have hv0:=hv
 obtain ⟨a,cap,rfl,-⟩:=hv0
 refine ⟨_,fill_tape a zs.length cap rfl,rfl,?_⟩
 generalize hvv:Value.slice a zs.length cap=v at *
 refine ⟨fun q f m=>∃ i k:Nat,q=3 - i∧i≤3∧k≤10000*i∧f=[(0,SV.c v),(3,SV.ptr 8 0),(4,SV.c (.int .i64 i))]∧m=[(8,Blk.row 42 2 (tb v k))],3,⟨_,_,⟨0,0,rfl,by omega,by omega,rfl,rfl⟩,⟨rfl,rfl,rfl,trivial⟩,⟨rfl,trivial⟩,rfl⟩,?_⟩
 rintro q f m ⟨i,k,rfl,hi,hk,rfl,rfl⟩
 refine ⟨fun h=>?_,fun h=>?_⟩
 ·have h:i < 3:=by have:=of_decide_eq_true h;omega
  obtain ⟨r1,k1,a1,b1,⟨i1,rfl,c1⟩,O1⟩:=day_g zs k (by omega)
  obtain ⟨r2,k2,a2,b2,⟨i2,rfl,c2⟩,O2⟩:=next_g (n:=9) (by decide) zs k1 (by omega)
  obtain ⟨r3,k3,a3,b3,⟨A,rfl,c3⟩,O3⟩:=action_g i1 (IntKind.i64.wrap (1+i2)) zs k2 (by omega)
  obtain ⟨r4,k4,a4,b4,⟨i4,rfl,c4⟩,O4⟩:=next_g (n:=100000) (by decide) zs k3 (by omega)
  obtain ⟨r5,k5,a5,b5,⟨i5,rfl,c5⟩,O5⟩:=pick_g (xs:=[0,1,7,i4,-1,1000000000000000,1000000000000001,333333333333333]) (by simp) (by simp) zs k4 (by omega)
  obtain ⟨r6,k6,a6,b6,⟨x6,rfl,c6⟩,O6⟩:=price_g zs k5 (by omega)
  obtain ⟨r7,k7,a7,b7,⟨x7,rfl,c7⟩,O7⟩:=ratio_g zs k6 (by omega)
  obtain ⟨r8,k8,a8,b8,⟨x8,rfl,c8⟩,O8⟩:=long_g zs k7 (by omega)
  have hin:∀ x∈[x6,x7,x8],x.In:=by
   intro x hx
   simp at hx
   rcases hx with rfl | rfl | rfl
   ·exact c6.in_
   ·exact c7
   ·exact c8
  obtain ⟨r9,k9,a9,b9,⟨x9,rfl,c9⟩,O9⟩:=pickratio3_g (a:=x6) (b:=x7) (c:=x8) hin zs k8 (by omega)
  have hx:=actionExact_f c3 i5 c9
  refine .inr ⟨_,_,_,O1 _ v 8 rfl hv,⟨rfl,trivial⟩,rfl,.inr ⟨_,_,_,O2 _ v 8 rfl hv,⟨rfl,trivial⟩,rfl,.inr ⟨_,_,_,O3 _ v 8 rfl hv,⟨rfl,trivial⟩,rfl,AC.fits _,?_⟩⟩⟩
  refine .inr ⟨_,_,_,O4 _ v 8 rfl hv,⟨rfl,trivial⟩,rfl,by decide,by decide,ints [0,1,7,i4,-1,1000000000000000,1000000000000001,333333333333333],by kernel_rfl,rfl,.inr ⟨_,_,_,O5 _ v 8 24 (by decide) rfl hv,⟨rfl,rfl,trivial⟩,rfl,?_⟩⟩
  refine .inr ⟨_,_,_,O6 _ v 8 rfl hv,⟨rfl,trivial⟩,rfl,.inr ⟨_,_,_,O7 _ v 8 rfl hv,⟨rfl,trivial⟩,rfl,.inr ⟨_,_,_,O8 _ v 8 rfl hv,⟨rfl,trivial⟩,rfl,by decide,by decide,rats [x6,x7,x8],fill_rats3 _ _ _,by simp [rats,RQ.A_size];rfl,?_⟩⟩⟩
  refine .inr ⟨_,_,_,O9 _ v 8 33 (by decide) rfl hv,⟨rfl,rfl,trivial⟩,rfl,.inl ⟨_,hx,by kernel_rfl,nofun,fun _=>?_⟩⟩
  exact ⟨3 - (i+1),_,_,by omega,⟨i+1,k9,rfl,by omega,by omega,rfl,rfl⟩,⟨rfl,rfl,c_int (i64_in (by omega)),trivial⟩,⟨rfl,trivial⟩,rfl⟩
 ·exact .inl ⟨_,known_f,rfl,trivial⟩
end Go.Proofs.YtnfmpddhcjkjbaaGreatDoor
namespace Go.Proofs.YtnfmpddhcjkjbaaGreatDoor
open Go Go.RowKit Go.SX
open ChangeShapes
theorem add_flat (b o n:Nat):(⟨b,o,none⟩:Addr).add n=⟨b,o+n,none⟩:=by simp [Addr.add]
theorem cell_in {w:World} {b o:Nat} {v:Value} (h:w.cell? ⟨b,o,none⟩=some v):b < w.heap.size:=by
 by_cases hb:b < w.heap.size
 ·exact hb
 ·have:w.heap[b]? = none:=Array.getElem?_eq_none (by omega)
  simp [World.cell?,this] at h
theorem cell_same {w w':World} {b o:Nat} (h:w'.heap[b]? = w.heap[b]?):w'.cell? ⟨b,o,none⟩=w.cell? ⟨b,o,none⟩:=by
 simp only [World.cell?,h]
theorem tp_of {H:Type} {enc:TypeId×Value→H} {W:World} {fuel nt:Nat} {c:Value} {y:DataW H×List MemPlace} (h:DataW.trod enc Tryz.prog W 0 (fun _=>true) true fuel 39 [c]=some y):∃ zs,Tp (envP Tryz.prog tt nt W).toEnv c zs:=by
 rcases open_ints Tryz.underlying39 Tryz.underlying3 (by kernel_rfl) h with ⟨hcs,_⟩ | ⟨a,len,cap,zs,hcs,_,hl,hm,hz,_,hcell,_⟩
 ·simp only [List.cons.injEq,and_true] at hcs
  subst hcs
  exact ⟨[],none,0,rfl,fun i hi=>absurd hi (by simp)⟩
 ·simp only [List.cons.injEq,and_true] at hcs
  subst hcs
  simp only [if_true] at hz
  have hlz:(zs.take len).length=len:=by simp;omega
  refine ⟨zs.take len,some a,cap,by rw [hlz],fun i hi=>?_⟩
  rw [hlz] at hi
  have hc:=hcell i (by omega)
  have hsp:=World.cell?_spot (hcell 0 (by omega))
  obtain ⟨b,o,sp⟩:=a
  have h2:sp=none:=by simpa [Addr.add] using hsp
  subst h2
  rw [add_flat] at hc
  have hb:=cell_in hc
  refine ⟨⟨b,o+i,none⟩,fun w' hw=>?_,fun w' hw=>?_⟩
  ·simp only [Instr.indexAt,asIntOf,Sem.run_bind,run_underlying Tryz.underlying39,Result.andThen_ok,Sem.run_pure]
   have hcc:0≤(i:Int)∧(i:Int) < (len:Int):=by omega
   simp only [hcc,and_self,if_true,Sem.run_bind,Go.SX.run_sizeOf tok3,Result.andThen_ok,Sem.run_pure]
   have e:(i:Int).toNat*ti3.size=i:=by show i*1=i;omega
   rw [e,add_flat]
  ·have hg:(zs.take len).getD i 0=zs.getD i 0:=by simp [hi]
   rw [hg]
   refine load_cell tok3 ?_ rfl
   rw [cell_same (hw.old b hb (by simp))]
   exact hc
end Go.Proofs.YtnfmpddhcjkjbaaGreatDoor
