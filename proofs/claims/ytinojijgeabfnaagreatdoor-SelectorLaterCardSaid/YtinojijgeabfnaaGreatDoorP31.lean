/- made quotes. made books and policies. policies that are made are valid: plain laws. made books and policies. the law SelectorPlays, walk. plain laws of chosen candidates; no condition. -/
import Derived.Test.YtinojijgeabfnaaGreatDoorP30
set_option maxRecDepth 100000
set_option maxHeartbeats 4000000
namespace Go.Proofs.YtinojijgeabfnaaGreatDoor
open Go Go.RowKit Go.SX
def papers:List (List UInt8):=[[65,67,77,69],[66,79,78,68],[71,79,76,68],[88,49],[69,85,82,85,83,68],[85,83,68,71,66,80]]
def usdgbp:List UInt8:=[85,83,68,71,66,80]
def eurusd:List UInt8:=[69,85,82,85,83,68]
theorem paper_g:Gen 23 [] 1 (RS (·∈papers)):=by
 intro zs k hk
 obtain ⟨r1,k1,a1,b1,⟨l,rfl,c1⟩,O1⟩:=one_g (xs:=papers) (by decide) (by decide) zs k (by omega)
 refine ⟨_,k1,by omega,by omega,⟨l,rfl,c1⟩,fun E v d hE hv=>?_⟩
 refine sx_ownT1 [] tt_ok mixed at23 E hE d (48,2,tb v k,tb v k1) [SV.ptr 1000 0] _ rfl rfl fun w b hT=>?_
 have hv:=hv.of_old hE.symm hT
 exact ⟨by decide,by decide,strs papers,by kernel_rfl,rfl,.inr ⟨_,_,_,O1 _ v 1000 4 (by decide) rfl hv,⟨rfl,rfl,trivial⟩,rfl,rfl,rfl,trivial⟩⟩
theorem run_max_ct {P:Program} {ats:Array TypeId} {ty:TypeId} {cs:Array Bool} (x y:Int) (w:World):(builtin .max ats ty cs #[.int .i64 x,.int .i64 y]).run P w=.ok (.value (.int .i64 (max x y))) w:=by
 simp [builtin,Go.Lib.run_max_ints]
theorem near_g {day far:Int} (h1:0≤day∧day≤1000000) (h2:0≤far∧far≤1000000):Gen 24 [SV.c (.int .i64 day),SV.c (.int .i64 far)] 1 (RI fun i=>0≤i∧i≤73048):=by
 intro zs k hk
 obtain ⟨r1,k1,a1,b1,⟨i,rfl,c1⟩,O1⟩:=next_g (n:=2*far+1) (by omega) zs k (by omega)
 refine ⟨_,k1,by omega,by omega,⟨max 0 (min 73048 (day - far+i)),rfl,by omega⟩,fun E v d hE hv=>?_⟩
 refine sx_ownT1 [] tt_ok mixed at24 E hE d (48,2,tb v k,tb v k1) [SV.ptr 1000 0,SV.c (.int .i64 day),SV.c (.int .i64 far)] _ rfl rfl fun w b hT=>?_
 have hv:=hv.of_old hE.symm hT
 have O:=O1 _ v 1000 rfl hv
 have e1:IntKind.i64.wrap (IntKind.i64.wrap (2*far)+1)=2*far+1:=by rw [i64_in (show -9223372036854775808≤2*far∧2*far≤9223372036854775807 by omega),i64_in (by omega)]
 rw [← e1] at O
 have e2:IntKind.i64.wrap (IntKind.i64.wrap (day - far)+i)=day - far+i:=by rw [i64_in (show -9223372036854775808≤day - far∧day - far≤9223372036854775807 by omega),i64_in (by omega)]
 refine .inr ⟨_,_,_,O,⟨rfl,trivial⟩,rfl,_,fun w' _=>run_min_ct _ _ w',_,fun w' _=>run_max_ct _ _ w',?_,rfl,trivial⟩
 exact vi (by rw [e2])
theorem QC.set2 (a:QC) (l:List UInt8):a.A.setIfInBounds (0+2) (.string (S l))=({ a with cur:=l }:QC).A:=by kernel_rfl
theorem QC.set71 (a:QC) (b:Bool):a.A.setIfInBounds (0+71) (.bool b)=({ a with void:=b }:QC).A:=by kernel_rfl
theorem QC.setpri (a:QC) (r:RQ):splice a.A (0+4) r.A.toList=({ a with price:=r }:QC).A:=by kernel_rfl
theorem fill_q (src ins:List UInt8) (day known:Int) (r:RQ) {pl:List (Nat×Nat)} (hpl:pl=[(0,1),(1,1),(2,1),(3,1),(4,66),(70,1),(71,1)]):Instr.fill (fun k=>pl[k]?) ti40.zero [(0,.string (S src)),(1,.string (S ins)),(2,.string (S [85,83,68])),(3,.int .i64 day),(4,.agg r.A),(5,.int .i64 known)]=some (QC.A ⟨src,ins,[85,83,68],day,r,known,false⟩):=by
 subst hpl
 kernel_rfl
def isQuote (day known:Int) (q:QC):Prop:=q.src∈src4∧q.ins∈papers∧q.cur∈([[85,83,68],[69,85,82],[71,66,80]]:List (List UInt8))∧(0≤q.day∧(q.day≤day∨q.day=0))∧q.known=known∧((q.void=false∧isPrice q.price)∨(q.void=true∧q.price=zeroQ))
def RQt (P:QC→Prop) (r:Value):Prop:=∃ q:QC,r=.agg q.A∧P q
theorem zeroQ_fits:Fits zeroQ.A 66:=zeroQ.A_fits
theorem code_c:Gen 70 [] 1 (RS (·∈([[85,83,68],[69,85,82],[71,66,80]]:List (List UInt8)))):=by
 intro zs k hk
 obtain ⟨r1,k1,a1,b1,⟨l,rfl,c1⟩,O1⟩:=one_g (xs:=[[85,83,68],[85,83,68],[69,85,82],[71,66,80]]) (by decide) (by decide) zs k (by omega)
 refine ⟨_,k1,by omega,by omega,⟨l,rfl,by simp at c1 ⊢;exact c1⟩,fun E v d hE hv=>?_⟩
 refine sx_ownT1 [] tt_ok mixed at70 E hE d (48,2,tb v k,tb v k1) [SV.ptr 1000 0] _ rfl rfl fun w b hT=>?_
 have hv:=hv.of_old hE.symm hT
 exact ⟨by decide,by decide,strs [[85,83,68],[85,83,68],[69,85,82],[71,66,80]],by kernel_rfl,rfl,.inr ⟨_,_,_,O1 _ v 1000 4 (by decide) rfl hv,⟨rfl,rfl,trivial⟩,rfl,rfl,rfl,trivial⟩⟩
theorem quote_g {day known:Int} (hd:0≤day∧day≤1000000):Gen 35 [SV.c (.int .i64 day),SV.c (.int .i64 known)] 20 (RQt (isQuote day known)):=by
 intro zs k hk
 obtain ⟨r1,k1,a1,b1,⟨i1,rfl,c1⟩,O1⟩:=next_g (n:=4) (by decide) zs k (by omega)
 obtain ⟨r2,k2,a2,b2,⟨ins,rfl,c2⟩,O2⟩:=paper_g zs k1 (by omega)
 obtain ⟨r3,k3,a3,b3,⟨i3,rfl,c3⟩,O3⟩:=pick_g (xs:=[0,0,0,1,2,5]) (by decide) (by decide) zs k2 (by omega)
 obtain ⟨r4,k4,a4,b4,⟨price,rfl,c4⟩,O4⟩:=price_g zs k3 (by omega)
 have h3:0≤i3∧i3≤5:=by simp at c3;omega
 obtain ⟨j1,rfl⟩:∃ j:Nat,i1=j:=⟨i1.toNat,by omega⟩
 obtain ⟨src,hs⟩:∃ s,src4[j1]? = some s:=⟨_,List.getElem?_eq_getElem (show j1 < 4 by omega)⟩
 have hsm:src∈src4:=List.mem_of_getElem? hs
 have g1:(cat strA src4)[offAt 0 ((j1:Nat):Int) ti9.size]? = some (.string (S src)):=by
  have:=cat_get strA_size src4 j1 src 0 hs (by decide)
  rw [off_one 0 j1]
  simpa [strA] using this
 have e3:IntKind.i64.wrap (day - i3)=day - i3:=i64_in (by omega)
 have F1:=fill_q src ins (max 0 (day - i3)) known price (pl:=[(0,1),(1,1),(2,1),(3,1),(4,66),(70,1),(71,1)]) rfl
 rw [← e3] at F1
 generalize hz:(⟨src,ins,[85,83,68],max 0 (IntKind.i64.wrap (day - i3)),price,known,false⟩:QC)=z at F1
 have zsrc:z.src=src:=by rw [← hz]
 have zins:z.ins=ins:=by rw [← hz]
 have zday:0≤z.day∧(z.day≤day∨z.day=0):=by
  rw [← hz,e3]
  show 0≤max 0 (day - i3)∧(max 0 (day - i3)≤day∨max 0 (day - i3)=0)
  omega
 have zkn:z.known=known:=by rw [← hz]
 have zvo:z.void=false:=by rw [← hz]
 have zpr:z.price=price:=by rw [← hz]
 have zcu:z.cur=[85,83,68]:=by rw [← hz]
 have mem0:([85,83,68]:List UInt8)∈([[85,83,68],[69,85,82],[71,66,80]]:List (List UInt8)):=by decide
 have mem1:([71,66,80]:List UInt8)∈([[85,83,68],[69,85,82],[71,66,80]]:List (List UInt8)):=by decide
 clear hz
 have isq:∀ (cur:List UInt8),cur∈([[85,83,68],[69,85,82],[71,66,80]]:List (List UInt8))→isQuote day known { z with cur:=cur }:=fun cur h=>⟨by rw [zsrc];exact hsm,by rw [zins];exact c2,h,zday,zkn,.inl ⟨zvo,by rw [zpr];exact c4⟩⟩
 have isv:∀ (cur:List UInt8),cur∈([[85,83,68],[69,85,82],[71,66,80]]:List (List UInt8))→isQuote day known { z with cur:=cur,void:=true,price:=zeroQ }:=fun cur h=>⟨by rw [zsrc];exact hsm,by rw [zins];exact c2,h,zday,zkn,.inr ⟨rfl,rfl⟩⟩
 have ZF:=z.fits
 have Z1:=z.g1
 rw [zins] at Z1
 have nu:ins≠usdgbp→((S ins).toList == (S usdgbp).toList)=false:=fun h=>by rw [S_beq];exact decide_eq_false h
 have ne:ins≠eurusd→(!((S ins).toList == (S eurusd).toList))=true:=fun h=>by rw [S_beq,decide_eq_false h];rfl
 have ee:ins=eurusd→(!((S ins).toList == (S eurusd).toList))=false:=fun h=>by rw [S_beq,decide_eq_true h];rfl
 have zself:({ z with cur:=[85,83,68] }:QC)=z:=by rw [← zcu]
 by_cases hg:ins=usdgbp
 ·subst hg
  obtain ⟨rv,k5,av,bv,⟨void,rfl⟩,O5⟩:=chance_g (a:=1) (b:=9) (by decide) zs k4 (by omega)
  cases void
  ·refine ⟨_,k5,by omega,by omega,⟨{ z with cur:=[71,66,80] },rfl,isq _ mem1⟩,fun E v d hE hv=>?_⟩
   refine sx_ownT1 [] tt_ok mixed at35 E hE d (48,2,tb v k,tb v k5) [SV.ptr 1000 0,SV.c (.int .i64 day),SV.c (.int .i64 known)] _ rfl rfl fun w b hT=>?_
   have hv:=hv.of_old hE.symm hT
   have S2:=QC.set2 z [71,66,80]
   have ZG:=({ z with cur:=[71,66,80] }:QC).fits
   generalize QC.A { z with cur:=[71,66,80] }=ZB at *
   generalize z.A=ZA at *
   refine .inr ⟨_,_,_,sources_o _ rfl 7777,trivial,rfl,.inr ⟨_,_,_,O1 _ v 1000 rfl hv,⟨rfl,trivial⟩,rfl,?_⟩⟩
   refine ⟨by omega,by omega,_,g1,.inr ⟨_,_,_,O2 _ v 1000 rfl hv,⟨rfl,trivial⟩,rfl,by decide,by decide,ints [0,0,0,1,2,5],by kernel_rfl,rfl,.inr ⟨_,_,_,O3 _ v 1000 17 (by decide) rfl hv,⟨rfl,rfl,trivial⟩,rfl,_,fun w' _=>run_max_ct _ _ w',.inr ⟨_,_,_,O4 _ v 1000 rfl hv,⟨rfl,trivial⟩,rfl,_,F1,ZF,?_⟩⟩⟩⟩
   exact ⟨by kernel_rfl,_,Z1,fun _=>⟨by decide,rfl,ZB,S2,.inr ⟨_,_,_,O5 _ v 1000 rfl hv,⟨rfl,trivial⟩,rfl,fun h=>absurd h (by decide),fun _=>⟨ZG,rfl,rfl,trivial⟩⟩⟩,fun h=>absurd ((s_self usdgbp).symm.trans h) (by decide)⟩
  ·refine ⟨_,k5,by omega,by omega,⟨{ z with cur:=[71,66,80],void:=true,price:=zeroQ },rfl,isv _ mem1⟩,fun E v d hE hv=>?_⟩
   refine sx_ownT1 [] tt_ok mixed at35 E hE d (48,2,tb v k,tb v k5) [SV.ptr 1000 0,SV.c (.int .i64 day),SV.c (.int .i64 known)] _ rfl rfl fun w b hT=>?_
   have hv:=hv.of_old hE.symm hT
   have S2:=QC.set2 z [71,66,80]
   have ZG:=({ z with cur:=[71,66,80] }:QC).fits
   have S3:=QC.set71 { z with cur:=[71,66,80] } true
   have S4:=QC.setpri { z with cur:=[71,66,80],void:=true } zeroQ
   have ZH:=({ z with cur:=[71,66,80],void:=true,price:=zeroQ }:QC).fits
   generalize QC.A { z with cur:=[71,66,80],void:=true,price:=zeroQ }=ZD at *
   generalize QC.A { z with cur:=[71,66,80],void:=true }=ZC at *
   generalize QC.A { z with cur:=[71,66,80] }=ZB at *
   generalize z.A=ZA at *
   refine .inr ⟨_,_,_,sources_o _ rfl 7777,trivial,rfl,.inr ⟨_,_,_,O1 _ v 1000 rfl hv,⟨rfl,trivial⟩,rfl,?_⟩⟩
   refine ⟨by omega,by omega,_,g1,.inr ⟨_,_,_,O2 _ v 1000 rfl hv,⟨rfl,trivial⟩,rfl,by decide,by decide,ints [0,0,0,1,2,5],by kernel_rfl,rfl,.inr ⟨_,_,_,O3 _ v 1000 17 (by decide) rfl hv,⟨rfl,rfl,trivial⟩,rfl,_,fun w' _=>run_max_ct _ _ w',.inr ⟨_,_,_,O4 _ v 1000 rfl hv,⟨rfl,trivial⟩,rfl,_,F1,ZF,?_⟩⟩⟩⟩
   exact ⟨by kernel_rfl,_,Z1,fun _=>⟨by decide,rfl,ZB,S2,.inr ⟨_,_,_,O5 _ v 1000 rfl hv,⟨rfl,trivial⟩,rfl,fun _=>⟨_,rfl,by decide,rfl,ZC,S3,by decide,zeroQ_fits,ZD,S4,ZH,rfl,rfl,trivial⟩,fun h=>absurd h (by decide)⟩⟩,fun h=>absurd ((s_self usdgbp).symm.trans h) (by decide)⟩
 by_cases he:ins=eurusd
 ·obtain ⟨rv,k5,av,bv,⟨void,rfl⟩,O5⟩:=chance_g (a:=1) (b:=9) (by decide) zs k4 (by omega)
  cases void
  ·refine ⟨_,k5,by omega,by omega,⟨z,rfl,(by have:=isq _ mem0;rw [zself] at this;exact this)⟩,fun E v d hE hv=>?_⟩
   refine sx_ownT1 [] tt_ok mixed at35 E hE d (48,2,tb v k,tb v k5) [SV.ptr 1000 0,SV.c (.int .i64 day),SV.c (.int .i64 known)] _ rfl rfl fun w b hT=>?_
   have hv:=hv.of_old hE.symm hT
   have ZG:=z.fits
   generalize z.A=ZA at *
   refine .inr ⟨_,_,_,sources_o _ rfl 7777,trivial,rfl,.inr ⟨_,_,_,O1 _ v 1000 rfl hv,⟨rfl,trivial⟩,rfl,?_⟩⟩
   refine ⟨by omega,by omega,_,g1,.inr ⟨_,_,_,O2 _ v 1000 rfl hv,⟨rfl,trivial⟩,rfl,by decide,by decide,ints [0,0,0,1,2,5],by kernel_rfl,rfl,.inr ⟨_,_,_,O3 _ v 1000 17 (by decide) rfl hv,⟨rfl,rfl,trivial⟩,rfl,_,fun w' _=>run_max_ct _ _ w',.inr ⟨_,_,_,O4 _ v 1000 rfl hv,⟨rfl,trivial⟩,rfl,_,F1,ZF,?_⟩⟩⟩⟩
   exact ⟨by kernel_rfl,_,Z1,fun h=>absurd ((nu hg).symm.trans h) (by decide),fun _=>⟨_,Z1,fun h=>absurd ((ee he).symm.trans h) (by decide),fun _=>⟨fun h=>absurd h (by decide),fun _=>.inr ⟨_,_,_,O5 _ v 1000 rfl hv,⟨rfl,trivial⟩,rfl,fun h=>absurd h (by decide),fun _=>⟨ZG,rfl,rfl,trivial⟩⟩⟩⟩⟩
  ·refine ⟨_,k5,by omega,by omega,⟨{ z with void:=true,price:=zeroQ },rfl,(by have:=isv _ mem0;rw [show ({ z with cur:=[85,83,68],void:=true,price:=zeroQ }:QC)={ z with void:=true,price:=zeroQ } by rw [← zcu]] at this;exact this)⟩,fun E v d hE hv=>?_⟩
   refine sx_ownT1 [] tt_ok mixed at35 E hE d (48,2,tb v k,tb v k5) [SV.ptr 1000 0,SV.c (.int .i64 day),SV.c (.int .i64 known)] _ rfl rfl fun w b hT=>?_
   have hv:=hv.of_old hE.symm hT
   have ZG:=z.fits
   have S3:=QC.set71 z true
   have S4:=QC.setpri { z with void:=true } zeroQ
   have ZH:=({ z with void:=true,price:=zeroQ }:QC).fits
   generalize QC.A { z with void:=true,price:=zeroQ }=ZD at *
   generalize QC.A { z with void:=true }=ZC at *
   generalize z.A=ZA at *
   refine .inr ⟨_,_,_,sources_o _ rfl 7777,trivial,rfl,.inr ⟨_,_,_,O1 _ v 1000 rfl hv,⟨rfl,trivial⟩,rfl,?_⟩⟩
   refine ⟨by omega,by omega,_,g1,.inr ⟨_,_,_,O2 _ v 1000 rfl hv,⟨rfl,trivial⟩,rfl,by decide,by decide,ints [0,0,0,1,2,5],by kernel_rfl,rfl,.inr ⟨_,_,_,O3 _ v 1000 17 (by decide) rfl hv,⟨rfl,rfl,trivial⟩,rfl,_,fun w' _=>run_max_ct _ _ w',.inr ⟨_,_,_,O4 _ v 1000 rfl hv,⟨rfl,trivial⟩,rfl,_,F1,ZF,?_⟩⟩⟩⟩
   exact ⟨by kernel_rfl,_,Z1,fun h=>absurd ((nu hg).symm.trans h) (by decide),fun _=>⟨_,Z1,fun h=>absurd ((ee he).symm.trans h) (by decide),fun _=>⟨fun h=>absurd h (by decide),fun _=>.inr ⟨_,_,_,O5 _ v 1000 rfl hv,⟨rfl,trivial⟩,rfl,fun _=>⟨_,rfl,by decide,rfl,ZC,S3,by decide,zeroQ_fits,ZD,S4,ZH,rfl,rfl,trivial⟩,fun h=>absurd h (by decide)⟩⟩⟩⟩
 obtain ⟨r5,k5,a5,b5,⟨ch,rfl⟩,O5⟩:=chance_g (a:=1) (b:=4) (by decide) zs k4 (by omega)
 cases ch
 ·obtain ⟨rv,k6,av,bv,⟨void,rfl⟩,O7⟩:=chance_g (a:=1) (b:=9) (by decide) zs k5 (by omega)
  cases void
  ·refine ⟨_,k6,by omega,by omega,⟨z,rfl,(by have:=isq _ mem0;rw [zself] at this;exact this)⟩,fun E v d hE hv=>?_⟩
   refine sx_ownT1 [] tt_ok mixed at35 E hE d (48,2,tb v k,tb v k6) [SV.ptr 1000 0,SV.c (.int .i64 day),SV.c (.int .i64 known)] _ rfl rfl fun w b hT=>?_
   have hv:=hv.of_old hE.symm hT
   have ZG:=z.fits
   generalize z.A=ZA at *
   refine .inr ⟨_,_,_,sources_o _ rfl 7777,trivial,rfl,.inr ⟨_,_,_,O1 _ v 1000 rfl hv,⟨rfl,trivial⟩,rfl,?_⟩⟩
   refine ⟨by omega,by omega,_,g1,.inr ⟨_,_,_,O2 _ v 1000 rfl hv,⟨rfl,trivial⟩,rfl,by decide,by decide,ints [0,0,0,1,2,5],by kernel_rfl,rfl,.inr ⟨_,_,_,O3 _ v 1000 17 (by decide) rfl hv,⟨rfl,rfl,trivial⟩,rfl,_,fun w' _=>run_max_ct _ _ w',.inr ⟨_,_,_,O4 _ v 1000 rfl hv,⟨rfl,trivial⟩,rfl,_,F1,ZF,?_⟩⟩⟩⟩
   exact ⟨by kernel_rfl,_,Z1,fun h=>absurd ((nu hg).symm.trans h) (by decide),fun _=>⟨_,Z1,fun _=>.inr ⟨_,_,_,O5 _ v 1000 rfl hv,⟨rfl,trivial⟩,rfl,fun h=>absurd h (by decide),fun _=>.inr ⟨_,_,_,O7 _ v 1000 rfl hv,⟨rfl,trivial⟩,rfl,fun h=>absurd h (by decide),fun _=>⟨ZG,rfl,rfl,trivial⟩⟩⟩,fun h=>absurd ((ne he).symm.trans h) (by decide)⟩⟩
  ·refine ⟨_,k6,by omega,by omega,⟨{ z with void:=true,price:=zeroQ },rfl,(by have:=isv _ mem0;rw [show ({ z with cur:=[85,83,68],void:=true,price:=zeroQ }:QC)={ z with void:=true,price:=zeroQ } by rw [← zcu]] at this;exact this)⟩,fun E v d hE hv=>?_⟩
   refine sx_ownT1 [] tt_ok mixed at35 E hE d (48,2,tb v k,tb v k6) [SV.ptr 1000 0,SV.c (.int .i64 day),SV.c (.int .i64 known)] _ rfl rfl fun w b hT=>?_
   have hv:=hv.of_old hE.symm hT
   have ZG:=z.fits
   have S3:=QC.set71 z true
   have S4:=QC.setpri { z with void:=true } zeroQ
   have ZH:=({ z with void:=true,price:=zeroQ }:QC).fits
   generalize QC.A { z with void:=true,price:=zeroQ }=ZD at *
   generalize QC.A { z with void:=true }=ZC at *
   generalize z.A=ZA at *
   refine .inr ⟨_,_,_,sources_o _ rfl 7777,trivial,rfl,.inr ⟨_,_,_,O1 _ v 1000 rfl hv,⟨rfl,trivial⟩,rfl,?_⟩⟩
   refine ⟨by omega,by omega,_,g1,.inr ⟨_,_,_,O2 _ v 1000 rfl hv,⟨rfl,trivial⟩,rfl,by decide,by decide,ints [0,0,0,1,2,5],by kernel_rfl,rfl,.inr ⟨_,_,_,O3 _ v 1000 17 (by decide) rfl hv,⟨rfl,rfl,trivial⟩,rfl,_,fun w' _=>run_max_ct _ _ w',.inr ⟨_,_,_,O4 _ v 1000 rfl hv,⟨rfl,trivial⟩,rfl,_,F1,ZF,?_⟩⟩⟩⟩
   exact ⟨by kernel_rfl,_,Z1,fun h=>absurd ((nu hg).symm.trans h) (by decide),fun _=>⟨_,Z1,fun _=>.inr ⟨_,_,_,O5 _ v 1000 rfl hv,⟨rfl,trivial⟩,rfl,fun h=>absurd h (by decide),fun _=>.inr ⟨_,_,_,O7 _ v 1000 rfl hv,⟨rfl,trivial⟩,rfl,fun _=>⟨_,rfl,by decide,rfl,ZC,S3,by decide,zeroQ_fits,ZD,S4,ZH,rfl,rfl,trivial⟩,fun h=>absurd h (by decide)⟩⟩,fun h=>absurd ((ne he).symm.trans h) (by decide)⟩⟩
 ·obtain ⟨r6,k6,a6,b6,⟨cur,rfl,c6⟩,O6⟩:=code_c zs k5 (by omega)
  obtain ⟨rv,k7,av,bv,⟨void,rfl⟩,O7⟩:=chance_g (a:=1) (b:=9) (by decide) zs k6 (by omega)
  cases void
  ·refine ⟨_,k7,by omega,by omega,⟨{ z with cur:=cur },rfl,isq _ c6⟩,fun E v d hE hv=>?_⟩
   refine sx_ownT1 [] tt_ok mixed at35 E hE d (48,2,tb v k,tb v k7) [SV.ptr 1000 0,SV.c (.int .i64 day),SV.c (.int .i64 known)] _ rfl rfl fun w b hT=>?_
   have hv:=hv.of_old hE.symm hT
   have S2:=QC.set2 z cur
   have ZG:=({ z with cur:=cur }:QC).fits
   generalize QC.A { z with cur:=cur }=ZB at *
   generalize z.A=ZA at *
   refine .inr ⟨_,_,_,sources_o _ rfl 7777,trivial,rfl,.inr ⟨_,_,_,O1 _ v 1000 rfl hv,⟨rfl,trivial⟩,rfl,?_⟩⟩
   refine ⟨by omega,by omega,_,g1,.inr ⟨_,_,_,O2 _ v 1000 rfl hv,⟨rfl,trivial⟩,rfl,by decide,by decide,ints [0,0,0,1,2,5],by kernel_rfl,rfl,.inr ⟨_,_,_,O3 _ v 1000 17 (by decide) rfl hv,⟨rfl,rfl,trivial⟩,rfl,_,fun w' _=>run_max_ct _ _ w',.inr ⟨_,_,_,O4 _ v 1000 rfl hv,⟨rfl,trivial⟩,rfl,_,F1,ZF,?_⟩⟩⟩⟩
   exact ⟨by kernel_rfl,_,Z1,fun h=>absurd ((nu hg).symm.trans h) (by decide),fun _=>⟨_,Z1,fun _=>.inr ⟨_,_,_,O5 _ v 1000 rfl hv,⟨rfl,trivial⟩,rfl,fun _=>.inr ⟨_,_,_,O6 _ v 1000 rfl hv,⟨rfl,trivial⟩,rfl,by decide,rfl,ZB,S2,.inr ⟨_,_,_,O7 _ v 1000 rfl hv,⟨rfl,trivial⟩,rfl,fun h=>absurd h (by decide),fun _=>⟨ZG,rfl,rfl,trivial⟩⟩⟩,fun h=>absurd h (by decide)⟩,fun h=>absurd ((ne he).symm.trans h) (by decide)⟩⟩
  ·refine ⟨_,k7,by omega,by omega,⟨{ z with cur:=cur,void:=true,price:=zeroQ },rfl,isv _ c6⟩,fun E v d hE hv=>?_⟩
   refine sx_ownT1 [] tt_ok mixed at35 E hE d (48,2,tb v k,tb v k7) [SV.ptr 1000 0,SV.c (.int .i64 day),SV.c (.int .i64 known)] _ rfl rfl fun w b hT=>?_
   have hv:=hv.of_old hE.symm hT
   have S2:=QC.set2 z cur
   have ZG:=({ z with cur:=cur }:QC).fits
   have S3:=QC.set71 { z with cur:=cur } true
   have S4:=QC.setpri { z with cur:=cur,void:=true } zeroQ
   have ZH:=({ z with cur:=cur,void:=true,price:=zeroQ }:QC).fits
   generalize QC.A { z with cur:=cur,void:=true,price:=zeroQ }=ZD at *
   generalize QC.A { z with cur:=cur,void:=true }=ZC at *
   generalize QC.A { z with cur:=cur }=ZB at *
   generalize z.A=ZA at *
   refine .inr ⟨_,_,_,sources_o _ rfl 7777,trivial,rfl,.inr ⟨_,_,_,O1 _ v 1000 rfl hv,⟨rfl,trivial⟩,rfl,?_⟩⟩
   refine ⟨by omega,by omega,_,g1,.inr ⟨_,_,_,O2 _ v 1000 rfl hv,⟨rfl,trivial⟩,rfl,by decide,by decide,ints [0,0,0,1,2,5],by kernel_rfl,rfl,.inr ⟨_,_,_,O3 _ v 1000 17 (by decide) rfl hv,⟨rfl,rfl,trivial⟩,rfl,_,fun w' _=>run_max_ct _ _ w',.inr ⟨_,_,_,O4 _ v 1000 rfl hv,⟨rfl,trivial⟩,rfl,_,F1,ZF,?_⟩⟩⟩⟩
   exact ⟨by kernel_rfl,_,Z1,fun h=>absurd ((nu hg).symm.trans h) (by decide),fun _=>⟨_,Z1,fun _=>.inr ⟨_,_,_,O5 _ v 1000 rfl hv,⟨rfl,trivial⟩,rfl,fun _=>.inr ⟨_,_,_,O6 _ v 1000 rfl hv,⟨rfl,trivial⟩,rfl,by decide,rfl,ZB,S2,.inr ⟨_,_,_,O7 _ v 1000 rfl hv,⟨rfl,trivial⟩,rfl,fun _=>⟨_,rfl,by decide,rfl,ZC,S3,by decide,zeroQ_fits,ZD,S4,ZH,rfl,rfl,trivial⟩,fun h=>absurd h (by decide)⟩⟩,fun h=>absurd h (by decide)⟩,fun h=>absurd ((ne he).symm.trans h) (by decide)⟩⟩
def madeQ (day:Int) (a:QC):Prop:=∃ dd kn:Int,isQuote dd kn a∧0≤dd∧dd≤73048∧dd≤day+1
structure IsBook (day last:Int) (xs:List QC):Prop where
 each:∀ a∈xs,madeQ day a
 up:xs.Pairwise (fun a b=>a.known < b.known)
 bd:∀ a∈xs,1≤a.known∧a.known≤last
theorem IsBook.snoc {day last kn dd:Int} {xs:List QC} {y:QC} (h:IsBook day last xs) (hl:0≤last) (hk:last < kn) (hy:isQuote dd kn y) (h1:0≤dd) (h2:dd≤73048) (h3:dd≤day+1):IsBook day kn (xs++[y]):=by
 have hyk:y.known=kn:=hy.2.2.2.2.1
 refine ⟨fun a ha=>?_,?_,fun a ha=>?_⟩
 ·rcases List.mem_append.1 ha with h4 | h4
  ·exact h.each a h4
  ·have:a=y:=by simpa using h4
   rw [this];exact ⟨dd,kn,hy,h1,h2,h3⟩
 ·rw [List.pairwise_append]
  refine ⟨h.up,by simp,fun a ha b hb=>?_⟩
  have:b=y:=by simpa using hb
  rw [this,hyk]
  have:=(h.bd a ha).2
  omega
 ·rcases List.mem_append.1 ha with h4 | h4
  ·have:=h.bd a h4
   omega
  ·have:a=y:=by simpa using h4
   rw [this,hyk];omega
theorem madeQ_in {day:Int} {a:QC} (h:madeQ day a):a.In:=by
 obtain ⟨dd,kn,⟨h1,h2,h3,h4,h5,h6⟩,d1,d2,d3⟩:=h
 refine ⟨?_,?_,?_,?_,by omega⟩
 ·rcases h6 with ⟨-,h6⟩ | ⟨-,h6⟩
  ·exact h6.in_
  ·rw [h6];exact zeroQ_in
 ·simp [src4] at h1;rcases h1 with h | h | h | h<;>rw [h]<;>decide
 ·simp [papers] at h2;rcases h2 with h | h | h | h | h | h<;>rw [h]<;>decide
 ·simp at h3;rcases h3 with h | h | h<;>rw [h]<;>decide
def QuoQ (n:Nat) (k:Nat) (day:Int) (v:Value) (x:Value) (U:MemL):Prop:=∃ (xs:List QC) (k':Nat) (last:Int),k≤k'∧k'≤k+30*n∧IsL x n∧xs.length=n∧IsBook day last xs∧last≤6*(n:Int)∧(n=0→x=.slice none 0 0)∧U=[(1000,Blk.row 48 2 (tb v k')),(3000,Blk.own x 40 72 n (cat QC.A xs))]
theorem quotes_z {E:Env} (hE:E.P=Tryz.prog) {v:Value} {zs:List Int} (hv:Tp E v zs) {n k:Nat} (hn:n≤1000) (hk:k+30*n≤4000000000000000000) {day:Int} (hday:0≤day∧day≤73048):OwnC E 19 [SV.ptr 1000 0,SV.c (.int .i64 (n:Nat)),SV.c (.int .i64 day)] [(1000,Blk.row 48 2 (tb v k))] (QuoQ n k day v):=by
 refine sx_ownC [] tt_ok mixed at19 E hE [SV.ptr 1000 0,SV.c (.int .i64 (n:Nat)),SV.c (.int .i64 day)] [(1000,Blk.row 48 2 (tb v k))] _ rfl rfl fun w X β hT=>?_
 have hv':Tp (envC Tryz.prog tt Tryz.f19.ntmps w X (tiedK [(1000,Blk.row 48 2 (tb v k))] β)).toEnv v zs:=hv.of_old hE.symm hT
 refine ⟨fun q f m=>∃ (i k2:Nat) (xs:List QC) (x:Value) (known:Int),q=n - i∧i≤n∧k≤k2∧k2≤k+30*i∧IsL x i∧xs.length=i∧IsBook day known xs∧0≤known∧known≤6*(i:Int)∧(i=0→x=.slice none 0 0)∧f=[(0,SV.ptr 1000 0),(1,SV.c (.int .i64 (n:Nat))),(2,SV.c (.int .i64 day)),(7,SV.c x),(8,SV.c (.int .i64 known)),(9,SV.c (.int .i64 (i:Nat)))]∧m=[(1000,Blk.row 48 2 (tb v k2)),(3000,Blk.own x 40 72 i (cat QC.A xs))],n,⟨_,_,⟨0,k,[],.slice none 0 0,0,by omega,by omega,by omega,by omega,.nil,rfl,⟨fun a h=>by simp at h,by simp,fun a h=>by simp at h⟩,by omega,by omega,fun _=>rfl,rfl,rfl⟩,⟨rfl,rfl,rfl,rfl,rfl,rfl,trivial⟩,⟨rfl,.inr ⟨rfl,rfl,rfl⟩,trivial⟩,rfl⟩,?_⟩
 rintro q f m ⟨i,k2,xs,x,known,rfl,hi,hk1,hk2,hx,hxs,hin,hkn0,hkn,hx0,rfl,rfl⟩
 refine ⟨fun h=>?_,fun h=>?_⟩
 ·have h:i < n:=by have:=of_decide_eq_true h;omega
  obtain ⟨r3,k3,a3,b3,⟨i3,rfl,c3⟩,O3⟩:=pick_g (xs:=[0,0,1,5]) (by decide) (by decide) zs k2 (by omega)
  obtain ⟨r5,k5,a5,b5,⟨i5,rfl,c5⟩,O5⟩:=pick_g (xs:=[0,0,0,1]) (by decide) (by decide) zs k3 (by omega)
  have h3:0≤i3∧i3≤5:=by simp at c3;omega
  have h5:0≤i5∧i5≤1:=by simp at c5;omega
  have e5:IntKind.i64.wrap (day+i5)=day+i5:=i64_in (by omega)
  have e3:IntKind.i64.wrap (known+IntKind.i64.wrap (1+i3))=known+(1+i3):=by rw [i64_in (show -9223372036854775808≤1+i3∧1+i3≤9223372036854775807 by omega),i64_in (by omega)]
  obtain ⟨r4,k4,a4,b4,⟨y,rfl,c4⟩,O4⟩:=quote_g (day:=min 73048 (day+i5)) (known:=known+(1+i3)) (by omega) zs k5 (by omega)
  have hb2:=hin.snoc hkn0 (show known < known+(1+i3) by omega) c4 (by omega) (by omega) (by omega)
  rw [← e5,← e3] at O4
  refine .inl ⟨by decide,by decide,ints [0,0,1,5],by kernel_rfl,rfl,.inr (.inl ⟨_,_,_,O3 _ v 1000 17 (by decide) rfl hv',⟨rfl,rfl,trivial⟩,rfl,?_⟩)⟩
  refine .inl ⟨by decide,by decide,ints [0,0,0,1],by kernel_rfl,rfl,.inr (.inl ⟨_,_,_,O5 _ v 1000 25 (by decide) rfl hv',⟨rfl,rfl,trivial⟩,rfl,_,fun w' _=>run_min_ct _ _ w',?_⟩)⟩
  have F1:=fill_quo1 y
  have F2:=y.fits.one
  have F3:=y.ext72
  have F4:y.A.size=1*72:=y.size
  have F5:cat QC.A xs++y.A=cat QC.A (xs++[y]):=cat_snoc xs y
  generalize hY:y.A=YA at *
  refine .inr (.inl ⟨_,_,_,O4 _ v 1000 rfl hv',⟨rfl,trivial⟩,rfl,.inl ⟨by decide,by decide,_,F1,F4,by decide,3000,i,_,.inl rfl,by decide,F2,F4,_,F3,?_⟩⟩)
  obtain ⟨q,hq,hb⟩:=info_quo
  refine ⟨by omega,by unfold maxLen;omega,⟨q,hq,by rw [hb];omega⟩,trivial,fun g2 cap2=>?_⟩
  exact ⟨n - (i+1),_,_,by omega,⟨i+1,k4,xs++[y],_,known+(1+i3),rfl,by omega,by omega,by omega,.some,by simp [hxs],hb2,by omega,by omega,fun h=>absurd h (by omega),rfl,rfl⟩,⟨rfl,rfl,rfl,rfl,c_int e3,c_int (i64_succ (by omega)),trivial⟩,⟨rfl,.inl (own_eq F5),trivial⟩,rfl⟩
 ·have h:i=n:=by have:=of_decide_eq_false h;omega
  subst h
  exact ⟨[(1000,Blk.row 48 2 (tb v k2)),(3000,Blk.own x 40 72 i (cat QC.A xs))],[],⟨xs,k2,known,by omega,by omega,hx,hxs,hin,hkn,hx0,rfl⟩,⟨rfl,.inl rfl,trivial⟩,rfl⟩
def pctOk (r:RQ):Prop:=r.In∧pctB r=true∧betQ r 0 1=true
theorem mk_pct {n d:Int} (h0:0≤n) (h1:n≤d) (d1:1≤d) (d2:d ∣ 100000000):pctOk (mkQ n d).1:=by
 have hd8:d≤100000000:=Int.le_of_dvd (by decide) d2
 have bn:Bd 60 n:=bd60 (by omega) (by omega)
 have bd:Bd 60 d:=bd60 (by omega) (by omega)
 have b100:Bd 60 100:=bd60 (by decide) (by decide)
 have b1:Bd 60 (1:Int):=bd60 (by decide) (by decide)
 refine ⟨mkQ_in _ _,?_,?_⟩
 ·obtain ⟨r,e1,e2,e3,e4,e5⟩:=mkQ_v (show 0 < d by omega) bn bd
  obtain ⟨-,-,q1,-,-⟩:=RQ.ok_bits e2
  have hm:mulQ (mkQ n d).1 (.of 100 1)=mkQ (n*100) (d*1):=by
   rw [of_mk b100]
   exact mulQ_mk (by omega) (by decide) bn bd b100 b1
  rw [Int.mul_one] at hm
  have bx:Bd 120 (n*100):=bn.mul b100
  obtain ⟨s,f1,f2,f3,f4,f5⟩:=mkQ_v (show 0 < d by omega) bx bd
  obtain ⟨-,-,s1,-,-⟩:=RQ.ok_bits f2
  rw [e1] at hm ⊢
  have hp0:0≤r.p:=by
   have:0≤r.p*d:=by rw [e3];exact Int.mul_nonneg h0 (by omega)
   exact Int.nonneg_of_mul_nonneg_left this (by omega)
  obtain ⟨m,hm8⟩:=d2
  have hz:s.p*1000000=(n*m)*s.q:=by
   have x1:s.p*1000000*100=(n*m)*s.q*100:=by
    calc s.p*1000000*100=s.p*100000000:=by rw [Int.mul_assoc];rfl
     _=s.p*(d*m):=by rw [hm8]
     _=s.p*d*m:=by rw [Int.mul_assoc]
     _=n*100*s.q*m:=by rw [f3]
     _=(n*m)*s.q*100:=by ac_rfl
   exact Int.eq_of_mul_eq_mul_right (by decide) x1
  have hnm:0≤n*m∧n*m≤100000000:=by
   have hm0:0≤m:=by
    rcases Int.lt_or_le m 0 with h | h
    ·have:=Int.mul_neg_of_pos_of_neg (show 0 < d by omega) h
     omega
    ·exact h
   refine ⟨Int.mul_nonneg h0 hm0,?_⟩
   have:=Int.mul_le_mul_of_nonneg_right h1 hm0
   omega
  have ht:((tp (6:Int).toNat:Nat):Int)=1000000:=rfl
  have hdiv:(n*m)*s.q / s.q=n*m:=Int.mul_ediv_cancel _ (by omega)
  have hlen:¬ 15 < (padZ 6 (fmtN (n*m).natAbs)).length - 6:=by
   have h9:=fmtN_len (k:=9) (N:=(n*m).natAbs) (by decide) (by omega)
   unfold padZ
   split
   ·rename_i h
    simp only [List.length_append,List.length_replicate]
    omega
   ·omega
  unfold pctB pctZ
  rw [hm,f1,e2]
  unfold txtQ
  rw [f2,ht,hz,hdiv]
  have ez:(txtZ (n*m) 6).2=0:=by
   unfold txtZ
   simp only []
   rw [if_neg hlen]
  simp [Int.not_lt.2 hp0]
  rw [if_pos ez]
 ·obtain ⟨r,e1,e2,e3,e4,e5⟩:=mkQ_v (show 0 < d by omega) bn bd
  obtain ⟨-,-,q1,-,-⟩:=RQ.ok_bits e2
  rw [e1]
  have hp0:0≤r.p:=by
   have:0≤r.p*d:=by rw [e3];exact Int.mul_nonneg h0 (by omega)
   exact Int.nonneg_of_mul_nonneg_left this (by omega)
  have hp1:r.p≤r.q:=by
   have:r.p*d≤r.q*d:=by rw [e3,Int.mul_comm];exact Int.mul_le_mul_of_nonneg_left h1 (by omega)
   exact Int.le_of_mul_le_mul_right this (by omega)
  unfold betQ
  rw [e2]
  simp
  omega
def srcsAt (a i:Nat):List (List UInt8):=(List.range i).map fun j=>src4.getD ((a+j) % 4) []
theorem srcsAt_len (a i:Nat):(srcsAt a i).length=i:=by simp [srcsAt]
theorem srcsAt_succ (a i:Nat):srcsAt a (i+1)=srcsAt a i++[src4.getD ((a+i) % 4) []]:=by simp [srcsAt,List.range_succ]
theorem srcsAt_mem {a i:Nat} {s:List UInt8} (h:s∈srcsAt a i):s∈src4:=by
 unfold srcsAt at h
 rw [List.mem_map] at h
 obtain ⟨j,-,rfl⟩:=h
 have hj:(a+j) % 4 < 4:=Nat.mod_lt _ (by decide)
 generalize (a+j) % 4=k at *
 rcases k with _ | _ | _ | _ | k
 ·decide
 ·decide
 ·decide
 ·decide
 ·omega
theorem polOk_of {p:PL} (h1:0 < p.srcs.length) (h2:p.srcs.length≤8) (h3:namesB p.srcs=true) (h4:pctOk p.tol) (h5:0≤p.stale∧p.stale≤30):polOk p=true:=by
 unfold polOk
 rw [decide_eq_true h1,decide_eq_true h2,h3,h4.2.1,h4.2.2,decide_eq_true h5.1,decide_eq_true h5.2];rfl
theorem srcsAt_ok {a i:Nat} (ha:a < 4) (h1:1≤i) (h4:i≤4):namesB (srcsAt a i)=true:=by
 have ha:a=0∨a=1∨a=2∨a=3:=by omega
 have hi:i=1∨i=2∨i=3∨i=4:=by omega
 clear h1 h4
 rcases ha with h | h | h | h<;>rcases hi with h' | h' | h' | h'<;>rw [h,h']<;>decide
theorem pickratio4_m {a b c d':RQ}:GenL 26 29 (rats [a,b,c,d']) 264 4 1 (RA (·∈[a,b,c,d'])):=by
 intro zs k hk
 obtain ⟨r,k',h4,h5,⟨i,rfl,h6,h7⟩,hO⟩:=next_g (n:=4) (by decide) zs k hk
 have hi:i.toNat < [a,b,c,d'].length:=by show i.toNat < 4;omega
 refine ⟨_,k',h4,h5,⟨[a,b,c,d'][i.toNat],rfl,List.getElem_mem hi⟩,fun E v d e hde hE hv=>?_⟩
 refine sx_ownT2 [] tt_ok mixed at26 E hE d e hde (48,2,tb v k,tb v k') (29,264,rats [a,b,c,d'],rats [a,b,c,d']) [SV.ptr 1000 0,SV.sl 1001 0 4 4] _ rfl rfl fun w b b' hT=>?_
 have:=hO _ v 1000 rfl (hv.of_old hE.symm hT)
 have hoff:0+i.toNat*66+66≤264:=by omega
 exact ⟨nofun,fun _=>.inr ⟨_,_,_,this,⟨rfl,trivial⟩,rfl,h6,by show i < 4;omega,hoff,_,rats_get hi,RQ.A_fits _,rfl,rfl,rfl,trivial⟩⟩
theorem percent_g:Gen 58 [] 5 (RA pctOk):=by
 intro zs k hk
 obtain ⟨r1,k1,a1,b1,⟨i1,rfl,c1⟩,O1⟩:=pick_g (xs:=[1,4,10,20,100,200,1000,10000,100000000]) (by decide) (by decide) zs k (by omega)
 have h1:1≤i1∧i1≤100000000:=by simp at c1;omega
 have h8:i1 ∣ 100000000:=by simp at c1;rcases c1 with h | h | h | h | h | h | h | h | h<;>rw [h]<;>decide
 obtain ⟨r2,k2,a2,b2,⟨ch,rfl⟩,O2⟩:=chance_g (a:=3) (b:=4) (by decide) zs k1 (by omega)
 cases ch
 ·obtain ⟨r3,k3,a3,b3,⟨i3,rfl,c3⟩,O3⟩:=next_g (n:=i1+1) (by omega) zs k2 (by omega)
  have M:=made_of (n:=i3) (d:=i1) (by omega) (by omega) (by omega) (by omega)
  refine ⟨_,k3,by omega,by omega,⟨_,rfl,mk_pct (n:=i3) (d:=i1) (by omega) (by omega) (by omega) h8⟩,fun E v d hE hv=>?_⟩
  refine sx_ownT1 [] tt_ok mixed at58 E hE d (48,2,tb v k,tb v k3) [SV.ptr 1000 0] _ rfl rfl fun w b hT=>?_
  have hv:=hv.of_old hE.symm hT
  have O:=O3 _ v 1000 rfl hv
  rw [show i1+1=IntKind.i64.wrap (i1+1) from (i64_in (by omega)).symm] at O
  have RF:=(mkQ i3 i1).1.A_fits
  generalize (mkQ i3 i1).1.A=RA' at *
  exact ⟨by decide,by decide,ints [1,4,10,20,100,200,1000,10000,100000000],by kernel_rfl,rfl,.inr ⟨_,_,_,O1 _ v 1000 5 (by decide) rfl hv,⟨rfl,rfl,trivial⟩,rfl,.inr ⟨_,_,_,O2 _ v 1000 rfl hv,⟨rfl,trivial⟩,rfl,fun h=>absurd h (by decide),fun _=>.inr ⟨_,_,_,O,⟨rfl,trivial⟩,rfl,.inl ⟨_,M,RF,rfl,rfl,trivial⟩⟩⟩⟩⟩
 ·obtain ⟨r4,k4,a4,b4,⟨i4,rfl,c4⟩,O4⟩:=pick_g (xs:=[50,100,200,1000]) (by decide) (by decide) zs k2 (by omega)
  have h4:50≤i4∧i4≤1000:=by simp at c4;omega
  have h8:i4 ∣ 100000000:=by simp at c4;rcases c4 with h | h | h | h<;>rw [h]<;>decide
  have hq:i4.tdiv 10=i4 / 10:=Int.tdiv_eq_ediv_of_nonneg (by omega)
  obtain ⟨r3,k3,a3,b3,⟨i3,rfl,c3⟩,O3⟩:=next_g (n:=i4 / 10+1) (by omega) zs k4 (by omega)
  have M:=made_of (n:=i3) (d:=i4) (by omega) (by omega) (by omega) (by omega)
  refine ⟨_,k3,by omega,by omega,⟨_,rfl,mk_pct (n:=i3) (d:=i4) (by omega) (by omega) (by omega) h8⟩,fun E v d hE hv=>?_⟩
  refine sx_ownT1 [] tt_ok mixed at58 E hE d (48,2,tb v k,tb v k3) [SV.ptr 1000 0] _ rfl rfl fun w b hT=>?_
  have hv:=hv.of_old hE.symm hT
  have O:=O3 _ v 1000 rfl hv
  rw [show i4 / 10+1=IntKind.i64.wrap (IntKind.i64.wrap (i4.tdiv 10)+1) by rw [hq,i64_in (show -9223372036854775808≤i4 / 10∧i4 / 10≤9223372036854775807 by omega),i64_in (by omega)]] at O
  have RF:=(mkQ i3 i4).1.A_fits
  generalize (mkQ i3 i4).1.A=RA' at *
  exact ⟨by decide,by decide,ints [1,4,10,20,100,200,1000,10000,100000000],by kernel_rfl,rfl,.inr ⟨_,_,_,O1 _ v 1000 5 (by decide) rfl hv,⟨rfl,rfl,trivial⟩,rfl,.inr ⟨_,_,_,O2 _ v 1000 rfl hv,⟨rfl,trivial⟩,rfl,fun _=>⟨by decide,by decide,ints [50,100,200,1000],by kernel_rfl,rfl,.inr ⟨_,_,_,O4 _ v 1000 10 (by decide) rfl hv,⟨rfl,rfl,trivial⟩,rfl,by decide,.inr ⟨_,_,_,O,⟨rfl,trivial⟩,rfl,.inl ⟨_,M,RF,rfl,rfl,trivial⟩⟩⟩⟩,fun h=>absurd h (by decide)⟩⟩⟩
theorem fill_rats4 (a b c d':RQ):Instr.fill (fun k=>some (k*ti29.size,ti29.size)) (madeCells ti29.zero (4*ti29.size)) [(0,.agg a.A),(1,.agg b.A),(2,.agg c.A),(3,.agg d'.A)]=some (rats [a,b,c,d']):=by
 have hs:(madeCells ti29.zero (4*ti29.size)).size=264:=by kernel_rfl
 have:=fill_all (pl:=fun k=>some (k*ti29.size,ti29.size)) (vs:=[.agg a.A,.agg b.A,.agg c.A,.agg d'.A]) (Z:=madeCells ti29.zero (4*ti29.size)) ⟨by simp [Value.cells,RQ.A_size];rfl,by simp [Value.cells,RQ.A_size];rfl,by simp [Value.cells,RQ.A_size];exact ⟨rfl,rfl⟩,by simp [Value.cells,RQ.A_size];exact ⟨rfl,rfl⟩,trivial⟩ (by rw [hs];simp [catV,Value.cells,RQ.A_size])
 rw [show catV [.agg a.A,.agg b.A,.agg c.A,.agg d'.A]=rats [a,b,c,d'] by simp [catV,rats,Value.cells]] at this
 exact this
theorem fill_pol0 (r:RQ) (n:Int) {pl:List (Nat×Nat)} (hpl:pl=[(0,1),(1,66),(67,1)]):Instr.fill (fun k=>pl[k]?) ti31.zero [(1,.agg r.A),(2,.int .i64 n)]=some (PL.A ⟨[],r,n⟩ (.slice none 0 0)):=by
 subst hpl
 kernel_rfl
theorem PL.set0 (p:PL) (v u:Value):(p.A v).setIfInBounds (0+0) u=p.A u:=by kernel_rfl
theorem polZ:PL.A ⟨[],RQ.of 0 0,0⟩ (.slice none 0 0)=ti31.zero:=by kernel_rfl
def PolQ (k:Nat) (v:Value) (x:Value) (U:MemL):Prop:=∃ (p:PL) (y:Value) (n k':Nat),k≤k'∧k'≤k+20∧p.In∧polOk p=true∧(∀ y∈p.srcs,y∈src4)∧IsL y n∧n=p.srcs.length∧1≤n∧n≤4∧x=.agg (p.A y)∧U=[(1000,Blk.row 48 2 (tb v k')),(9101,Blk.own y 9 1 n (cat strA p.srcs))]
theorem policy_z {E:Env} (hE:E.P=Tryz.prog) {v:Value} {zs:List Int} (hv:Tp E v zs) {k:Nat} (hk:k+20≤4000000000000000000):OwnC E 21 [SV.ptr 1000 0] [(1000,Blk.row 48 2 (tb v k))] (PolQ k v):=by
 refine sx_ownC [] tt_ok mixed at21 E hE [SV.ptr 1000 0] [(1000,Blk.row 48 2 (tb v k))] _ rfl rfl fun w X β hT=>?_
 have hv':Tp (envC Tryz.prog tt Tryz.f21.ntmps w X (tiedK [(1000,Blk.row 48 2 (tb v k))] β)).toEnv v zs:=hv.of_old hE.symm hT
 obtain ⟨r1,k1,a1,b1,⟨pc,rfl,c1⟩,O1⟩:=percent_g zs k (by omega)
 have M1:=made_of (n:=0) (d:=1) (by decide) (by decide) (by decide) (by decide)
 have M2:=made_of (n:=3) (d:=100) (by decide) (by decide) (by decide) (by decide)
 have M3:=made_of (n:=1) (d:=2) (by decide) (by decide) (by decide) (by decide)
 obtain ⟨r2,k2,a2,b2,⟨tol,rfl,c2⟩,O2⟩:=pickratio4_m (a:=(mkQ 0 1).1) (b:=(mkQ 3 100).1) (c:=(mkQ 1 2).1) (d':=pc) zs k1 (by omega)
 have c2:pctOk tol:=by
  simp at c2
  rcases c2 with h | h | h | h<;>rw [h]
  ·exact mk_pct (by decide) (by decide) (by decide) (by decide)
  ·exact mk_pct (by decide) (by decide) (by decide) (by decide)
  ·exact mk_pct (by decide) (by decide) (by decide) (by decide)
  ·exact c1
 obtain ⟨r3,k3,a3,b3,⟨stale,rfl,c3⟩,O3⟩:=pick_g (xs:=[0,1,2,5,30]) (by decide) (by decide) zs k2 (by omega)
 obtain ⟨r4,k4,a4,b4,⟨at_,rfl,c4⟩,O4⟩:=next_g (n:=4) (by decide) zs k3 (by omega)
 have hst:0≤stale∧stale≤30:=by simp at c3;omega
 have R4:=fill_rats4 (mkQ 0 1).1 (mkQ 3 100).1 (mkQ 1 2).1 pc
 have R5:(rats [(mkQ 0 1).1,(mkQ 3 100).1,(mkQ 1 2).1,pc]).size=264:=by simp [rats,RQ.A_size]
 have P0:=fill_pol0 tol stale (pl:=[(0,1),(1,66),(67,1)]) rfl
 have PF:=(⟨[],tol,stale⟩:PL).fits (v:=.slice none 0 0) rfl
 have PI:∀ l:List (List UInt8),(∀ y∈l,y∈src4)→(⟨l,tol,stale⟩:PL).In:=fun l hl=>⟨c2.1,fun y hy=>by have:=hl y hy;simp [src4] at this;rcases this with h | h | h | h<;>rw [h]<;>decide,by show (-9223372036854775808:Int)≤stale∧stale≤9223372036854775807;omega⟩
 generalize rats [(mkQ 0 1).1,(mkQ 3 100).1,(mkQ 1 2).1,pc]=RS4 at *
 generalize (mkQ 0 1).1.A=RA1 at *
 generalize (mkQ 3 100).1.A=RA2 at *
 generalize (mkQ 1 2).1.A=RA3 at *
 refine .inl ⟨_,M1,.inl ⟨_,M2,.inl ⟨_,M3,.inr (.inl ⟨_,_,_,O1 _ v 1000 rfl hv',⟨rfl,trivial⟩,rfl,?_⟩)⟩⟩⟩
 refine .inl ⟨by decide,by decide,RS4,R4,R5,.inr (.inl ⟨_,_,_,O2 _ v 1000 13 (by decide) rfl hv',⟨rfl,rfl,trivial⟩,rfl,?_⟩)⟩
 refine .inl ⟨by decide,by decide,ints [0,1,2,5,30],by kernel_rfl,rfl,.inr (.inl ⟨_,_,_,O3 _ v 1000 16 (by decide) rfl hv',⟨rfl,rfl,trivial⟩,rfl,_,P0,PF,?_⟩)⟩
 refine .inr (.inl ⟨_,_,_,sources_o _ rfl 7777,trivial,rfl,?_⟩)
 refine .inr (.inl ⟨_,_,_,O4 _ v 1000 rfl hv',⟨rfl,trivial⟩,rfl,?_⟩)
 clear R4 R5 P0 O1 O2 O3 O4
 refine ⟨fun q f m=>∃ (i k5:Nat) (l:List (List UInt8)) (y:Value),q=4 - i∧i≤4∧k≤k5∧k5≤k+12+i∧IsL y i∧l=srcsAt at_.toNat i∧f=[(0,SV.ptr 1000 0),(2,SV.ptr 2 0),(3,SV.ptr 3 0),(4,SV.sl 7777 0 4 4),(5,SV.c (.int .i64 at_)),(6,SV.c (.int .i64 (i:Nat)))]∧m=[(9101,Blk.own y 9 1 i (cat strA l)),(1000,Blk.row 48 2 (tb v k5)),(3,Blk.row 31 68 (PL.A ⟨l,tol,stale⟩ y)),(2,Blk.row 31 68 (PL.A ⟨[],RQ.of 0 0,0⟩ (.slice none 0 0))),(7777,Blk.row 9 4 (cat strA src4))],4,⟨_,_,⟨0,k4,[],.slice none 0 0,by omega,by omega,by omega,by omega,.nil,rfl,rfl,rfl⟩,⟨rfl,rfl,rfl,rfl,rfl,rfl,trivial⟩,⟨.inr ⟨rfl,rfl,rfl⟩,rfl,rfl,congrArg (fun A=>some (Blk.row 31 68 A)) polZ.symm,rfl,trivial⟩,rfl⟩,?_⟩
 rintro q f m ⟨i,k5,l,y,rfl,hi,hk1,hk2,hy,hla,rfl,rfl⟩
 have hl:l.length=i:=by rw [hla,srcsAt_len]
 have hls:∀ y∈l,y∈src4:=fun y h=>srcsAt_mem (by rw [← hla];exact h)
 obtain ⟨r6,k6,a6,b6,⟨i6,rfl,c6⟩,O6⟩:=next_g (n:=4) (by decide) zs k5 (by omega)
 have e6:IntKind.i64.wrap (1+i6)=1+i6:=i64_in (by omega)
 have G0:=PL.g0 ⟨l,tol,stale⟩ y
 have S0:=fun u=>PL.set0 ⟨l,tol,stale⟩ y u
 have PF2:Fits (PL.A ⟨l,tol,stale⟩ y) 68:=by obtain ⟨ya,yc,rfl⟩:=hy.len;exact PL.fits _ rfl
 generalize hPA:PL.A ⟨l,tol,stale⟩ y=PA at *
 refine .inr (.inl ⟨_,_,_,O6 _ v 1000 rfl hv',⟨rfl,trivial⟩,rfl,fun h=>?_,fun h=>?_⟩)
 ·have h:(i:Int) < IntKind.i64.wrap (1+i6):=of_decide_eq_true h
  rw [e6] at h
  have hi3:i≤3:=by omega
  obtain ⟨aj,rfl⟩:∃ j:Nat,at_=j:=⟨at_.toNat,by omega⟩
  have ew:(IntKind.i64.wrap (((aj:Nat):Int)+(i:Int))).tmod 4=(((aj+i) % 4:Nat):Int):=by
   rw [i64_in (by omega),Int.tmod_eq_emod_of_nonneg (by omega)];omega
  obtain ⟨src,hs⟩:∃ s,src4[(aj+i) % 4]? = some s:=⟨_,List.getElem?_eq_getElem (show (aj+i) % 4 < 4 by omega)⟩
  have g1:(cat strA src4)[offAt 0 (((aj+i) % 4:Nat):Int) ti9.size]? = some (.string (S src)):=by
   have:=cat_get strA_size src4 ((aj+i) % 4) src 0 hs (by decide)
   rw [off_one 0 ((aj+i) % 4)]
   simpa [strA] using this
  have hlb:l++[src]=srcsAt ((aj:Nat):Int).toNat (i+1):=by rw [srcsAt_succ,← hla];show _=l++[src4.getD ((aj+i) % 4) []];rw [List.getD_eq_getElem?_getD,hs];rfl
  generalize hX:cat strA src4=XA at *
  refine ⟨_,G0,by decide,by rw [ew];omega,by rw [ew];show (((aj+i) % 4:Nat):Int) < ((4:Nat):Int);omega,_,(by rw [ew];exact g1),.inl ⟨by decide,by decide,_,fill_str1 src,rfl,by decide,9101,i,_,.inl rfl,by decide,strA_one src,rfl,_,strA_ext src,?_⟩⟩
  obtain ⟨q,hq,hb⟩:=info_str
  refine ⟨by omega,by unfold maxLen;omega,⟨q,hq,by rw [hb];omega⟩,by change _=true;kernel_rfl,fun g2 cap2=>?_⟩
  refine ⟨by decide,rfl,_,S0 _,by kernel_rfl,?_⟩
  refine ⟨4 - (i+1),_,_,by omega,⟨i+1,k6,l++[src],_,rfl,by omega,by omega,by omega,.some,hlb,rfl,rfl⟩,⟨rfl,rfl,rfl,rfl,rfl,c_int (i64_succ (by omega)),trivial⟩,⟨.inl (own_eq (cat_snoc l src)),rfl,rfl,rfl,rfl,trivial⟩,rfl⟩
 ·have h:¬ (i:Int) < IntKind.i64.wrap (1+i6):=of_decide_eq_false h
  rw [e6] at h
  have hPO:polOk ⟨l,tol,stale⟩=true:=polOk_of (by show 0 < l.length;omega) (by show l.length≤8;omega) (by show namesB l=true;rw [hla];exact srcsAt_ok (by omega) (by omega) (by omega)) c2 hst
  refine ⟨PF2,[(1000,Blk.row 48 2 (tb v k6)),(9101,Blk.own y 9 1 i (cat strA l))],[],⟨⟨l,tol,stale⟩,y,i,k6,by omega,by omega,PI l hls,hPO,hls,hy,hl.symm,by omega,by omega,by rw [hPA];rfl,rfl⟩,⟨rfl,.inl rfl,trivial⟩,rfl⟩
theorem exact_own {E:Env} (hE:E.P=Tryz.prog) {x y:Value} {xs:List QC} {p:PL} {nx ny:Nat} (hx:nx=xs.length) (hy:ny=p.srcs.length) (hn:nx≤1000000000000) (hm:ny≤1000000000000) (hin:∀ y∈xs,y.In) (hpin:p.In) (k:Int) (ins:List UInt8) (day:Int):OwnC E 3 [SV.c x,SV.c (.agg (p.A y)),SV.c (.int .i64 k),SV.c (.string (S ins)),SV.c (.int .i64 day)] [(9200,Blk.own x 40 72 nx (cat QC.A xs)),(9101,Blk.own y 9 1 ny (cat strA p.srcs))] (fun r U=>r=.bool true∧U=[(9200,Blk.own x 40 72 nx (cat QC.A xs)),(9101,Blk.own y 9 1 ny (cat strA p.srcs))]):=by
 refine (read2 (Q:=fun r U=>r=.bool true∧U=[]) hx hy (by rw [hE];exact at3.enters) (fun r U h=>by rw [h.2];exact ⟨rfl,rfl⟩) fun E0 h0 _ hl1 hl2=>exact_q (h0.trans hE) hl1 (by omega) hin hl2 (by omega) hpin ins day).mono ?_
 rintro r U ⟨U0,⟨h1,rfl⟩,rfl⟩
 exact ⟨h1,rfl⟩
theorem selectorPlays_f {v:Value} {zs:List Int} (w:World) (hv:Tp (envC Tryz.prog tt Tryz.f4.ntmps w [] []).toEnv v zs):Calls Tryz.prog 4 #[v] w fun e w'=>e=.returned (.bool true)∧Below w.heap.size w w':=by
 refine sx_atX [] tt_ok mixed at4 [v] _ w rfl ?_
 have hv0:=hv
 obtain ⟨a,cap,rfl,-⟩:=hv0
 refine ⟨_,fill_tape a zs.length cap rfl,rfl,?_⟩
 generalize hvv:Value.slice a zs.length cap=v at *
 obtain ⟨r1,k1,a1,b1,⟨day,rfl,c1⟩,O1⟩:=day_g zs 0 (by omega)
 obtain ⟨r2,k2,a2,b2,⟨i2,rfl,c2⟩,O2⟩:=next_g (n:=16) (by decide) zs k1 (by omega)
 obtain ⟨n,rfl⟩:∃ n:Nat,i2=n:=⟨i2.toNat,by omega⟩
 have hn16:n≤15:=by omega
 refine .inr (.inl ⟨_,_,_,O1 _ v 9 rfl hv,⟨rfl,trivial⟩,rfl,.inr (.inl ⟨_,_,_,O2 _ v 9 rfl hv,⟨rfl,trivial⟩,rfl,?_⟩)⟩)
 refine .inr (.inr (.inr ⟨[(1000,9)],[3000],[_,_,_],[_],_,quotes_z rfl hv (n:=n) (by omega) (by omega) c1,rfl,⟨rfl,trivial⟩,rfl,trivial,?_⟩))
 rintro x U ⟨xs,k3,last,h1,h2,hx,hxs,hbk,hlast,-,rfl⟩
 refine ⟨rfl,?_⟩
 have hin:∀ y∈xs,y.In:=fun y hy=>madeQ_in (hbk.each y hy)
 obtain ⟨xa,xc,rfl⟩:=hx.len
 refine ⟨fun q f m=>∃ (i k4:Nat),q=3 - i∧i≤3∧k4≤1000+100*i∧f=[(0,SV.c v),(3,SV.ptr 9 0),(4,SV.c (.int .i64 day)),(5,SV.c (.slice xa n xc)),(6,SV.c (.int .i64 (i:Nat)))]∧m=[(9,Blk.row 48 2 (tb v k4)),(3000,Blk.own (.slice xa n xc) 40 72 n (cat QC.A xs))],3,⟨_,_,⟨0,k3,rfl,by omega,by omega,rfl,rfl⟩,⟨rfl,rfl,rfl,rfl,rfl,trivial⟩,⟨rfl,.inl rfl,trivial⟩,rfl⟩,?_⟩
 rintro q f m ⟨i,k4,rfl,hi,hk4,rfl,rfl⟩
 refine ⟨fun h=>?_,fun h=>?_⟩
 ·have h:i < 3:=by have:=of_decide_eq_true h;omega
  refine .inr (.inr (.inr ⟨[(1000,9)],[9101],[_],[_],_,policy_z rfl hv (k:=k4) (by omega),rfl,⟨rfl,trivial⟩,rfl,trivial,?_⟩))
  rintro r U ⟨p,y,m,k5,p1,p2,hpin,-,-,hy,hm,hm1,hm4,rfl,rfl⟩
  refine ⟨rfl,?_⟩
  obtain ⟨ya,yc,rfl⟩:=hy.len
  obtain ⟨r6,k6,a6,b6,⟨i6,rfl,c6⟩,O6⟩:=next_g (n:=40) (by decide) zs k5 (by omega)
  obtain ⟨r7,k7,a7,b7,⟨i7,rfl,c7⟩,O7⟩:=pick_g (xs:=[2147483647,i6]) (by simp) (by simp) zs k6 (by omega)
  obtain ⟨r8,k8,a8,b8,⟨ins,rfl,c8⟩,O8⟩:=paper_g zs k7 (by omega)
  obtain ⟨r9,k9,a9,b9,⟨dy,rfl,c9⟩,O9⟩:=near_g (day:=day) (far:=3) (by omega) (by omega) zs k8 (by omega)
  have X1:=exact_own (E:=(envC Tryz.prog tt Tryz.f4.ntmps w [] []).toEnv) rfl (x:=.slice xa n xc) (y:=.slice ya m yc) (xs:=xs) (p:=p) (nx:=n) (ny:=m) hxs.symm hm (by omega) (by omega) hin hpin i7 ins dy
  generalize hPA:p.A (.slice ya m yc)=PA at *
  generalize hX:cat QC.A xs=XA at *
  refine .inr (.inl ⟨_,_,_,O6 _ v 9 rfl hv,⟨rfl,trivial⟩,rfl,?_⟩)
  refine .inl ⟨by decide,by decide,ints [2147483647,i6],by kernel_rfl,rfl,.inr (.inl ⟨_,_,_,O7 _ v 9 27 (by decide) rfl hv,⟨rfl,rfl,trivial⟩,rfl,?_⟩)⟩
  refine .inr (.inl ⟨_,_,_,O8 _ v 9 rfl hv,⟨rfl,trivial⟩,rfl,.inr (.inl ⟨_,_,_,O9 _ v 9 rfl hv,⟨rfl,trivial⟩,rfl,?_⟩)⟩)
  refine .inr (.inr (.inl ⟨[(9200,3000)],[_,_,_,_,_],[_,_],_,[_,_],X1,rfl,⟨.inl rfl,.inl rfl,trivial⟩,rfl,rfl,fun h=>absurd h (by decide),fun _=>?_⟩))
  exact ⟨3 - (i+1),_,_,by omega,⟨i+1,k9,rfl,by omega,by omega,rfl,rfl⟩,⟨rfl,rfl,rfl,rfl,c_int (i64_succ (by omega)),trivial⟩,⟨rfl,.inl rfl,trivial⟩,rfl⟩
 ·exact .inl ⟨_,known_f,rfl,trivial⟩
theorem chkF_ok {last:Int}:∀ {l:List MK},(∀ m∈l,1≤m.key.length∧m.key.length≤64∧last < m.known∧m.known≤2147483647)→l.Pairwise (fun a b=>a.known < b.known)→chkF last l=true
 | [],_,_=>rfl
 | m :: r,h,hp=>by
  obtain ⟨h1,h2,h3,h4⟩:=h m (by simp)
  rw [List.pairwise_cons] at hp
  unfold chkF mkGood
  rw [decide_eq_true h1,decide_eq_true h2,decide_eq_true h3,decide_eq_true h4]
  simp only [Bool.true_and]
  exact chkF_ok (fun m' hm'=>⟨(h m' (by simp [hm'])).1,(h m' (by simp [hm'])).2.1,hp.1 m' hm',(h m' (by simp [hm'])).2.2.2⟩) hp.2
theorem chk_book {xs:List QC} (hv:∀ q∈xs,validQ q=true) (hl:xs.length≤4096) (hp:xs.Pairwise (fun a b=>a.known < b.known)):chkQ xs=0:=by
 unfold chkQ
 rw [if_pos (by rw [List.all_eq_true];exact hv)]
 unfold chkE
 rw [if_neg (by rw [List.length_map];omega),if_pos]
 refine chkF_ok (fun m hm=>?_) ?_
 ·obtain ⟨q,hq,rfl⟩:=List.mem_map.1 hm
  have hvq:=hv q hq
  unfold validQ at hvq
  rw [Bool.and_eq_true] at hvq
  obtain ⟨h1,h2,h3,h4⟩:=right_facts hvq.1
  have h5:=usable_len h1
  have h6:=ins_len h2
  have h7:=hvq.2
  unfold knOk at h7
  simp only [Bool.and_eq_true,decide_eq_true_eq] at h7
  have hk:(mkOfQ q).key.length=q.src.length+(q.ins.length+12):=by
   show (keyQ q).length=_
   unfold keyQ
   simp only [List.length_append,List.length_cons,dayT_len]
  refine ⟨by omega,by omega,?_,?_⟩
  ·show 0 < q.known;omega
  ·exact h7.2
 ·rw [List.pairwise_map]
  exact hp
theorem vis_all {xs:List QC} {k:Int} (h0:chkQ xs=0) (hv:∀ q∈xs,q.void=false∧q.known≤k) (hk:∀ (i j:Nat) (a b:QC),xs[i]? = some a→xs[j]? = some b→keyQ a=keyQ b→i=j):visQs xs k=xs:=by
 unfold visQs
 rw [if_pos h0]
 have hf:visNQ xs k=List.range xs.length:=by
  unfold visNQ visI
  rw [List.length_map,List.filter_eq_self]
  intro i hi
  obtain ⟨q,hq⟩:∃ q,xs[i]? = some q:=⟨_,List.getElem?_eq_getElem (List.mem_range.1 hi)⟩
  unfold visB
  rw [List.getElem?_map,hq]
  have hm:=hv q (List.mem_of_getElem? hq)
  simp only [Option.map_some,mkOfQ,hm.1,Bool.not_false,Bool.true_and,hm.2,decide_true]
  rw [beq_iff_eq]
  unfold lastI
  rcases lastGo_spec k (keyQ q) (xs.map mkOfQ) 0 (-1) with ⟨h1,-⟩ | ⟨j,m,h1,h2,h3,h4,-⟩
  ·exact absurd rfl (h1 i (mkOfQ q) (by rw [List.getElem?_map,hq];rfl) hm.2)
  ·rw [h4]
   rw [List.getElem?_map] at h1
   cases hj:xs[j]? with
   | none=>rw [hj] at h1;cases h1
   | some b =>
    rw [hj] at h1
    cases h1
    have:j=i:=hk j i b q hj hq h3
    subst this;simp
 rw [hf]
 apply List.ext_getElem?
 intro i
 have:∀ (n:Nat),n≤xs.length→(List.range n).filterMap (fun i=>xs[i]?)=xs.take n:=by
  intro n
  induction n with
  | zero=>intro _;rfl
  | succ n ih =>
   intro hn
   rw [List.range_succ,List.filterMap_append,ih (by omega),List.take_add_one]
   rw [List.getElem?_eq_getElem (show n < xs.length by omega)]
   simp [List.getElem?_eq_getElem (show n < xs.length by omega)]
 rw [this _ (Nat.le_refl _),List.take_length]
theorem cand_skip {src ins:List UInt8} {day stale:Int}:∀ {l:List QC} {b:Option QC},(∀ q∈l,q.src≠src)→l.foldl (candStep src ins day stale) b=b
 | [],_,_=>rfl
 | q :: r,b,h=>by
  rw [List.foldl_cons,cand_skip (fun z hz=>h z (by simp [hz]))]
  unfold candStep
  rw [if_neg]
  rw [decide_eq_false (h q (by simp))];simp
theorem cand_one {src ins:List UInt8} {day stale:Int} {l:List QC} {i:Nat} {q:QC} (hq:l[i]? = some q) (h1:q.src=src) (h2:q.ins=ins) (h3:q.day≤day) (h4:day - stale≤q.day) (ho:∀ (j:Nat) (z:QC),j≠i→l[j]? = some z→z.src≠src):candOf ins day stale l src=some q:=by
 have hi:=(List.getElem?_eq_some_iff.1 hq).1
 have hl:l=l.take i++q :: l.drop (i+1):=by
  rw [← drop_at hq,List.take_append_drop]
 unfold candOf
 rw [hl,List.foldl_append,List.foldl_cons]
 have e1:(l.take i).foldl (candStep src ins day stale) none=none:=cand_skip fun z hz=>by
  obtain ⟨j,hj⟩:=List.getElem?_of_mem hz
  have hji:j < i:=by
   have:=(List.getElem?_eq_some_iff.1 hj).1
   simp at this;omega
  rw [List.getElem?_take_of_lt hji] at hj
  exact ho j z (by omega) hj
 rw [e1]
 have e2:candStep src ins day stale none q=some q:=by
  unfold candStep newer
  rw [if_pos]
  simp [h1,h2,h3,h4]
 rw [e2]
 exact cand_skip fun z hz=>by
  obtain ⟨j,hj⟩:=List.getElem?_of_mem hz
  rw [List.getElem?_drop] at hj
  exact ho (i+1+j) z (by omega) hj
theorem fm_zip {α β:Type} {f:α→Option β}:∀ {ss:List α} {l:List β},ss.length=l.length→(∀ (i:Nat) (s:α),ss[i]? = some s→f s=l[i]?)→ss.filterMap f=l
 | [],[],_,_=>rfl
 | s :: ss,x :: l,hl,h=>by
  have h0:=h 0 s rfl
  have h0:f s=some x:=h0
  rw [List.filterMap_cons,h0]
  simp only
  rw [fm_zip (ss:=ss) (l:=l) (by simpa using hl) (fun i s' hs=>by have:=h (i+1) s' (by simpa using hs);simpa using this)]
end Go.Proofs.YtinojijgeabfnaaGreatDoor
