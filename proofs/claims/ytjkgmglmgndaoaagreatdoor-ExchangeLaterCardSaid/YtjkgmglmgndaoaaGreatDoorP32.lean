/- made quotes. made books and policies. policies that are made are valid: plain laws. made books and policies. the law SelectorPlays, walk. plain laws of chosen candidates. the drawn candidates. drawn candidates: valid, and all of them counted. the law SelectorSpoilt, walk. the law SelectorMajority, walk. ref14.At. the law SelectorSingle: plain laws and walk. the law SelectorLater: plain laws. plain laws of books of rates; no condition. -/
import Derived.Test.YtjkgmglmgndaoaaGreatDoorP31
set_option maxRecDepth 100000
set_option maxHeartbeats 4000000
namespace Go.Proofs.YtjkgmglmgndaoaaGreatDoor
open Go Go.RowKit Go.SX
def papers:List (List UInt8):=[[65,67,77,69],[66,79,78,68],[71,79,76,68],[88,49],[69,85,82,85,83,68],[85,83,68,71,66,80]]
def usdgbp:List UInt8:=[85,83,68,71,66,80]
def eurusd:List UInt8:=[69,85,82,85,83,68]
def cUSD:List UInt8:=[85,83,68]
def cGBP:List UInt8:=[71,66,80]
theorem paper_g:Gen 52 [] 1 (RS (·∈papers)):=by
 intro zs k hk
 obtain ⟨r1,k1,a1,b1,⟨l,rfl,c1⟩,O1⟩:=one_g (xs:=papers) (by decide) (by decide) zs k (by omega)
 refine ⟨_,k1,by omega,by omega,⟨l,rfl,c1⟩,fun E v d hE hv=>?_⟩
 refine sx_ownT1 [] tt_ok mixed at52 E hE d (42,2,tb v k,tb v k1) [SV.ptr 1000 0] _ rfl rfl fun w b hT=>?_
 have hv:=hv.of_old hE.symm hT
 exact ⟨by decide,by decide,strs papers,by kernel_rfl,rfl,.inr ⟨_,_,_,O1 _ v 1000 4 (by decide) rfl hv,⟨rfl,rfl,trivial⟩,rfl,rfl,rfl,trivial⟩⟩
theorem run_max_ct {P:Program} {ats:Array TypeId} {ty:TypeId} {cs:Array Bool} (x y:Int) (w:World):(builtin .max ats ty cs #[.int .i64 x,.int .i64 y]).run P w=.ok (.value (.int .i64 (max x y))) w:=by
 simp [builtin,Go.Lib.run_max_ints]
theorem QC.set2 (a:QC) (l:List UInt8):a.A.setIfInBounds (0+2) (.string (S l))=({ a with cur:=l }:QC).A:=by kernel_rfl
theorem QC.set71 (a:QC) (b:Bool):a.A.setIfInBounds (0+71) (.bool b)=({ a with void:=b }:QC).A:=by kernel_rfl
theorem QC.setpri (a:QC) (r:RQ):splice a.A (0+4) r.A.toList=({ a with price:=r }:QC).A:=by kernel_rfl
theorem fill_q (src ins:List UInt8) (day known:Int) (r:RQ) {pl:List (Nat×Nat)} (hpl:pl=[(0,1),(1,1),(2,1),(3,1),(4,66),(70,1),(71,1)]):Instr.fill (fun k=>pl[k]?) ti51.zero [(0,.string (S src)),(1,.string (S ins)),(2,.string (S [85,83,68])),(3,.int .i64 day),(4,.agg r.A),(5,.int .i64 known)]=some (QC.A ⟨src,ins,[85,83,68],day,r,known,false⟩):=by
 subst hpl
 kernel_rfl
def isQuote (day known:Int) (q:QC):Prop:=q.src∈src4∧q.ins∈papers∧q.cur∈([[85,83,68],[69,85,82],[71,66,80]]:List (List UInt8))∧(0≤q.day∧(q.day≤day∨q.day=0))∧q.known=known∧((q.void=false∧isPrice q.price)∨(q.void=true∧q.price=zeroQ))
def RQt (P:QC→Prop) (r:Value):Prop:=∃ q:QC,r=.agg q.A∧P q
theorem zeroQ_fits:Fits zeroQ.A 66:=zeroQ.A_fits
theorem code_c:Gen 43 [] 1 (RS (·∈([[85,83,68],[69,85,82],[71,66,80]]:List (List UInt8)))):=by
 intro zs k hk
 obtain ⟨r1,k1,a1,b1,⟨l,rfl,c1⟩,O1⟩:=one_g (xs:=[[85,83,68],[85,83,68],[69,85,82],[71,66,80]]) (by decide) (by decide) zs k (by omega)
 refine ⟨_,k1,by omega,by omega,⟨l,rfl,by simp at c1 ⊢;exact c1⟩,fun E v d hE hv=>?_⟩
 refine sx_ownT1 [] tt_ok mixed at43 E hE d (42,2,tb v k,tb v k1) [SV.ptr 1000 0] _ rfl rfl fun w b hT=>?_
 have hv:=hv.of_old hE.symm hT
 exact ⟨by decide,by decide,strs [[85,83,68],[85,83,68],[69,85,82],[71,66,80]],by kernel_rfl,rfl,.inr ⟨_,_,_,O1 _ v 1000 4 (by decide) rfl hv,⟨rfl,rfl,trivial⟩,rfl,rfl,rfl,trivial⟩⟩
theorem quote_g {day known:Int} (hd:0≤day∧day≤1000000):Gen 27 [SV.c (.int .i64 day),SV.c (.int .i64 known)] 20 (RQt (isQuote day known)):=by
 intro zs k hk
 obtain ⟨r1,k1,a1,b1,⟨i1,rfl,c1⟩,O1⟩:=next_g (n:=4) (by decide) zs k (by omega)
 obtain ⟨r2,k2,a2,b2,⟨ins,rfl,c2⟩,O2⟩:=paper_g zs k1 (by omega)
 obtain ⟨r3,k3,a3,b3,⟨i3,rfl,c3⟩,O3⟩:=pick_g (xs:=[0,0,0,1,2,5]) (by decide) (by decide) zs k2 (by omega)
 obtain ⟨r4,k4,a4,b4,⟨price,rfl,c4⟩,O4⟩:=price_g zs k3 (by omega)
 have h3:0≤i3∧i3≤5:=by simp at c3;omega
 obtain ⟨j1,rfl⟩:∃ j:Nat,i1=j:=⟨i1.toNat,by omega⟩
 obtain ⟨src,hs⟩:∃ s,src4[j1]? = some s:=⟨_,List.getElem?_eq_getElem (show j1 < 4 by omega)⟩
 have hsm:src∈src4:=List.mem_of_getElem? hs
 have g1:(cat strA src4)[offAt 0 ((j1:Nat):Int) ti9.size]? = some (.string (S src)):=by
  have:=cat_get strA_size src4 j1 src 0 hs (by decide)
  rw [off_one 0 j1]
  simpa [strA] using this
 have e3:IntKind.i64.wrap (day - i3)=day - i3:=i64_in (by omega)
 have F1:=fill_q src ins (max 0 (day - i3)) known price (pl:=[(0,1),(1,1),(2,1),(3,1),(4,66),(70,1),(71,1)]) rfl
 rw [← e3] at F1
 generalize hz:(⟨src,ins,[85,83,68],max 0 (IntKind.i64.wrap (day - i3)),price,known,false⟩:QC)=z at F1
 have zsrc:z.src=src:=by rw [← hz]
 have zins:z.ins=ins:=by rw [← hz]
 have zday:0≤z.day∧(z.day≤day∨z.day=0):=by
  rw [← hz,e3]
  show 0≤max 0 (day - i3)∧(max 0 (day - i3)≤day∨max 0 (day - i3)=0)
  omega
 have zkn:z.known=known:=by rw [← hz]
 have zvo:z.void=false:=by rw [← hz]
 have zpr:z.price=price:=by rw [← hz]
 have zcu:z.cur=[85,83,68]:=by rw [← hz]
 have mem0:([85,83,68]:List UInt8)∈([[85,83,68],[69,85,82],[71,66,80]]:List (List UInt8)):=by decide
 have mem1:([71,66,80]:List UInt8)∈([[85,83,68],[69,85,82],[71,66,80]]:List (List UInt8)):=by decide
 clear hz
 have isq:∀ (cur:List UInt8),cur∈([[85,83,68],[69,85,82],[71,66,80]]:List (List UInt8))→isQuote day known { z with cur:=cur }:=fun cur h=>⟨by rw [zsrc];exact hsm,by rw [zins];exact c2,h,zday,zkn,.inl ⟨zvo,by rw [zpr];exact c4⟩⟩
 have isv:∀ (cur:List UInt8),cur∈([[85,83,68],[69,85,82],[71,66,80]]:List (List UInt8))→isQuote day known { z with cur:=cur,void:=true,price:=zeroQ }:=fun cur h=>⟨by rw [zsrc];exact hsm,by rw [zins];exact c2,h,zday,zkn,.inr ⟨rfl,rfl⟩⟩
 have ZF:=z.fits
 have Z1:=z.g1
 rw [zins] at Z1
 have nu:ins≠usdgbp→((S ins).toList == (S usdgbp).toList)=false:=fun h=>by rw [S_beq];exact decide_eq_false h
 have ne:ins≠eurusd→(!((S ins).toList == (S eurusd).toList))=true:=fun h=>by rw [S_beq,decide_eq_false h];rfl
 have ee:ins=eurusd→(!((S ins).toList == (S eurusd).toList))=false:=fun h=>by rw [S_beq,decide_eq_true h];rfl
 have zself:({ z with cur:=[85,83,68] }:QC)=z:=by rw [← zcu]
 by_cases hg:ins=usdgbp
 ·subst hg
  obtain ⟨rv,k5,av,bv,⟨void,rfl⟩,O5⟩:=chance_g (a:=1) (b:=9) (by decide) zs k4 (by omega)
  cases void
  ·refine ⟨_,k5,by omega,by omega,⟨{ z with cur:=[71,66,80] },rfl,isq _ mem1⟩,fun E v d hE hv=>?_⟩
   refine sx_ownT1 [] tt_ok mixed at27 E hE d (42,2,tb v k,tb v k5) [SV.ptr 1000 0,SV.c (.int .i64 day),SV.c (.int .i64 known)] _ rfl rfl fun w b hT=>?_
   have hv:=hv.of_old hE.symm hT
   have S2:=QC.set2 z [71,66,80]
   have ZG:=({ z with cur:=[71,66,80] }:QC).fits
   generalize QC.A { z with cur:=[71,66,80] }=ZB at *
   generalize z.A=ZA at *
   refine .inr ⟨_,_,_,sources_o _ rfl 7777,trivial,rfl,.inr ⟨_,_,_,O1 _ v 1000 rfl hv,⟨rfl,trivial⟩,rfl,?_⟩⟩
   refine ⟨by omega,by omega,_,g1,.inr ⟨_,_,_,O2 _ v 1000 rfl hv,⟨rfl,trivial⟩,rfl,by decide,by decide,ints [0,0,0,1,2,5],by kernel_rfl,rfl,.inr ⟨_,_,_,O3 _ v 1000 17 (by decide) rfl hv,⟨rfl,rfl,trivial⟩,rfl,_,fun w' _=>run_max_ct _ _ w',.inr ⟨_,_,_,O4 _ v 1000 rfl hv,⟨rfl,trivial⟩,rfl,_,F1,ZF,?_⟩⟩⟩⟩
   exact ⟨by kernel_rfl,_,Z1,fun _=>⟨by decide,rfl,ZB,S2,.inr ⟨_,_,_,O5 _ v 1000 rfl hv,⟨rfl,trivial⟩,rfl,fun h=>absurd h (by decide),fun _=>⟨ZG,rfl,rfl,trivial⟩⟩⟩,fun h=>absurd ((s_self usdgbp).symm.trans h) (by decide)⟩
  ·refine ⟨_,k5,by omega,by omega,⟨{ z with cur:=[71,66,80],void:=true,price:=zeroQ },rfl,isv _ mem1⟩,fun E v d hE hv=>?_⟩
   refine sx_ownT1 [] tt_ok mixed at27 E hE d (42,2,tb v k,tb v k5) [SV.ptr 1000 0,SV.c (.int .i64 day),SV.c (.int .i64 known)] _ rfl rfl fun w b hT=>?_
   have hv:=hv.of_old hE.symm hT
   have S2:=QC.set2 z [71,66,80]
   have ZG:=({ z with cur:=[71,66,80] }:QC).fits
   have S3:=QC.set71 { z with cur:=[71,66,80] } true
   have S4:=QC.setpri { z with cur:=[71,66,80],void:=true } zeroQ
   have ZH:=({ z with cur:=[71,66,80],void:=true,price:=zeroQ }:QC).fits
   generalize QC.A { z with cur:=[71,66,80],void:=true,price:=zeroQ }=ZD at *
   generalize QC.A { z with cur:=[71,66,80],void:=true }=ZC at *
   generalize QC.A { z with cur:=[71,66,80] }=ZB at *
   generalize z.A=ZA at *
   refine .inr ⟨_,_,_,sources_o _ rfl 7777,trivial,rfl,.inr ⟨_,_,_,O1 _ v 1000 rfl hv,⟨rfl,trivial⟩,rfl,?_⟩⟩
   refine ⟨by omega,by omega,_,g1,.inr ⟨_,_,_,O2 _ v 1000 rfl hv,⟨rfl,trivial⟩,rfl,by decide,by decide,ints [0,0,0,1,2,5],by kernel_rfl,rfl,.inr ⟨_,_,_,O3 _ v 1000 17 (by decide) rfl hv,⟨rfl,rfl,trivial⟩,rfl,_,fun w' _=>run_max_ct _ _ w',.inr ⟨_,_,_,O4 _ v 1000 rfl hv,⟨rfl,trivial⟩,rfl,_,F1,ZF,?_⟩⟩⟩⟩
   exact ⟨by kernel_rfl,_,Z1,fun _=>⟨by decide,rfl,ZB,S2,.inr ⟨_,_,_,O5 _ v 1000 rfl hv,⟨rfl,trivial⟩,rfl,fun _=>⟨_,rfl,by decide,rfl,ZC,S3,by decide,zeroQ_fits,ZD,S4,ZH,rfl,rfl,trivial⟩,fun h=>absurd h (by decide)⟩⟩,fun h=>absurd ((s_self usdgbp).symm.trans h) (by decide)⟩
 by_cases he:ins=eurusd
 ·obtain ⟨rv,k5,av,bv,⟨void,rfl⟩,O5⟩:=chance_g (a:=1) (b:=9) (by decide) zs k4 (by omega)
  cases void
  ·refine ⟨_,k5,by omega,by omega,⟨z,rfl,(by have:=isq _ mem0;rw [zself] at this;exact this)⟩,fun E v d hE hv=>?_⟩
   refine sx_ownT1 [] tt_ok mixed at27 E hE d (42,2,tb v k,tb v k5) [SV.ptr 1000 0,SV.c (.int .i64 day),SV.c (.int .i64 known)] _ rfl rfl fun w b hT=>?_
   have hv:=hv.of_old hE.symm hT
   have ZG:=z.fits
   generalize z.A=ZA at *
   refine .inr ⟨_,_,_,sources_o _ rfl 7777,trivial,rfl,.inr ⟨_,_,_,O1 _ v 1000 rfl hv,⟨rfl,trivial⟩,rfl,?_⟩⟩
   refine ⟨by omega,by omega,_,g1,.inr ⟨_,_,_,O2 _ v 1000 rfl hv,⟨rfl,trivial⟩,rfl,by decide,by decide,ints [0,0,0,1,2,5],by kernel_rfl,rfl,.inr ⟨_,_,_,O3 _ v 1000 17 (by decide) rfl hv,⟨rfl,rfl,trivial⟩,rfl,_,fun w' _=>run_max_ct _ _ w',.inr ⟨_,_,_,O4 _ v 1000 rfl hv,⟨rfl,trivial⟩,rfl,_,F1,ZF,?_⟩⟩⟩⟩
   exact ⟨by kernel_rfl,_,Z1,fun h=>absurd ((nu hg).symm.trans h) (by decide),fun _=>⟨_,Z1,fun h=>absurd ((ee he).symm.trans h) (by decide),fun _=>⟨fun h=>absurd h (by decide),fun _=>.inr ⟨_,_,_,O5 _ v 1000 rfl hv,⟨rfl,trivial⟩,rfl,fun h=>absurd h (by decide),fun _=>⟨ZG,rfl,rfl,trivial⟩⟩⟩⟩⟩
  ·refine ⟨_,k5,by omega,by omega,⟨{ z with void:=true,price:=zeroQ },rfl,(by have:=isv _ mem0;rw [show ({ z with cur:=[85,83,68],void:=true,price:=zeroQ }:QC)={ z with void:=true,price:=zeroQ } by rw [← zcu]] at this;exact this)⟩,fun E v d hE hv=>?_⟩
   refine sx_ownT1 [] tt_ok mixed at27 E hE d (42,2,tb v k,tb v k5) [SV.ptr 1000 0,SV.c (.int .i64 day),SV.c (.int .i64 known)] _ rfl rfl fun w b hT=>?_
   have hv:=hv.of_old hE.symm hT
   have ZG:=z.fits
   have S3:=QC.set71 z true
   have S4:=QC.setpri { z with void:=true } zeroQ
   have ZH:=({ z with void:=true,price:=zeroQ }:QC).fits
   generalize QC.A { z with void:=true,price:=zeroQ }=ZD at *
   generalize QC.A { z with void:=true }=ZC at *
   generalize z.A=ZA at *
   refine .inr ⟨_,_,_,sources_o _ rfl 7777,trivial,rfl,.inr ⟨_,_,_,O1 _ v 1000 rfl hv,⟨rfl,trivial⟩,rfl,?_⟩⟩
   refine ⟨by omega,by omega,_,g1,.inr ⟨_,_,_,O2 _ v 1000 rfl hv,⟨rfl,trivial⟩,rfl,by decide,by decide,ints [0,0,0,1,2,5],by kernel_rfl,rfl,.inr ⟨_,_,_,O3 _ v 1000 17 (by decide) rfl hv,⟨rfl,rfl,trivial⟩,rfl,_,fun w' _=>run_max_ct _ _ w',.inr ⟨_,_,_,O4 _ v 1000 rfl hv,⟨rfl,trivial⟩,rfl,_,F1,ZF,?_⟩⟩⟩⟩
   exact ⟨by kernel_rfl,_,Z1,fun h=>absurd ((nu hg).symm.trans h) (by decide),fun _=>⟨_,Z1,fun h=>absurd ((ee he).symm.trans h) (by decide),fun _=>⟨fun h=>absurd h (by decide),fun _=>.inr ⟨_,_,_,O5 _ v 1000 rfl hv,⟨rfl,trivial⟩,rfl,fun _=>⟨_,rfl,by decide,rfl,ZC,S3,by decide,zeroQ_fits,ZD,S4,ZH,rfl,rfl,trivial⟩,fun h=>absurd h (by decide)⟩⟩⟩⟩
 obtain ⟨r5,k5,a5,b5,⟨ch,rfl⟩,O5⟩:=chance_g (a:=1) (b:=4) (by decide) zs k4 (by omega)
 cases ch
 ·obtain ⟨rv,k6,av,bv,⟨void,rfl⟩,O7⟩:=chance_g (a:=1) (b:=9) (by decide) zs k5 (by omega)
  cases void
  ·refine ⟨_,k6,by omega,by omega,⟨z,rfl,(by have:=isq _ mem0;rw [zself] at this;exact this)⟩,fun E v d hE hv=>?_⟩
   refine sx_ownT1 [] tt_ok mixed at27 E hE d (42,2,tb v k,tb v k6) [SV.ptr 1000 0,SV.c (.int .i64 day),SV.c (.int .i64 known)] _ rfl rfl fun w b hT=>?_
   have hv:=hv.of_old hE.symm hT
   have ZG:=z.fits
   generalize z.A=ZA at *
   refine .inr ⟨_,_,_,sources_o _ rfl 7777,trivial,rfl,.inr ⟨_,_,_,O1 _ v 1000 rfl hv,⟨rfl,trivial⟩,rfl,?_⟩⟩
   refine ⟨by omega,by omega,_,g1,.inr ⟨_,_,_,O2 _ v 1000 rfl hv,⟨rfl,trivial⟩,rfl,by decide,by decide,ints [0,0,0,1,2,5],by kernel_rfl,rfl,.inr ⟨_,_,_,O3 _ v 1000 17 (by decide) rfl hv,⟨rfl,rfl,trivial⟩,rfl,_,fun w' _=>run_max_ct _ _ w',.inr ⟨_,_,_,O4 _ v 1000 rfl hv,⟨rfl,trivial⟩,rfl,_,F1,ZF,?_⟩⟩⟩⟩
   exact ⟨by kernel_rfl,_,Z1,fun h=>absurd ((nu hg).symm.trans h) (by decide),fun _=>⟨_,Z1,fun _=>.inr ⟨_,_,_,O5 _ v 1000 rfl hv,⟨rfl,trivial⟩,rfl,fun h=>absurd h (by decide),fun _=>.inr ⟨_,_,_,O7 _ v 1000 rfl hv,⟨rfl,trivial⟩,rfl,fun h=>absurd h (by decide),fun _=>⟨ZG,rfl,rfl,trivial⟩⟩⟩,fun h=>absurd ((ne he).symm.trans h) (by decide)⟩⟩
  ·refine ⟨_,k6,by omega,by omega,⟨{ z with void:=true,price:=zeroQ },rfl,(by have:=isv _ mem0;rw [show ({ z with cur:=[85,83,68],void:=true,price:=zeroQ }:QC)={ z with void:=true,price:=zeroQ } by rw [← zcu]] at this;exact this)⟩,fun E v d hE hv=>?_⟩
   refine sx_ownT1 [] tt_ok mixed at27 E hE d (42,2,tb v k,tb v k6) [SV.ptr 1000 0,SV.c (.int .i64 day),SV.c (.int .i64 known)] _ rfl rfl fun w b hT=>?_
   have hv:=hv.of_old hE.symm hT
   have ZG:=z.fits
   have S3:=QC.set71 z true
   have S4:=QC.setpri { z with void:=true } zeroQ
   have ZH:=({ z with void:=true,price:=zeroQ }:QC).fits
   generalize QC.A { z with void:=true,price:=zeroQ }=ZD at *
   generalize QC.A { z with void:=true }=ZC at *
   generalize z.A=ZA at *
   refine .inr ⟨_,_,_,sources_o _ rfl 7777,trivial,rfl,.inr ⟨_,_,_,O1 _ v 1000 rfl hv,⟨rfl,trivial⟩,rfl,?_⟩⟩
   refine ⟨by omega,by omega,_,g1,.inr ⟨_,_,_,O2 _ v 1000 rfl hv,⟨rfl,trivial⟩,rfl,by decide,by decide,ints [0,0,0,1,2,5],by kernel_rfl,rfl,.inr ⟨_,_,_,O3 _ v 1000 17 (by decide) rfl hv,⟨rfl,rfl,trivial⟩,rfl,_,fun w' _=>run_max_ct _ _ w',.inr ⟨_,_,_,O4 _ v 1000 rfl hv,⟨rfl,trivial⟩,rfl,_,F1,ZF,?_⟩⟩⟩⟩
   exact ⟨by kernel_rfl,_,Z1,fun h=>absurd ((nu hg).symm.trans h) (by decide),fun _=>⟨_,Z1,fun _=>.inr ⟨_,_,_,O5 _ v 1000 rfl hv,⟨rfl,trivial⟩,rfl,fun h=>absurd h (by decide),fun _=>.inr ⟨_,_,_,O7 _ v 1000 rfl hv,⟨rfl,trivial⟩,rfl,fun _=>⟨_,rfl,by decide,rfl,ZC,S3,by decide,zeroQ_fits,ZD,S4,ZH,rfl,rfl,trivial⟩,fun h=>absurd h (by decide)⟩⟩,fun h=>absurd ((ne he).symm.trans h) (by decide)⟩⟩
 ·obtain ⟨r6,k6,a6,b6,⟨cur,rfl,c6⟩,O6⟩:=code_c zs k5 (by omega)
  obtain ⟨rv,k7,av,bv,⟨void,rfl⟩,O7⟩:=chance_g (a:=1) (b:=9) (by decide) zs k6 (by omega)
  cases void
  ·refine ⟨_,k7,by omega,by omega,⟨{ z with cur:=cur },rfl,isq _ c6⟩,fun E v d hE hv=>?_⟩
   refine sx_ownT1 [] tt_ok mixed at27 E hE d (42,2,tb v k,tb v k7) [SV.ptr 1000 0,SV.c (.int .i64 day),SV.c (.int .i64 known)] _ rfl rfl fun w b hT=>?_
   have hv:=hv.of_old hE.symm hT
   have S2:=QC.set2 z cur
   have ZG:=({ z with cur:=cur }:QC).fits
   generalize QC.A { z with cur:=cur }=ZB at *
   generalize z.A=ZA at *
   refine .inr ⟨_,_,_,sources_o _ rfl 7777,trivial,rfl,.inr ⟨_,_,_,O1 _ v 1000 rfl hv,⟨rfl,trivial⟩,rfl,?_⟩⟩
   refine ⟨by omega,by omega,_,g1,.inr ⟨_,_,_,O2 _ v 1000 rfl hv,⟨rfl,trivial⟩,rfl,by decide,by decide,ints [0,0,0,1,2,5],by kernel_rfl,rfl,.inr ⟨_,_,_,O3 _ v 1000 17 (by decide) rfl hv,⟨rfl,rfl,trivial⟩,rfl,_,fun w' _=>run_max_ct _ _ w',.inr ⟨_,_,_,O4 _ v 1000 rfl hv,⟨rfl,trivial⟩,rfl,_,F1,ZF,?_⟩⟩⟩⟩
   exact ⟨by kernel_rfl,_,Z1,fun h=>absurd ((nu hg).symm.trans h) (by decide),fun _=>⟨_,Z1,fun _=>.inr ⟨_,_,_,O5 _ v 1000 rfl hv,⟨rfl,trivial⟩,rfl,fun _=>.inr ⟨_,_,_,O6 _ v 1000 rfl hv,⟨rfl,trivial⟩,rfl,by decide,rfl,ZB,S2,.inr ⟨_,_,_,O7 _ v 1000 rfl hv,⟨rfl,trivial⟩,rfl,fun h=>absurd h (by decide),fun _=>⟨ZG,rfl,rfl,trivial⟩⟩⟩,fun h=>absurd h (by decide)⟩,fun h=>absurd ((ne he).symm.trans h) (by decide)⟩⟩
  ·refine ⟨_,k7,by omega,by omega,⟨{ z with cur:=cur,void:=true,price:=zeroQ },rfl,isv _ c6⟩,fun E v d hE hv=>?_⟩
   refine sx_ownT1 [] tt_ok mixed at27 E hE d (42,2,tb v k,tb v k7) [SV.ptr 1000 0,SV.c (.int .i64 day),SV.c (.int .i64 known)] _ rfl rfl fun w b hT=>?_
   have hv:=hv.of_old hE.symm hT
   have S2:=QC.set2 z cur
   have ZG:=({ z with cur:=cur }:QC).fits
   have S3:=QC.set71 { z with cur:=cur } true
   have S4:=QC.setpri { z with cur:=cur,void:=true } zeroQ
   have ZH:=({ z with cur:=cur,void:=true,price:=zeroQ }:QC).fits
   generalize QC.A { z with cur:=cur,void:=true,price:=zeroQ }=ZD at *
   generalize QC.A { z with cur:=cur,void:=true }=ZC at *
   generalize QC.A { z with cur:=cur }=ZB at *
   generalize z.A=ZA at *
   refine .inr ⟨_,_,_,sources_o _ rfl 7777,trivial,rfl,.inr ⟨_,_,_,O1 _ v 1000 rfl hv,⟨rfl,trivial⟩,rfl,?_⟩⟩
   refine ⟨by omega,by omega,_,g1,.inr ⟨_,_,_,O2 _ v 1000 rfl hv,⟨rfl,trivial⟩,rfl,by decide,by decide,ints [0,0,0,1,2,5],by kernel_rfl,rfl,.inr ⟨_,_,_,O3 _ v 1000 17 (by decide) rfl hv,⟨rfl,rfl,trivial⟩,rfl,_,fun w' _=>run_max_ct _ _ w',.inr ⟨_,_,_,O4 _ v 1000 rfl hv,⟨rfl,trivial⟩,rfl,_,F1,ZF,?_⟩⟩⟩⟩
   exact ⟨by kernel_rfl,_,Z1,fun h=>absurd ((nu hg).symm.trans h) (by decide),fun _=>⟨_,Z1,fun _=>.inr ⟨_,_,_,O5 _ v 1000 rfl hv,⟨rfl,trivial⟩,rfl,fun _=>.inr ⟨_,_,_,O6 _ v 1000 rfl hv,⟨rfl,trivial⟩,rfl,by decide,rfl,ZB,S2,.inr ⟨_,_,_,O7 _ v 1000 rfl hv,⟨rfl,trivial⟩,rfl,fun _=>⟨_,rfl,by decide,rfl,ZC,S3,by decide,zeroQ_fits,ZD,S4,ZH,rfl,rfl,trivial⟩,fun h=>absurd h (by decide)⟩⟩,fun h=>absurd h (by decide)⟩,fun h=>absurd ((ne he).symm.trans h) (by decide)⟩⟩
def madeQ (day:Int) (a:QC):Prop:=∃ dd kn:Int,isQuote dd kn a∧0≤dd∧dd≤73048∧dd≤day+1
structure IsBook (day last:Int) (xs:List QC):Prop where
 each:∀ a∈xs,madeQ day a
 up:xs.Pairwise (fun a b=>a.known < b.known)
 bd:∀ a∈xs,1≤a.known∧a.known≤last
theorem IsBook.snoc {day last kn dd:Int} {xs:List QC} {y:QC} (h:IsBook day last xs) (hl:0≤last) (hk:last < kn) (hy:isQuote dd kn y) (h1:0≤dd) (h2:dd≤73048) (h3:dd≤day+1):IsBook day kn (xs++[y]):=by
 have hyk:y.known=kn:=hy.2.2.2.2.1
 refine ⟨fun a ha=>?_,?_,fun a ha=>?_⟩
 ·rcases List.mem_append.1 ha with h4 | h4
  ·exact h.each a h4
  ·have:a=y:=by simpa using h4
   rw [this];exact ⟨dd,kn,hy,h1,h2,h3⟩
 ·rw [List.pairwise_append]
  refine ⟨h.up,by simp,fun a ha b hb=>?_⟩
  have:b=y:=by simpa using hb
  rw [this,hyk]
  have:=(h.bd a ha).2
  omega
 ·rcases List.mem_append.1 ha with h4 | h4
  ·have:=h.bd a h4
   omega
  ·have:a=y:=by simpa using h4
   rw [this,hyk];omega
theorem madeQ_in {day:Int} {a:QC} (h:madeQ day a):a.In:=by
 obtain ⟨dd,kn,⟨h1,h2,h3,h4,h5,h6⟩,d1,d2,d3⟩:=h
 refine ⟨?_,?_,?_,?_,by omega⟩
 ·rcases h6 with ⟨-,h6⟩ | ⟨-,h6⟩
  ·exact h6.in_
  ·rw [h6];exact zeroQ_in
 ·simp [src4] at h1;rcases h1 with h | h | h | h<;>rw [h]<;>decide
 ·simp [papers] at h2;rcases h2 with h | h | h | h | h | h<;>rw [h]<;>decide
 ·simp at h3;rcases h3 with h | h | h<;>rw [h]<;>decide
def pctOk (r:RQ):Prop:=r.In∧pctB r=true∧betQ r 0 1=true
theorem mk_pct {n d:Int} (h0:0≤n) (h1:n≤d) (d1:1≤d) (d2:d ∣ 100000000):pctOk (mkQ n d).1:=by
 have hd8:d≤100000000:=Int.le_of_dvd (by decide) d2
 have bn:Bd 60 n:=bd60 (by omega) (by omega)
 have bd:Bd 60 d:=bd60 (by omega) (by omega)
 have b100:Bd 60 100:=bd60 (by decide) (by decide)
 have b1:Bd 60 (1:Int):=bd60 (by decide) (by decide)
 refine ⟨mkQ_in _ _,?_,?_⟩
 ·obtain ⟨r,e1,e2,e3,e4,e5⟩:=mkQ_v (show 0 < d by omega) bn bd
  obtain ⟨-,-,q1,-,-⟩:=RQ.ok_bits e2
  have hm:mulQ (mkQ n d).1 (.of 100 1)=mkQ (n*100) (d*1):=by
   rw [of_mk b100]
   exact mulQ_mk (by omega) (by decide) bn bd b100 b1
  rw [Int.mul_one] at hm
  have bx:Bd 120 (n*100):=bn.mul b100
  obtain ⟨s,f1,f2,f3,f4,f5⟩:=mkQ_v (show 0 < d by omega) bx bd
  obtain ⟨-,-,s1,-,-⟩:=RQ.ok_bits f2
  rw [e1] at hm ⊢
  have hp0:0≤r.p:=by
   have:0≤r.p*d:=by rw [e3];exact Int.mul_nonneg h0 (by omega)
   exact Int.nonneg_of_mul_nonneg_left this (by omega)
  obtain ⟨m,hm8⟩:=d2
  have hz:s.p*1000000=(n*m)*s.q:=by
   have x1:s.p*1000000*100=(n*m)*s.q*100:=by
    calc s.p*1000000*100=s.p*100000000:=by rw [Int.mul_assoc];rfl
     _=s.p*(d*m):=by rw [hm8]
     _=s.p*d*m:=by rw [Int.mul_assoc]
     _=n*100*s.q*m:=by rw [f3]
     _=(n*m)*s.q*100:=by ac_rfl
   exact Int.eq_of_mul_eq_mul_right (by decide) x1
  have hnm:0≤n*m∧n*m≤100000000:=by
   have hm0:0≤m:=by
    rcases Int.lt_or_le m 0 with h | h
    ·have:=Int.mul_neg_of_pos_of_neg (show 0 < d by omega) h
     omega
    ·exact h
   refine ⟨Int.mul_nonneg h0 hm0,?_⟩
   have:=Int.mul_le_mul_of_nonneg_right h1 hm0
   omega
  have ht:((tp (6:Int).toNat:Nat):Int)=1000000:=rfl
  have hdiv:(n*m)*s.q / s.q=n*m:=Int.mul_ediv_cancel _ (by omega)
  have hlen:¬ 15 < (padZ 6 (fmtN (n*m).natAbs)).length - 6:=by
   have h9:=fmtN_len (k:=9) (N:=(n*m).natAbs) (by decide) (by omega)
   unfold padZ
   split
   ·rename_i h
    simp only [List.length_append,List.length_replicate]
    omega
   ·omega
  unfold pctB pctZ
  rw [hm,f1,e2]
  unfold txtQ
  rw [f2,ht,hz,hdiv]
  have ez:(txtZ (n*m) 6).2=0:=by
   unfold txtZ
   simp only []
   rw [if_neg hlen]
  simp [Int.not_lt.2 hp0]
  rw [if_pos ez]
 ·obtain ⟨r,e1,e2,e3,e4,e5⟩:=mkQ_v (show 0 < d by omega) bn bd
  obtain ⟨-,-,q1,-,-⟩:=RQ.ok_bits e2
  rw [e1]
  have hp0:0≤r.p:=by
   have:0≤r.p*d:=by rw [e3];exact Int.mul_nonneg h0 (by omega)
   exact Int.nonneg_of_mul_nonneg_left this (by omega)
  have hp1:r.p≤r.q:=by
   have:r.p*d≤r.q*d:=by rw [e3,Int.mul_comm];exact Int.mul_le_mul_of_nonneg_left h1 (by omega)
   exact Int.le_of_mul_le_mul_right this (by omega)
  unfold betQ
  rw [e2]
  simp
  omega
def srcsAt (a i:Nat):List (List UInt8):=(List.range i).map fun j=>src4.getD ((a+j) % 4) []
theorem srcsAt_len (a i:Nat):(srcsAt a i).length=i:=by simp [srcsAt]
theorem srcsAt_succ (a i:Nat):srcsAt a (i+1)=srcsAt a i++[src4.getD ((a+i) % 4) []]:=by simp [srcsAt,List.range_succ]
theorem srcsAt_mem {a i:Nat} {s:List UInt8} (h:s∈srcsAt a i):s∈src4:=by
 unfold srcsAt at h
 rw [List.mem_map] at h
 obtain ⟨j,-,rfl⟩:=h
 have hj:(a+j) % 4 < 4:=Nat.mod_lt _ (by decide)
 generalize (a+j) % 4=k at *
 rcases k with _ | _ | _ | _ | k
 ·decide
 ·decide
 ·decide
 ·decide
 ·omega
theorem polOk_of {p:PL} (h1:0 < p.srcs.length) (h2:p.srcs.length≤8) (h3:namesB p.srcs=true) (h4:pctOk p.tol) (h5:0≤p.stale∧p.stale≤30):polOk p=true:=by
 unfold polOk
 rw [decide_eq_true h1,decide_eq_true h2,h3,h4.2.1,h4.2.2,decide_eq_true h5.1,decide_eq_true h5.2];rfl
theorem srcsAt_ok {a i:Nat} (ha:a < 4) (h1:1≤i) (h4:i≤4):namesB (srcsAt a i)=true:=by
 have ha:a=0∨a=1∨a=2∨a=3:=by omega
 have hi:i=1∨i=2∨i=3∨i=4:=by omega
 clear h1 h4
 rcases ha with h | h | h | h<;>rcases hi with h' | h' | h' | h'<;>rw [h,h']<;>decide
theorem pickratio4_m {a b c d':RQ}:GenL 31 29 (rats [a,b,c,d']) 264 4 1 (RA (·∈[a,b,c,d'])):=by
 intro zs k hk
 obtain ⟨r,k',h4,h5,⟨i,rfl,h6,h7⟩,hO⟩:=next_g (n:=4) (by decide) zs k hk
 have hi:i.toNat < [a,b,c,d'].length:=by show i.toNat < 4;omega
 refine ⟨_,k',h4,h5,⟨[a,b,c,d'][i.toNat],rfl,List.getElem_mem hi⟩,fun E v d e hde hE hv=>?_⟩
 refine sx_ownT2 [] tt_ok mixed at31 E hE d e hde (42,2,tb v k,tb v k') (29,264,rats [a,b,c,d'],rats [a,b,c,d']) [SV.ptr 1000 0,SV.sl 1001 0 4 4] _ rfl rfl fun w b b' hT=>?_
 have:=hO _ v 1000 rfl (hv.of_old hE.symm hT)
 have hoff:0+i.toNat*66+66≤264:=by omega
 exact ⟨nofun,fun _=>.inr ⟨_,_,_,this,⟨rfl,trivial⟩,rfl,h6,by show i < 4;omega,hoff,_,rats_get hi,RQ.A_fits _,rfl,rfl,rfl,trivial⟩⟩
theorem percent_g:Gen 45 [] 5 (RA pctOk):=by
 intro zs k hk
 obtain ⟨r1,k1,a1,b1,⟨i1,rfl,c1⟩,O1⟩:=pick_g (xs:=[1,4,10,20,100,200,1000,10000,100000000]) (by decide) (by decide) zs k (by omega)
 have h1:1≤i1∧i1≤100000000:=by simp at c1;omega
 have h8:i1 ∣ 100000000:=by simp at c1;rcases c1 with h | h | h | h | h | h | h | h | h<;>rw [h]<;>decide
 obtain ⟨r2,k2,a2,b2,⟨ch,rfl⟩,O2⟩:=chance_g (a:=3) (b:=4) (by decide) zs k1 (by omega)
 cases ch
 ·obtain ⟨r3,k3,a3,b3,⟨i3,rfl,c3⟩,O3⟩:=next_g (n:=i1+1) (by omega) zs k2 (by omega)
  have M:=made_of (n:=i3) (d:=i1) (by omega) (by omega) (by omega) (by omega)
  refine ⟨_,k3,by omega,by omega,⟨_,rfl,mk_pct (n:=i3) (d:=i1) (by omega) (by omega) (by omega) h8⟩,fun E v d hE hv=>?_⟩
  refine sx_ownT1 [] tt_ok mixed at45 E hE d (42,2,tb v k,tb v k3) [SV.ptr 1000 0] _ rfl rfl fun w b hT=>?_
  have hv:=hv.of_old hE.symm hT
  have O:=O3 _ v 1000 rfl hv
  rw [show i1+1=IntKind.i64.wrap (i1+1) from (i64_in (by omega)).symm] at O
  have RF:=(mkQ i3 i1).1.A_fits
  generalize (mkQ i3 i1).1.A=RA' at *
  exact ⟨by decide,by decide,ints [1,4,10,20,100,200,1000,10000,100000000],by kernel_rfl,rfl,.inr ⟨_,_,_,O1 _ v 1000 5 (by decide) rfl hv,⟨rfl,rfl,trivial⟩,rfl,.inr ⟨_,_,_,O2 _ v 1000 rfl hv,⟨rfl,trivial⟩,rfl,fun h=>absurd h (by decide),fun _=>.inr ⟨_,_,_,O,⟨rfl,trivial⟩,rfl,.inl ⟨_,M,RF,rfl,rfl,trivial⟩⟩⟩⟩⟩
 ·obtain ⟨r4,k4,a4,b4,⟨i4,rfl,c4⟩,O4⟩:=pick_g (xs:=[50,100,200,1000]) (by decide) (by decide) zs k2 (by omega)
  have h4:50≤i4∧i4≤1000:=by simp at c4;omega
  have h8:i4 ∣ 100000000:=by simp at c4;rcases c4 with h | h | h | h<;>rw [h]<;>decide
  have hq:i4.tdiv 10=i4 / 10:=Int.tdiv_eq_ediv_of_nonneg (by omega)
  obtain ⟨r3,k3,a3,b3,⟨i3,rfl,c3⟩,O3⟩:=next_g (n:=i4 / 10+1) (by omega) zs k4 (by omega)
  have M:=made_of (n:=i3) (d:=i4) (by omega) (by omega) (by omega) (by omega)
  refine ⟨_,k3,by omega,by omega,⟨_,rfl,mk_pct (n:=i3) (d:=i4) (by omega) (by omega) (by omega) h8⟩,fun E v d hE hv=>?_⟩
  refine sx_ownT1 [] tt_ok mixed at45 E hE d (42,2,tb v k,tb v k3) [SV.ptr 1000 0] _ rfl rfl fun w b hT=>?_
  have hv:=hv.of_old hE.symm hT
  have O:=O3 _ v 1000 rfl hv
  rw [show i4 / 10+1=IntKind.i64.wrap (IntKind.i64.wrap (i4.tdiv 10)+1) by rw [hq,i64_in (show -9223372036854775808≤i4 / 10∧i4 / 10≤9223372036854775807 by omega),i64_in (by omega)]] at O
  have RF:=(mkQ i3 i4).1.A_fits
  generalize (mkQ i3 i4).1.A=RA' at *
  exact ⟨by decide,by decide,ints [1,4,10,20,100,200,1000,10000,100000000],by kernel_rfl,rfl,.inr ⟨_,_,_,O1 _ v 1000 5 (by decide) rfl hv,⟨rfl,rfl,trivial⟩,rfl,.inr ⟨_,_,_,O2 _ v 1000 rfl hv,⟨rfl,trivial⟩,rfl,fun _=>⟨by decide,by decide,ints [50,100,200,1000],by kernel_rfl,rfl,.inr ⟨_,_,_,O4 _ v 1000 10 (by decide) rfl hv,⟨rfl,rfl,trivial⟩,rfl,by decide,.inr ⟨_,_,_,O,⟨rfl,trivial⟩,rfl,.inl ⟨_,M,RF,rfl,rfl,trivial⟩⟩⟩⟩,fun h=>absurd h (by decide)⟩⟩⟩
theorem fill_rats4 (a b c d':RQ):Instr.fill (fun k=>some (k*ti29.size,ti29.size)) (madeCells ti29.zero (4*ti29.size)) [(0,.agg a.A),(1,.agg b.A),(2,.agg c.A),(3,.agg d'.A)]=some (rats [a,b,c,d']):=by
 have hs:(madeCells ti29.zero (4*ti29.size)).size=264:=by kernel_rfl
 have:=fill_all (pl:=fun k=>some (k*ti29.size,ti29.size)) (vs:=[.agg a.A,.agg b.A,.agg c.A,.agg d'.A]) (Z:=madeCells ti29.zero (4*ti29.size)) ⟨by simp [Value.cells,RQ.A_size];rfl,by simp [Value.cells,RQ.A_size];rfl,by simp [Value.cells,RQ.A_size];exact ⟨rfl,rfl⟩,by simp [Value.cells,RQ.A_size];exact ⟨rfl,rfl⟩,trivial⟩ (by rw [hs];simp [catV,Value.cells,RQ.A_size])
 rw [show catV [.agg a.A,.agg b.A,.agg c.A,.agg d'.A]=rats [a,b,c,d'] by simp [catV,rats,Value.cells]] at this
 exact this
theorem fill_pol0 (r:RQ) (n:Int) {pl:List (Nat×Nat)} (hpl:pl=[(0,1),(1,66),(67,1)]):Instr.fill (fun k=>pl[k]?) ti31.zero [(1,.agg r.A),(2,.int .i64 n)]=some (PL.A ⟨[],r,n⟩ (.slice none 0 0)):=by
 subst hpl
 kernel_rfl
theorem PL.set0 (p:PL) (v u:Value):(p.A v).setIfInBounds (0+0) u=p.A u:=by kernel_rfl
theorem polZ:PL.A ⟨[],RQ.of 0 0,0⟩ (.slice none 0 0)=ti31.zero:=by kernel_rfl
def PolQ (k:Nat) (v:Value) (x:Value) (U:MemL):Prop:=∃ (p:PL) (y:Value) (n k':Nat),k≤k'∧k'≤k+20∧p.In∧polOk p=true∧(∀ y∈p.srcs,y∈src4)∧IsL y n∧n=p.srcs.length∧1≤n∧n≤4∧x=.agg (p.A y)∧U=[(1000,Blk.row 42 2 (tb v k')),(9101,Blk.own y 9 1 n (cat strA p.srcs))]
theorem policy_z {E:Env} (hE:E.P=Tryz.prog) {v:Value} {zs:List Int} (hv:Tp E v zs) {k:Nat} (hk:k+20≤4000000000000000000):OwnC E 18 [SV.ptr 1000 0] [(1000,Blk.row 42 2 (tb v k))] (PolQ k v):=by
 refine sx_ownC [] tt_ok mixed at18 E hE [SV.ptr 1000 0] [(1000,Blk.row 42 2 (tb v k))] _ rfl rfl fun w X β hT=>?_
 have hv':Tp (envC Tryz.prog tt Tryz.f18.ntmps w X (tiedK [(1000,Blk.row 42 2 (tb v k))] β)).toEnv v zs:=hv.of_old hE.symm hT
 obtain ⟨r1,k1,a1,b1,⟨pc,rfl,c1⟩,O1⟩:=percent_g zs k (by omega)
 have M1:=made_of (n:=0) (d:=1) (by decide) (by decide) (by decide) (by decide)
 have M2:=made_of (n:=3) (d:=100) (by decide) (by decide) (by decide) (by decide)
 have M3:=made_of (n:=1) (d:=2) (by decide) (by decide) (by decide) (by decide)
 obtain ⟨r2,k2,a2,b2,⟨tol,rfl,c2⟩,O2⟩:=pickratio4_m (a:=(mkQ 0 1).1) (b:=(mkQ 3 100).1) (c:=(mkQ 1 2).1) (d':=pc) zs k1 (by omega)
 have c2:pctOk tol:=by
  simp at c2
  rcases c2 with h | h | h | h<;>rw [h]
  ·exact mk_pct (by decide) (by decide) (by decide) (by decide)
  ·exact mk_pct (by decide) (by decide) (by decide) (by decide)
  ·exact mk_pct (by decide) (by decide) (by decide) (by decide)
  ·exact c1
 obtain ⟨r3,k3,a3,b3,⟨stale,rfl,c3⟩,O3⟩:=pick_g (xs:=[0,1,2,5,30]) (by decide) (by decide) zs k2 (by omega)
 obtain ⟨r4,k4,a4,b4,⟨at_,rfl,c4⟩,O4⟩:=next_g (n:=4) (by decide) zs k3 (by omega)
 have hst:0≤stale∧stale≤30:=by simp at c3;omega
 have R4:=fill_rats4 (mkQ 0 1).1 (mkQ 3 100).1 (mkQ 1 2).1 pc
 have R5:(rats [(mkQ 0 1).1,(mkQ 3 100).1,(mkQ 1 2).1,pc]).size=264:=by simp [rats,RQ.A_size]
 have P0:=fill_pol0 tol stale (pl:=[(0,1),(1,66),(67,1)]) rfl
 have PF:=(⟨[],tol,stale⟩:PL).fits (v:=.slice none 0 0) rfl
 have PI:∀ l:List (List UInt8),(∀ y∈l,y∈src4)→(⟨l,tol,stale⟩:PL).In:=fun l hl=>⟨c2.1,fun y hy=>by have:=hl y hy;simp [src4] at this;rcases this with h | h | h | h<;>rw [h]<;>decide,by show (-9223372036854775808:Int)≤stale∧stale≤9223372036854775807;omega⟩
 generalize rats [(mkQ 0 1).1,(mkQ 3 100).1,(mkQ 1 2).1,pc]=RS4 at *
 generalize (mkQ 0 1).1.A=RA1 at *
 generalize (mkQ 3 100).1.A=RA2 at *
 generalize (mkQ 1 2).1.A=RA3 at *
 refine .inl ⟨_,M1,.inl ⟨_,M2,.inl ⟨_,M3,.inr (.inl ⟨_,_,_,O1 _ v 1000 rfl hv',⟨rfl,trivial⟩,rfl,?_⟩)⟩⟩⟩
 refine .inl ⟨by decide,by decide,RS4,R4,R5,.inr (.inl ⟨_,_,_,O2 _ v 1000 13 (by decide) rfl hv',⟨rfl,rfl,trivial⟩,rfl,?_⟩)⟩
 refine .inl ⟨by decide,by decide,ints [0,1,2,5,30],by kernel_rfl,rfl,.inr (.inl ⟨_,_,_,O3 _ v 1000 16 (by decide) rfl hv',⟨rfl,rfl,trivial⟩,rfl,_,P0,PF,?_⟩)⟩
 refine .inr (.inl ⟨_,_,_,sources_o _ rfl 7777,trivial,rfl,?_⟩)
 refine .inr (.inl ⟨_,_,_,O4 _ v 1000 rfl hv',⟨rfl,trivial⟩,rfl,?_⟩)
 clear R4 R5 P0 O1 O2 O3 O4
 refine ⟨fun q f m=>∃ (i k5:Nat) (l:List (List UInt8)) (y:Value),q=4 - i∧i≤4∧k≤k5∧k5≤k+12+i∧IsL y i∧l=srcsAt at_.toNat i∧f=[(0,SV.ptr 1000 0),(2,SV.ptr 2 0),(3,SV.ptr 3 0),(4,SV.sl 7777 0 4 4),(5,SV.c (.int .i64 at_)),(6,SV.c (.int .i64 (i:Nat)))]∧m=[(9101,Blk.own y 9 1 i (cat strA l)),(1000,Blk.row 42 2 (tb v k5)),(3,Blk.row 31 68 (PL.A ⟨l,tol,stale⟩ y)),(2,Blk.row 31 68 (PL.A ⟨[],RQ.of 0 0,0⟩ (.slice none 0 0))),(7777,Blk.row 9 4 (cat strA src4))],4,⟨_,_,⟨0,k4,[],.slice none 0 0,by omega,by omega,by omega,by omega,.nil,rfl,rfl,rfl⟩,⟨rfl,rfl,rfl,rfl,rfl,rfl,trivial⟩,⟨.inr ⟨rfl,rfl,rfl⟩,rfl,rfl,congrArg (fun A=>some (Blk.row 31 68 A)) polZ.symm,rfl,trivial⟩,rfl⟩,?_⟩
 rintro q f m ⟨i,k5,l,y,rfl,hi,hk1,hk2,hy,hla,rfl,rfl⟩
 have hl:l.length=i:=by rw [hla,srcsAt_len]
 have hls:∀ y∈l,y∈src4:=fun y h=>srcsAt_mem (by rw [← hla];exact h)
 obtain ⟨r6,k6,a6,b6,⟨i6,rfl,c6⟩,O6⟩:=next_g (n:=4) (by decide) zs k5 (by omega)
 have e6:IntKind.i64.wrap (1+i6)=1+i6:=i64_in (by omega)
 have G0:=PL.g0 ⟨l,tol,stale⟩ y
 have S0:=fun u=>PL.set0 ⟨l,tol,stale⟩ y u
 have PF2:Fits (PL.A ⟨l,tol,stale⟩ y) 68:=by obtain ⟨ya,yc,rfl⟩:=hy.len;exact PL.fits _ rfl
 generalize hPA:PL.A ⟨l,tol,stale⟩ y=PA at *
 refine .inr (.inl ⟨_,_,_,O6 _ v 1000 rfl hv',⟨rfl,trivial⟩,rfl,fun h=>?_,fun h=>?_⟩)
 ·have h:(i:Int) < IntKind.i64.wrap (1+i6):=of_decide_eq_true h
  rw [e6] at h
  have hi3:i≤3:=by omega
  obtain ⟨aj,rfl⟩:∃ j:Nat,at_=j:=⟨at_.toNat,by omega⟩
  have ew:(IntKind.i64.wrap (((aj:Nat):Int)+(i:Int))).tmod 4=(((aj+i) % 4:Nat):Int):=by
   rw [i64_in (by omega),Int.tmod_eq_emod_of_nonneg (by omega)];omega
  obtain ⟨src,hs⟩:∃ s,src4[(aj+i) % 4]? = some s:=⟨_,List.getElem?_eq_getElem (show (aj+i) % 4 < 4 by omega)⟩
  have g1:(cat strA src4)[offAt 0 (((aj+i) % 4:Nat):Int) ti9.size]? = some (.string (S src)):=by
   have:=cat_get strA_size src4 ((aj+i) % 4) src 0 hs (by decide)
   rw [off_one 0 ((aj+i) % 4)]
   simpa [strA] using this
  have hlb:l++[src]=srcsAt ((aj:Nat):Int).toNat (i+1):=by rw [srcsAt_succ,← hla];show _=l++[src4.getD ((aj+i) % 4) []];rw [List.getD_eq_getElem?_getD,hs];rfl
  generalize hX:cat strA src4=XA at *
  refine ⟨_,G0,by decide,by rw [ew];omega,by rw [ew];show (((aj+i) % 4:Nat):Int) < ((4:Nat):Int);omega,_,(by rw [ew];exact g1),.inl ⟨by decide,by decide,_,fill_str1 src,rfl,by decide,9101,i,_,.inl rfl,by decide,strA_one src,rfl,_,strA_ext src,?_⟩⟩
  obtain ⟨q,hq,hb⟩:=info_str
  refine ⟨by omega,by unfold maxLen;omega,⟨q,hq,by rw [hb];omega⟩,by change _=true;kernel_rfl,fun g2 cap2=>?_⟩
  refine ⟨by decide,rfl,_,S0 _,by kernel_rfl,?_⟩
  refine ⟨4 - (i+1),_,_,by omega,⟨i+1,k6,l++[src],_,rfl,by omega,by omega,by omega,.some,hlb,rfl,rfl⟩,⟨rfl,rfl,rfl,rfl,rfl,c_int (i64_succ (by omega)),trivial⟩,⟨.inl (own_eq (cat_snoc l src)),rfl,rfl,rfl,rfl,trivial⟩,rfl⟩
 ·have h:¬ (i:Int) < IntKind.i64.wrap (1+i6):=of_decide_eq_false h
  rw [e6] at h
  have hPO:polOk ⟨l,tol,stale⟩=true:=polOk_of (by show 0 < l.length;omega) (by show l.length≤8;omega) (by show namesB l=true;rw [hla];exact srcsAt_ok (by omega) (by omega) (by omega)) c2 hst
  refine ⟨PF2,[(1000,Blk.row 42 2 (tb v k6)),(9101,Blk.own y 9 1 i (cat strA l))],[],⟨⟨l,tol,stale⟩,y,i,k6,by omega,by omega,PI l hls,hPO,hls,hy,hl.symm,by omega,by omega,by rw [hPA];rfl,rfl⟩,⟨rfl,.inl rfl,trivial⟩,rfl⟩
theorem chkF_ok {last:Int}:∀ {l:List MK},(∀ m∈l,1≤m.key.length∧m.key.length≤64∧last < m.known∧m.known≤2147483647)→l.Pairwise (fun a b=>a.known < b.known)→chkF last l=true
 | [],_,_=>rfl
 | m :: r,h,hp=>by
  obtain ⟨h1,h2,h3,h4⟩:=h m (by simp)
  rw [List.pairwise_cons] at hp
  unfold chkF mkGood
  rw [decide_eq_true h1,decide_eq_true h2,decide_eq_true h3,decide_eq_true h4]
  simp only [Bool.true_and]
  exact chkF_ok (fun m' hm'=>⟨(h m' (by simp [hm'])).1,(h m' (by simp [hm'])).2.1,hp.1 m' hm',(h m' (by simp [hm'])).2.2.2⟩) hp.2
theorem chk_book {xs:List QC} (hv:∀ q∈xs,validQ q=true) (hl:xs.length≤4096) (hp:xs.Pairwise (fun a b=>a.known < b.known)):chkQ xs=0:=by
 unfold chkQ
 rw [if_pos (by rw [List.all_eq_true];exact hv)]
 unfold chkE
 rw [if_neg (by rw [List.length_map];omega),if_pos]
 refine chkF_ok (fun m hm=>?_) ?_
 ·obtain ⟨q,hq,rfl⟩:=List.mem_map.1 hm
  have hvq:=hv q hq
  unfold validQ at hvq
  rw [Bool.and_eq_true] at hvq
  obtain ⟨h1,h2,h3,h4⟩:=right_facts hvq.1
  have h5:=usable_len h1
  have h6:=ins_len h2
  have h7:=hvq.2
  unfold knOk at h7
  simp only [Bool.and_eq_true,decide_eq_true_eq] at h7
  have hk:(mkOfQ q).key.length=q.src.length+(q.ins.length+12):=by
   show (keyQ q).length=_
   unfold keyQ
   simp only [List.length_append,List.length_cons,dayT_len]
  refine ⟨by omega,by omega,?_,?_⟩
  ·show 0 < q.known;omega
  ·exact h7.2
 ·rw [List.pairwise_map]
  exact hp
theorem vis_all {xs:List QC} {k:Int} (h0:chkQ xs=0) (hv:∀ q∈xs,q.void=false∧q.known≤k) (hk:∀ (i j:Nat) (a b:QC),xs[i]? = some a→xs[j]? = some b→keyQ a=keyQ b→i=j):visQs xs k=xs:=by
 unfold visQs
 rw [if_pos h0]
 have hf:visNQ xs k=List.range xs.length:=by
  unfold visNQ visI
  rw [List.length_map,List.filter_eq_self]
  intro i hi
  obtain ⟨q,hq⟩:∃ q,xs[i]? = some q:=⟨_,List.getElem?_eq_getElem (List.mem_range.1 hi)⟩
  unfold visB
  rw [List.getElem?_map,hq]
  have hm:=hv q (List.mem_of_getElem? hq)
  simp only [Option.map_some,mkOfQ,hm.1,Bool.not_false,Bool.true_and,hm.2,decide_true]
  rw [beq_iff_eq]
  unfold lastI
  rcases lastGo_spec k (keyQ q) (xs.map mkOfQ) 0 (-1) with ⟨h1,-⟩ | ⟨j,m,h1,h2,h3,h4,-⟩
  ·exact absurd rfl (h1 i (mkOfQ q) (by rw [List.getElem?_map,hq];rfl) hm.2)
  ·rw [h4]
   rw [List.getElem?_map] at h1
   cases hj:xs[j]? with
   | none=>rw [hj] at h1;cases h1
   | some b =>
    rw [hj] at h1
    cases h1
    have:j=i:=hk j i b q hj hq h3
    subst this;simp
 rw [hf]
 apply List.ext_getElem?
 intro i
 have:∀ (n:Nat),n≤xs.length→(List.range n).filterMap (fun i=>xs[i]?)=xs.take n:=by
  intro n
  induction n with
  | zero=>intro _;rfl
  | succ n ih =>
   intro hn
   rw [List.range_succ,List.filterMap_append,ih (by omega),List.take_add_one]
   rw [List.getElem?_eq_getElem (show n < xs.length by omega)]
   simp [List.getElem?_eq_getElem (show n < xs.length by omega)]
 rw [this _ (Nat.le_refl _),List.take_length]
theorem quote_valid {dd kn:Int} {q:QC} (h:isQuote dd kn q) (hd:q.day≤73048) (h1:1≤kn) (h2:kn≤2147483647):validQ q=true:=by
 obtain ⟨a1,a2,a3,a4,a5,a6⟩:=h
 unfold validQ rightQ knOk
 have u1:usable q.src=true:=by
  simp [src4] at a1;rcases a1 with h | h | h | h<;>rw [h]<;>decide
 have u2:insOk q.ins=true:=by
  simp [papers] at a2;rcases a2 with h | h | h | h | h | h<;>rw [h]<;>decide
 have u3:curOk q.cur=true:=by
  simp at a3;rcases a3 with h | h | h<;>rw [h]<;>decide
 rw [u1,u2,u3,a5,decide_eq_true a4.1,decide_eq_true hd,decide_eq_true h1,decide_eq_true h2]
 rcases a6 with ⟨v,p⟩ | ⟨v,p⟩
 ·obtain ⟨n,d,e,g1,g2,g3,g4,g5,g6,g7,g8⟩:=price_of p
  rw [v]
  have:priOk q.price=true:=by
   unfold priOk sgn
   rw [g6,if_neg (by omega),if_neg (by omega)];rfl
  simp [this]
 ·rw [v,p];rfl
structure isCm (i:Nat) (q:QC):Prop where
 src:src4[i]? = some q.src
 ins:q.ins=acme
 cur:q.cur=[85,83,68]
 d1:9494≤q.day
 d2:q.day≤9497
 kn:q.known=((i+1:Nat):Int)
 vo:q.void=false
 pr:∃ a:Int,q.price=(mkQ a 1).1∧77≤a∧a≤109
theorem isCm.lt {i:Nat} {q:QC} (h:isCm i q):i < 4:=(List.getElem?_eq_some_iff.1 h.src).1
theorem isCm.quote {i:Nat} {q:QC} (h:isCm i q):isQuote q.day q.known q:=by
 obtain ⟨a,h1,h2,h3⟩:=h.pr
 refine ⟨List.mem_of_getElem? h.src,by rw [h.ins];simp [papers,acme],by rw [h.cur];simp,⟨by have:=h.d1;omega,.inl (Int.le_refl _)⟩,rfl,.inl ⟨h.vo,?_⟩⟩
 exact ⟨a,1,h1,by omega,by omega,by simp⟩
theorem isCm.valid {i:Nat} {q:QC} (h:isCm i q):validQ q=true:=quote_valid h.quote (by have:=h.d2;omega) (by rw [h.kn];omega) (by rw [h.kn];have:=h.lt;omega)
theorem isCm.inn {i:Nat} {q:QC} (h:isCm i q):q.In:=madeQ_in (day:=q.day) ⟨q.day,q.known,h.quote,by have:=h.d1;omega,by have:=h.d2;omega,by omega⟩
theorem isCm.key {i:Nat} {q:QC} (h:isCm i q):(keyQ q)[0]? = some (UInt8.ofNat (97+i)):=by
 have hs:=h.src
 have hi:=h.lt
 unfold keyQ
 rcases (by omega:i=0∨i=1∨i=2∨i=3) with rfl | rfl | rfl | rfl<;>(cases hs':q.src with | nil=>rw [hs'] at hs;cases hs | cons b r=>rw [hs'] at hs;cases hs;rfl)
theorem near_self {y t:RQ} (hy:payOk y=true) (ht:pctB t=true) (hb:betQ t 0 1=true):nearQ y y t=true:=by
 obtain ⟨y1,y2⟩:=pay_bd hy
 obtain ⟨t0,t1,t2⟩:=tol_bd ht hb
 obtain ⟨p1,p2,-,-⟩:=pay_ok hy
 have tp0:=(pctB_ok ht).2
 obtain ⟨u,e1,e2,e5,e3,e4⟩:=sumQ_val true p1 p1 y2 y1 y2 y1 (by decide +kernel) (by decide +kernel)
 obtain ⟨v,f1,f2,f5,f3,f4⟩:=mulQ_val t0 p1 t2 t1 y2 y1 (by decide +kernel) (by decide +kernel)
 obtain ⟨-,-,g3,-,-⟩:=RQ.ok_bits e2
 obtain ⟨-,-,v3,-,-⟩:=RQ.ok_bits f2
 obtain ⟨-,-,y3,-,-⟩:=RQ.ok_bits p1
 obtain ⟨-,-,t3,-,-⟩:=RQ.ok_bits t0
 have u0:u.p=0:=by
  have h:u.p*(y.q*y.q)=0:=by
   rw [e5]
   show (y.p*y.q + -(y.p*y.q))*u.q=0
   rw [Int.add_right_neg,Int.zero_mul]
  rcases Int.mul_eq_zero.1 h with h | h
  ·exact h
  ·have:=Int.mul_pos y3 y3;omega
 have v0:0≤v.p:=by
  have h:0≤v.p*(t.q*y.q):=by rw [f5];exact Int.mul_nonneg (Int.mul_nonneg tp0 p2) (by omega)
  rcases Int.lt_or_le v.p 0 with h9 | h9
  ·have:=Int.mul_neg_of_neg_of_pos h9 (Int.mul_pos t3 y3);omega
  ·exact h9
 have ha:(absQ u).1=.of (u.p.natAbs:Int) u.q:=by unfold absQ;rw [if_pos e2]
 unfold nearQ
 rw [e1,f1]
 dsimp only
 rw [ha,RQ.of_p,RQ.of_q,u0,cmpI_le]
 apply decide_eq_true
 have:=Int.mul_nonneg v0 (show 0≤u.q by omega)
 simpa using this
theorem lastGo_snoc (k:Int) (key:List UInt8) (m:MK):∀ (r:List MK) (i:Nat) (a:Int),lastGo k key i (r++[m]) a=if m.known≤k∧m.key=key then ((i+r.length:Nat):Int) else lastGo k key i r a
 | [],i,a=>rfl
 | z :: r,i,a=>by
  rw [List.cons_append,lastGo,lastGo_snoc k key m r,lastGo,List.length_cons]
  rw [show i+1+r.length=i+(r.length+1) by omega]
theorem visB_lt {k:Int} {xs:List QC} {q:QC} {i:Nat} (hi:i < xs.length) (h:k < q.known∨keyQ (xs[i])≠keyQ q):visB ((xs++[q]).map mkOfQ) k i=visB (xs.map mkOfQ) k i:=by
 unfold visB
 rw [List.getElem?_map,List.getElem?_map,List.getElem?_append_left hi,List.getElem?_eq_getElem hi]
 simp only [Option.map_some]
 unfold lastI
 rw [List.map_append,List.map_cons,List.map_nil,lastGo_snoc,if_neg]
 rintro ⟨h1,h2⟩
 rcases h with h | h
 ·have h1:q.known≤k:=h1
  omega
 ·exact h h2.symm
theorem fm_congr {α β:Type} {f g:α→Option β}:∀ {l:List α},(∀ x∈l,f x=g x)→l.filterMap f=l.filterMap g
 | [],_=>rfl
 | x :: r,h=>by
  rw [List.filterMap_cons,List.filterMap_cons,h x (by simp),fm_congr fun y hy=>h y (by simp [hy])]
theorem vis_snoc {xs:List QC} {q:QC} {k:Int} {alive:QC→Bool} (h0:chkQ xs=0) (h1:chkQ (xs++[q])=0) (hd:k < q.known∨(alive q=false∧∀ x∈xs,alive x=true→keyQ x≠keyQ q)):(visQs (xs++[q]) k).filter alive=(visQs xs k).filter alive:=by
 unfold visQs
 rw [if_pos h0,if_pos h1]
 unfold visNQ visI
 rw [List.filterMap_filter,List.filter_filterMap,List.filterMap_filter,List.filter_filterMap]
 rw [List.length_map,List.length_map,List.length_append,List.length_singleton,List.range_succ,List.filterMap_append]
 have e1:List.filterMap (fun x=>Option.filter alive (if visB (List.map mkOfQ (xs++[q])) k x=true then (xs++[q])[x]? else none)) [xs.length]=[]:=by
  rw [List.filterMap_cons]
  have:Option.filter alive (if visB (List.map mkOfQ (xs++[q])) k xs.length=true then (xs++[q])[xs.length]? else none)=none:=by
   rw [List.getElem?_append_right (Nat.le_refl _),Nat.sub_self]
   split
   ·rename_i hv
    unfold visB at hv
    rw [List.getElem?_map,List.getElem?_append_right (Nat.le_refl _),Nat.sub_self] at hv
    rcases hd with hd | hd
    ·simp only [List.getElem?_cons_zero,Option.map_some,Bool.and_eq_true,decide_eq_true_eq] at hv
     have:q.known≤k:=hv.2.1
     omega
    ·simp [hd.1]
   ·rfl
  rw [this];rfl
 rw [e1,List.append_nil]
 apply fm_congr
 intro i hi
 have hi:=List.mem_range.1 hi
 rw [List.getElem?_append_left hi,List.getElem?_eq_getElem hi]
 by_cases hk:k < q.known∨keyQ (xs[i])≠keyQ q
 ·rw [visB_lt hi hk]
 ·have hk1:¬ k < q.known:=fun h=>hk (.inl h)
  have hk2:keyQ (xs[i])=keyQ q:=by
   by_cases e:keyQ (xs[i])=keyQ q
   ·exact e
   ·exact absurd (.inr e) hk
  rcases hd with hd | ⟨-,hd⟩
  ·exact absurd hd hk1
  ·have ha:alive xs[i]=false:=by
     cases e:alive xs[i] with
     | false=>rfl
     | true=>exact absurd hk2 (hd _ (List.getElem_mem hi) e)
   split<;>split<;>simp [Option.filter,ha]
theorem cand_alive {src ins:List UInt8} {day stale:Int} {alive:QC→Bool} (ha:∀ z,alive z=false→z.src≠src∨z.ins≠ins∨day < z.day):∀ (l:List QC) (o:Option QC),l.foldl (candStep src ins day stale) o=(l.filter alive).foldl (candStep src ins day stale) o
 | [],o=>rfl
 | z :: r,o=>by
  rw [List.foldl_cons]
  cases e:alive z with
  | true=>rw [List.filter_cons,if_pos e,List.foldl_cons];exact cand_alive ha r _
  | false =>
   rw [List.filter_cons,if_neg (by rw [e];simp)]
   have:candStep src ins day stale o z=o:=by
    unfold candStep
    rw [if_neg]
    intro hc
    simp only [Bool.and_eq_true,decide_eq_true_eq] at hc
    rcases ha z e with h | h | h
    ·exact h hc.1
    ·exact h hc.2.1
    ·omega
   rw [this]
   exact cand_alive ha r o
theorem candL_alive {V W:List QC} {ins:List UInt8} {day stale:Int} {alive:QC→Bool} (h:V.filter alive=W.filter alive):∀ {srcs:List (List UInt8)},(∀ s∈srcs,∀ z,alive z=false→z.src≠s∨z.ins≠ins∨day < z.day)→candL V srcs ins day stale=candL W srcs ins day stale
 | [],_=>rfl
 | s :: r,hs=>by
  have e:candOf ins day stale V s=candOf ins day stale W s:=by
   unfold candOf
   rw [cand_alive (hs s (by simp)) V,cand_alive (hs s (by simp)) W,h]
  have ih:=candL_alive (day:=day) (stale:=stale) h (srcs:=r) (fun s h=>hs s (by simp [h]))
  unfold candL at ih ⊢
  rw [List.filterMap_cons,List.filterMap_cons,e,ih]
theorem quote_parts {dd kn:Int} {q:QC} (h:isQuote dd kn q):usable q.src=true∧insOk q.ins=true∧curOk q.cur=true∧(if q.void then q.price.beq zeroQ else priOk q.price)=true:=by
 obtain ⟨a1,a2,a3,a4,a5,a6⟩:=h
 refine ⟨?_,?_,?_,?_⟩
 ·simp [src4] at a1;rcases a1 with h | h | h | h<;>rw [h]<;>decide
 ·simp [papers] at a2;rcases a2 with h | h | h | h | h | h<;>rw [h]<;>decide
 ·simp at a3;rcases a3 with h | h | h<;>rw [h]<;>decide
 ·rcases a6 with ⟨v,p⟩ | ⟨v,p⟩
  ·obtain ⟨n,d,e,g1,g2,g3,g4,g5,g6,g7,g8⟩:=price_of p
   have:priOk q.price=true:=by
    unfold priOk sgn
    rw [g6,if_neg (by omega),if_neg (by omega)];rfl
   simp [v,this]
  ·rw [v,p];rfl
theorem valid_parts {q:QC} (h1:usable q.src=true) (h2:insOk q.ins=true) (h3:curOk q.cur=true) (h4:(if q.void then q.price.beq zeroQ else priOk q.price)=true) (d1:0≤q.day) (d2:q.day≤73048) (k1:1≤q.known) (k2:q.known≤2147483647):validQ q=true:=by
 unfold validQ rightQ knOk
 rw [h1,h2,h3,h4,decide_eq_true d1,decide_eq_true d2,decide_eq_true k1,decide_eq_true k2];rfl
theorem one_ch2 {q:QC} {tol:RQ} (hp:payOk q.price=true) (ht:pctB tol=true) (hb:betQ tol 0 1=true):selCh [q] tol=chOf (some q):=by
 have hy:yardQ [q]=q.price:=by
  unfold yardQ cmpbl curH
  simp [sortR,insR,midR]
 have hg:isGood (curH [q]) (yardQ [q]) tol q=true:=by
  rw [hy]
  unfold isGood curH
  rw [near_self hp ht hb]
  simp
 unfold selCh
 generalize yardQ [q]=Y at *
 generalize curH [q]=C at *
 simp [hg]
theorem mul_inv {r:RQ} (h:Leg r):mulQ r (quoQ oneQ r).1=(oneQ,0):=by
 obtain ⟨k1,k2,k3,k4,k5⟩:=RQ.ok_bits h.ok
 have hl:=leg_inv h
 have e:(quoQ oneQ r).1=.of r.q r.p:=by rw [inv_one h]
 have hp:=h.p0
 unfold mulQ
 rw [h.ok,hl.ok,e,RQ.of_p,RQ.of_q]
 have hg:((Int.gcd (r.p*r.q) (r.q*r.p):Nat):Int)=r.q*r.p:=by
  rw [Int.mul_comm r.p,Int.gcd_self]
  have:=Int.mul_pos k3 hp
  omega
 have hy:=Int.mul_pos k3 hp
 have hs:sgn (r.q*r.p)=1:=by unfold sgn;rw [if_neg (by omega),if_neg (by omega)]
 have e1:r.p*r.q / (1*(r.q*r.p))=1:=by rw [Int.one_mul,Int.mul_comm r.p,Int.ediv_self (by omega)]
 have e2:r.q*r.p / (1*(r.q*r.p))=1:=by rw [Int.one_mul,Int.ediv_self (by omega)]
 show mkQ (r.p*r.q) (r.q*r.p)=_
 unfold mkQ
 rw [if_neg (by omega),hs,hg,e1,e2]
 rfl
theorem split_comma {x y:List UInt8}:∀ {a b:List UInt8},44∉a→44∉b→a++44 :: x=b++44 :: y→a=b∧x=y
 | [],[],_,_,h=>by simpa using h
 | [],c :: b,_,hb,h=>by
  simp only [List.nil_append,List.cons_append,List.cons.injEq] at h
  exact absurd (by rw [h.1];simp) hb
 | c :: a,[],ha,_,h=>by
  simp only [List.nil_append,List.cons_append,List.cons.injEq] at h
  exact absurd (by rw [← h.1];simp) ha
 | c :: a,d :: b,ha,hb,h=>by
  simp only [List.cons_append,List.cons.injEq] at h
  obtain ⟨e1,e2⟩:=split_comma (a:=a) (b:=b) (fun h2=>ha (by simp [h2])) (fun h2=>hb (by simp [h2])) h.2
  exact ⟨by rw [h.1,e1],e2⟩
theorem key_parts {a b:QC} (h:keyQ a=keyQ b) (h1:44∉a.src) (h2:44∉b.src) (h3:44∉a.ins) (h4:44∉b.ins):a.src=b.src∧a.ins=b.ins:=by
 unfold keyQ at h
 obtain ⟨e1,e2⟩:=split_comma h1 h2 h
 exact ⟨e1,(split_comma h3 h4 e2).1⟩
def cEUR:List UInt8:=[69,85,82]
def cJPY:List UInt8:=[74,80,89]
def pairIns:List (List UInt8):=[eurusd,[85,83,68,69,85,82],usdgbp,[71,66,80,85,83,68],[69,85,82,71,66,80],[69,85,82,74,80,89]]
def pairCur:List (List UInt8):=[cUSD,cEUR,cGBP,cJPY]
structure isPair (kn:Int) (q:QC):Prop where
 src:q.src∈src4
 ins:q.ins∈pairIns
 cur:q.cur∈pairCur
 day:0≤q.day∧q.day≤9497
 known:q.known=kn
 price:(q.void=false∧isPrice q.price)∨(q.void=true∧q.price=zeroQ)
theorem pair_of {kn:Int} {q:QC} (h:isQuote 9497 kn q) {i c:List UInt8} (hi:i∈pairIns) (hc:c∈pairCur):isPair kn { q with ins:=i,cur:=c }:=by
 obtain ⟨h1,h2,h3,⟨h4,h5⟩,h6,h7⟩:=h
 exact ⟨h1,hi,hc,⟨h4,by show q.day≤9497;omega⟩,h6,h7⟩
theorem price_part {q:QC} (h:(q.void=false∧isPrice q.price)∨(q.void=true∧q.price=zeroQ)):(if q.void then q.price.beq zeroQ else priOk q.price)=true:=by
 rcases h with ⟨v,p⟩ | ⟨v,p⟩
 ·obtain ⟨n,d,e,g1,g2,g3,g4,g5,g6,g7,g8⟩:=price_of p
  have:priOk q.price=true:=by
   unfold priOk sgn
   rw [g6,if_neg (by omega),if_neg (by omega)];rfl
  simp [v,this]
 ·rw [v,p];rfl
theorem isPair.valid {kn:Int} {q:QC} (h:isPair kn q) (h1:1≤kn) (h2:kn≤2147483647):validQ q=true:=by
 refine valid_parts ?_ ?_ ?_ (price_part h.price) h.day.1 (by have:=h.day.2;omega) (by rw [h.known];exact h1) (by rw [h.known];exact h2)
 ·have:=h.src;simp [src4] at this;rcases this with h | h | h | h<;>rw [h]<;>decide
 ·have:=h.ins;simp [pairIns] at this;rcases this with h | h | h | h | h | h<;>rw [h]<;>decide
 ·have:=h.cur;simp [pairCur] at this;rcases this with h | h | h | h<;>rw [h]<;>decide
theorem isPair.inn {kn:Int} {q:QC} (h:isPair kn q):q.In:=by
 refine ⟨?_,?_,?_,?_,⟨by have:=h.day;omega,by have:=h.day;omega⟩⟩
 ·rcases h.price with ⟨-,p⟩ | ⟨-,p⟩
  ·exact p.in_
  ·rw [p];exact zeroQ_in
 ·have:=h.src;simp [src4] at this;rcases this with h | h | h | h<;>rw [h]<;>decide
 ·have:=h.ins;simp [pairIns] at this;rcases this with h | h | h | h | h | h<;>rw [h]<;>decide
 ·have:=h.cur;simp [pairCur] at this;rcases this with h | h | h | h<;>rw [h]<;>decide
structure IsPB (last:Int) (xs:List QC):Prop where
 each:∀ a∈xs,isPair a.known a
 up:xs.Pairwise (fun a b=>a.known < b.known)
 bd:∀ a∈xs,1≤a.known∧a.known≤last
theorem IsPB.snoc {last kn:Int} {xs:List QC} {y:QC} (h:IsPB last xs) (hl:0≤last) (hk:last < kn) (hy:isPair kn y):IsPB kn (xs++[y]):=by
 have hyk:=hy.known
 refine ⟨fun a ha=>?_,?_,fun a ha=>?_⟩
 ·rcases List.mem_append.1 ha with h4 | h4
  ·exact h.each a h4
  ·rw [List.mem_singleton.1 h4,hyk];exact hy
 ·rw [List.pairwise_append]
  refine ⟨h.up,by simp,fun a ha b hb=>?_⟩
  rw [List.mem_singleton.1 hb,hyk]
  have:=(h.bd a ha).2
  omega
 ·rcases List.mem_append.1 ha with h4 | h4
  ·have:=h.bd a h4
   omega
  ·rw [List.mem_singleton.1 h4,hyk];omega
theorem IsPB.chk {last:Int} {xs:List QC} (h:IsPB last xs) (hl:last≤2147483647) (hn:xs.length≤4096):chkQ xs=0 :=
 chk_book (fun q hq=>(h.each q hq).valid (h.bd q hq).1 (by have:=(h.bd q hq).2;omega)) hn h.up
theorem mktC_zero {xs:List QC} {p:PL} {day:Int} {cs:List (List UInt8)} (h1:chkQ xs=0) (h2:polOk p=true) (h3:0≤day) (h4:day≤73048) (h5:cs.all curOk=true):mktC xs p day cs=0:=by
 unfold mktC
 rw [if_neg (by rw [h1];simp),if_pos h2,if_neg (by omega),if_pos h5]
theorem lone_cand {q:QC} {ins src:List UInt8} {day stale:Int}:candOf ins day stale [q] src=if q.src=src∧q.ins=ins∧q.day≤day∧day - stale≤q.day then some q else none:=by
 unfold candOf
 simp only [List.foldl_cons,List.foldl_nil]
 unfold candStep newer
 simp
theorem lone_cands {q:QC} {k day:Int} {p:PL} {ins:List UInt8} (hq:validQ q=true) (hv:q.void=false) (hk:q.known≤k) (hp:polOk p=true) (d0:0≤day) (d1:day≤73048) (hd:q.day=day) (hs:∃ r,p.srcs=q.src :: r∧q.src∉r):chkQ [q]=0∧cands [q] k p ins day=(if q.ins=ins then [q] else [])∧selE [q] k p ins day=if q.ins=ins then 0 else 151:=by
 have h0:chkQ [q]=0:=chk_book (fun z hz=>by rw [List.mem_singleton.1 hz];exact hq) (by simp) (by simp)
 have hc:candC [q] k p day=0:=by
  unfold candC
  rw [if_neg (by rw [h0];simp),if_pos hp,if_neg (by omega)]
 have hvis:visQs [q] k=[q]:=vis_all h0 (fun z hz=>by rw [List.mem_singleton.1 hz];exact ⟨hv,hk⟩) (fun i j a b ha hb _=>by
  have:=(List.getElem?_eq_some_iff.1 ha).1
  have:=(List.getElem?_eq_some_iff.1 hb).1
  simp at *;omega)
 obtain ⟨r,hr,hr2⟩:=hs
 obtain ⟨-,-,-,s1⟩:True∧True∧True∧0≤p.stale:=by
  unfold polOk at hp
  simp only [Bool.and_eq_true,decide_eq_true_eq] at hp
  exact ⟨trivial,trivial,trivial,hp.2.2.2.1⟩
 have e:cands [q] k p ins day=(if q.ins=ins then [q] else []):=by
  unfold cands
  rw [if_pos hc,hvis]
  unfold candL
  rw [hr,List.filterMap_cons,lone_cand]
  have hno:r.filterMap (candOf ins day p.stale [q])=[]:=by
   rw [List.filterMap_eq_nil_iff]
   intro s hs
   rw [lone_cand,if_neg]
   rintro ⟨h,-⟩
   exact hr2 (by rw [h];exact hs)
  rw [hno]
  by_cases hi:q.ins=ins
  ·rw [if_pos ⟨rfl,hi,by omega,by omega⟩,if_pos hi]
  ·rw [if_neg (fun h=>hi h.2.1),if_neg hi]
 refine ⟨h0,e,?_⟩
 unfold selE
 rw [if_neg (by rw [hc];simp),e]
 by_cases hi:q.ins=ins
 ·rw [if_pos hi,if_pos hi,if_neg (by simp)]
 ·rw [if_neg hi,if_neg hi,if_pos rfl]
theorem src_44 {l:List UInt8} (h:l∈src4):44∉l:=by
 simp [src4] at h;rcases h with h | h | h | h<;>rw [h]<;>decide
theorem pair_44 {l:List UInt8} (h:l∈pairIns):44∉l:=by
 simp [pairIns] at h;rcases h with h | h | h | h | h | h<;>rw [h]<;>decide
def deadIns:List (List UInt8):=[[69,85,82,74,80,89],acme,[74,80,89,85,83,68]]
def wayIns:List (List UInt8):=[[69,85,82,71,66,80],[71,66,80,69,85,82],eurusd,[85,83,68,69,85,82],usdgbp,[71,66,80,85,83,68]]
structure isLateP (q:QC):Prop where
 ok:validQ q=true
 kn:40≤q.known
 inn:q.In
 src:q.src∈src4
 why:40 < q.known∨q.ins∈deadIns
def aliveP (z:QC):Bool:=decide (z.src∈src4) && decide (z.ins∈wayIns)
theorem latep_law {last:Int} {xs:List QC} (hb:IsPB last xs) (hl:last≤39) (hn:xs.length≤4000) {q:QC} (h:isLateP q) {p:PL} (hp:∀ s∈p.srcs,s∈src4):chkQ (xs++[q])=0∧∀ ins,ins∈wayIns→cands (xs++[q]) 40 p ins 9497=cands xs 40 p ins 9497∧selE (xs++[q]) 40 p ins 9497=selE xs 40 p ins 9497:=by
 have c0:=hb.chk (by omega) (by omega)
 have c1:chkQ (xs++[q])=0:=by
  refine chk_book (fun z hz=>?_) (by simp;omega) ?_
  ·rcases List.mem_append.1 hz with h2 | h2
   ·exact (hb.each z h2).valid (hb.bd z h2).1 (by have:=(hb.bd z h2).2;omega)
   ·rw [List.mem_singleton.1 h2];exact h.ok
  ·rw [List.pairwise_append]
   refine ⟨hb.up,by simp,fun a ha b hb2=>?_⟩
   rw [List.mem_singleton.1 hb2]
   have:=(hb.bd a ha).2
   have:=h.kn
   omega
 have hdead:40 < q.known∨(aliveP q=false∧∀ x∈xs,aliveP x=true→keyQ x≠keyQ q):=by
  rcases h.why with h1 | h1
  ·exact .inl h1
  ·refine .inr ⟨?_,fun x hx ha he=>?_⟩
   ·unfold aliveP
    have:q.ins∉wayIns:=by
     simp [deadIns] at h1;rcases h1 with h | h | h<;>rw [h]<;>decide
    simp [this]
   ·have hd:44∉q.ins:=by simp [deadIns] at h1;rcases h1 with h | h | h<;>rw [h]<;>decide
    have hx2:=hb.each x hx
    obtain ⟨-,e2⟩:=key_parts he (src_44 hx2.src) (src_44 h.src) (pair_44 hx2.ins) hd
    unfold aliveP at ha
    simp only [Bool.and_eq_true,decide_eq_true_eq] at ha
    rw [e2] at ha
    have:q.ins∉wayIns:=by
     simp [deadIns] at h1;rcases h1 with h | h | h<;>rw [h]<;>decide
    exact this ha.2
 have hf:=vis_snoc c0 c1 (alive:=aliveP) hdead
 have hc:candC (xs++[q]) 40 p 9497=candC xs 40 p 9497:=by unfold candC;rw [c0,c1]
 refine ⟨c1,fun ins hins=>?_⟩
 have e:cands (xs++[q]) 40 p ins 9497=cands xs 40 p ins 9497:=by
  unfold cands
  rw [hc]
  rw [candL_alive (alive:=aliveP) hf fun s hs z hz=>?_]
  unfold aliveP at hz
  have hs4:=hp s hs
  by_cases e1:z.src=s
  ·right
   left
   rintro rfl
   rw [e1] at hz
   simp [hs4,hins] at hz
  ·exact .inl e1
 refine ⟨e,?_⟩
 unfold selE
 rw [hc,e]
theorem late_rate {last:Int} {xs:List QC} (hb:IsPB last xs) (hl:last≤39) (hn:xs.length≤4000) {q:QC} (h:isLateP q) {p:PL} (hp:∀ s∈p.srcs,s∈src4):rateQ (xs++[q]) 40 p 9497 cUSD cEUR cGBP=rateQ xs 40 p 9497 cUSD cEUR cGBP:=by
 obtain ⟨c1,hc⟩:=latep_law hb hl hn h hp
 have c0:=hb.chk (by omega) (by omega)
 have hm:∀ cs,mktC (xs++[q]) p 9497 cs=mktC xs p 9497 cs:=fun cs=>by unfold mktC;rw [c0,c1]
 have hd:∀ a b:List UInt8,a++b∈wayIns→dirQ (xs++[q]) 40 p 9497 a b=dirQ xs 40 p 9497 a b:=fun a b hab=>by
  obtain ⟨e1,e2⟩:=hc _ hab
  unfold dirQ
  rw [e1,e2]
 have hL:∀ a b:List UInt8,a++b∈wayIns→b++a∈wayIns→legO (xs++[q]) 40 p 9497 a b=legO xs 40 p 9497 a b:=fun a b h1 h2=>by
  unfold legO
  rw [hd a b h1,hd b a h2]
 unfold rateQ
 rw [hm,hL cEUR cGBP (by decide) (by decide),hL cEUR cUSD (by decide) (by decide),hL cUSD cGBP (by decide) (by decide)]
theorem late_made {kn:Int} {q:QC} (h:isQuote 9497 kn q) (hk:40 < kn) (hk2:kn≤100):isLateP q:=by
 obtain ⟨p1,p2,p3,p4⟩:=quote_parts h
 have hi:=madeQ_in (day:=9497) ⟨9497,kn,h,by decide,by decide,by decide⟩
 obtain ⟨h1,h2,h3,⟨h4,h5⟩,h6,h7⟩:=h
 exact ⟨valid_parts p1 p2 p3 p4 h4 (by omega) (by omega) (by omega),by omega,hi,h1,.inl (by omega)⟩
theorem late_dead2 {q:QC} (h:isQuote 9497 40 q) {i:List UInt8} (hi:i∈deadIns):isLateP { q with ins:=i,cur:=cUSD }:=by
 obtain ⟨p1,p2,p3,p4⟩:=quote_parts h
 have hn:=madeQ_in (day:=9497) ⟨9497,40,h,by decide,by decide,by decide⟩
 obtain ⟨h1,h2,h3,⟨h4,h5⟩,h6,h7⟩:=h
 have hio:insOk i=true:=by simp [deadIns] at hi;rcases hi with h | h | h<;>rw [h]<;>decide
 have hil:i.length≤9223372036854775807:=by simp [deadIns] at hi;rcases hi with h | h | h<;>rw [h]<;>decide
 exact ⟨valid_parts (q:={ q with ins:=i,cur:=cUSD }) p1 hio (show curOk cUSD=true by decide) p4 h4 (by show q.day≤_;omega) (by show 1≤q.known;omega) (by show q.known≤_;omega),by show 40≤q.known;omega,⟨hn.price,hn.src,hil,by show cUSD.length≤_;decide,hn.day⟩,h1,.inr hi⟩
end Go.Proofs.YtjkgmglmgndaoaaGreatDoor
