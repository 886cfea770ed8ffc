/- walks: quotients of whole numbers, the greatest common divis; no condition. -/
import Derived.Test.YtklehfchdoikeaaGreatDoorValuationExactQ13
set_option maxRecDepth 100000
set_option maxHeartbeats 4000000
namespace Go.Proofs.YtklehfchdoikeaaGreatDoor
open Go Go.RowKit Go.SX
theorem Kz (x:Int) (b:Nat) (hb:0 < b):if x < 0/\x.natAbs % b≠0 then x / (b:Int)=-((x.natAbs / b+1:Nat):Int)/\x % (b:Int)=((b - x.natAbs % b:Nat):Int) else x / (b:Int)=zN (decide (x < 0)) (x.natAbs / b)/\x % (b:Int)=((x.natAbs % b:Nat):Int):=by
 have h1:=Nat.div_add_mod x.natAbs b
 have h2:=Nat.mod_lt x.natAbs hb
 have h1':(b:Int)*((x.natAbs / b:Nat):Int)+((x.natAbs % b:Nat):Int)=(x.natAbs:Int):=by rw [<- Int.natCast_mul,<- Int.natCast_add,h1]
 generalize x.natAbs / b=q at *
 generalize x.natAbs % b=r at *
 have hbp:(0:Int) < b:=by omega
 split
 ·rename_i h
  refine (Int.ediv_emod_unique hbp).2 ⟨?_,by omega,by omega⟩
  rw [Int.mul_neg]
  have:(b:Int)*((q+1:Nat):Int)=b*(q:Int)+b:=by rw [Int.natCast_add,Int.mul_add];simp
  rw [this];omega
 ·rename_i h
  refine (Int.ediv_emod_unique hbp).2 ⟨?_,by omega,by omega⟩
  unfold zN
  by_cases hx:x < 0
  ·have hr:r=0:=by omega
   rw [if_pos (by simpa using hx),Int.mul_neg];omega
  ·rw [if_neg (by simpa using hx)];omega
theorem Ft (x y:Int) (hy:y≠0):if x < 0/\x.natAbs % y.natAbs≠0 then x / y=zN (decide (x < 0) != decide (y < 0)) (x.natAbs / y.natAbs+1)/\x % y=((y.natAbs - x.natAbs % y.natAbs:Nat):Int) else x / y=zN (decide (x < 0) != decide (y < 0)) (x.natAbs / y.natAbs)/\x % y=((x.natAbs % y.natAbs:Nat):Int):=by
 have h:=Kz x y.natAbs (by omega)
 rcases Int.lt_or_le y 0 with hn | hp
 ·have e:y=-((y.natAbs:Nat):Int):=by omega
  have ed:x / y=-(x / ((y.natAbs:Nat):Int)):=by conv=>lhs;rw [e,Int.ediv_neg]
  have em:x % y=x % ((y.natAbs:Nat):Int):=by conv=>lhs;rw [e,Int.emod_neg]
  rw [ed,em]
  simp only [hn,decide_true]
  split at h
  ·rename_i hc
   rw [if_pos hc,h.1]
   refine ⟨?_,h.2⟩
   simp [zN,hc.1]
  ·rename_i hc
   rw [if_neg hc,h.1]
   refine ⟨?_,h.2⟩
   cases hd:decide (x < 0)<;>simp [zN]
 ·have e:((y.natAbs:Nat):Int)=y:=by omega
  rw [e] at h
  have hn:¬ y < 0:=by omega
  simp only [hn,decide_false]
  split at h
  ·rename_i hc
   rw [if_pos hc,h.1]
   refine ⟨?_,h.2⟩
   simp [zN,hc.1]
  ·rename_i hc
   rw [if_neg hc,h.1]
   refine ⟨?_,h.2⟩
   cases hd:decide (x < 0)<;>simp [zN]
theorem Fe:Instr.fill (fun k=>some (k*1,1)) (Array.replicate 32 (Value.int .u32 0)) [(0,.int .u32 1)]=some (mA 1):=by
 have:=uh (N:=1) (by omega) (a:=1) (b:=0) rfl rfl
 exact this
theorem wF {A B:Array Value} {x y:Int} (hA:IsI A x) (hB:IsI B y) (hy:y≠0):aw Tryz.prog 215 [SV.c (.agg A),SV.c (.agg B)] (.tuple #[.agg (eA (x / y)),.agg (eA (x % y)),.int .i64 0]):=by
 refine dz [9] ai ak Oh _ _ rfl rfl fun w=>?_
 have hx:=hA.lt
 have hyl:=hB.lt
 have hb0:0 < y.natAbs:=by omega
 have hall:=Ft x y hy
 refine ⟨hA.size,hB.size,.inl ⟨_,du hA,aI _,.inl ⟨_,du hB,aI _,mA 0,eK fZ,_,uj rfl hyl bU,fun h=>?_,fun h=>?_⟩⟩⟩
 ·exfalso
  have:=af h
  omega
 have hql:x.natAbs / y.natAbs < BB ^ 32:=Nat.lt_of_le_of_lt (Nat.div_le_self _ _) hx
 have hrl:x.natAbs % y.natAbs < y.natAbs:=Nat.mod_lt _ hb0
 have hrb:x.natAbs % y.natAbs < BB ^ 32:=Nat.lt_trans hrl hyl
 refine .inr ⟨_,_,_,qX hx hyl hb0 _ rfl _ _ (by decide),⟨rfl,rfl,trivial⟩,rfl,aI _,aI _,?_⟩
 refine ⟨fun f mm=>∃ q r:Nat,q < BB ^ 32/\r < BB ^ 32/\x / y=zN (decide (x < 0) != decide (y < 0)) q/\x % y=r/\f=[(4,SV.ptr 4 0),(5,SV.ptr 5 0),(7,SV.c (.bool (decide (x < 0)))),(9,SV.c (.bool (decide (y < 0)))),(11,SV.ptr 11 0),(12,SV.ptr 12 0)]/\mm=[(4,Blk.row 31 33 fJ.zero),(5,Blk.row 31 33 fJ.zero),(11,Blk.row 201 32 (mA q)),(12,Blk.row 201 32 (mA r))],⟨fun h1=>⟨mA 0,eK fZ,_,kD rfl hrb bU,fun h2=>?_,fun h2=>?_⟩,fun h1=>⟨nofun,fun _=>?_⟩⟩,?_⟩
 ·have h1:=af h1
  have h2:x.natAbs % y.natAbs≠0:=by simpa using h2
  rw [if_pos ⟨h1,h2⟩] at hall
  have hql2:x.natAbs / y.natAbs+1 < BB ^ 32:=by
   have hb2:2<=y.natAbs:=by
    rcases Nat.lt_or_ge y.natAbs 2 with h | h
    ·have:y.natAbs=1:=by omega
     rw [this,Nat.mod_one] at h2;exact absurd rfl h2
    ·exact h
   have h3:x.natAbs / y.natAbs<=x.natAbs / 2:=Nat.div_le_div_left hb2 (by omega)
   have h4:4<=BB ^ 32:=Nat.le_trans (by omega) jR
   omega
  refine ⟨mA 1,Fe,cf _,.inr ⟨_,_,_,vC hql (Nat.lt_of_lt_of_le (by omega:1 < 18446744073709551616) jR) _ rfl _ _ (by decide),⟨rfl,rfl,trivial⟩,rfl,aI _,.inr ⟨_,_,_,od hyl (Nat.le_of_lt hrl) _ rfl _ _ (by decide),⟨rfl,rfl,trivial⟩,rfl,aI _,_,_,⟨x.natAbs / y.natAbs+1,_,hql2,Nat.lt_of_le_of_lt (Nat.sub_le _ _) hyl,hall.1,hall.2,rfl,rfl⟩,⟨rfl,rfl,rfl,rfl,rfl,rfl,trivial⟩,⟨rfl,rfl,bE (by rw [Nat.mod_eq_of_lt hql2]),rfl,trivial⟩,rfl⟩⟩⟩
 ·have h2:x.natAbs % y.natAbs=0:=by simpa using h2
  rw [if_neg (fun h=>h.2 h2)] at hall
  exact ⟨_,_,⟨_,_,hql,hrb,hall.1,hall.2,rfl,rfl⟩,⟨rfl,rfl,rfl,rfl,rfl,rfl,trivial⟩,⟨rfl,rfl,rfl,rfl,trivial⟩,rfl⟩
 ·have h1:=ag h1
  rw [if_neg (fun h=>h1 h.1)] at hall
  exact ⟨_,_,⟨_,_,hql,hrb,hall.1,hall.2,rfl,rfl⟩,⟨rfl,rfl,rfl,rfl,rfl,rfl,trivial⟩,⟨rfl,rfl,rfl,rfl,trivial⟩,rfl⟩
 ·rintro f mm ⟨q,r,hq,hr,e1,e2,rfl,rfl⟩
  have m1:=jE (decide (x < 0) != decide (y < 0)) q hq
  have m2:=jE false r hr
  rw [<- e1] at m1
  rw [show zN false r=x % y from e2.symm] at m2
  exact .inl ⟨_,m1,.inl ⟨_,m2,ao _,ao _,by kernel_rfl,rfl,trivial⟩⟩
theorem IY {A B:Array Value} {x y:Int} (hA:IsI A x) (hB:IsI B y):aw Tryz.prog 163 [SV.c (.agg A),SV.c (.agg B)] (.agg (eA ((Int.gcd x y:Nat):Int))):=by
 refine aj ai ak Pa _ _ rfl rfl fun w=>?_
 refine ⟨hA.size,hB.size,.inl ⟨_,du hA,aI _,.inl ⟨_,du hB,aI _,?_⟩⟩⟩
 refine ⟨fun q f mm=>∃ a:Nat,a < BB ^ 32/\q < BB ^ 32/\Nat.gcd a q=Int.gcd x y/\f=[(4,SV.ptr 4 0),(6,SV.ptr 6 0),(8,SV.ptr 8 0)]/\mm=[(4,Blk.row 31 33 fJ.zero),(6,Blk.row 201 32 (mA a)),(8,Blk.row 201 32 (mA q))],_,⟨_,_,⟨_,hA.lt,hB.lt,rfl,rfl,rfl⟩,⟨rfl,rfl,rfl,trivial⟩,⟨rfl,rfl,rfl,trivial⟩,rfl⟩,?_⟩
 rintro q f mm ⟨a,ha,hq,hg,rfl,rfl⟩
 refine ⟨mA 0,eK fZ,_,kD rfl hq bU,fun h=>?_,fun h=>?_⟩
 ·have hq0:0 < q:=by
    have:q≠0:=by simpa using h
    omega
  have hr:=Nat.mod_lt a hq0
  exact .inr ⟨_,_,_,qX ha hq hq0 _ rfl _ _ (by decide),⟨rfl,rfl,trivial⟩,rfl,aI _,aI _,aI _,aI _,by kernel_rfl,a % q,_,_,hr,⟨_,hq,Nat.lt_trans hr hq,by rw [<- hg,Nat.gcd_comm a q,Nat.gcd_rec q a,Nat.gcd_comm],rfl,rfl⟩,⟨rfl,rfl,rfl,trivial⟩,⟨rfl,rfl,rfl,trivial⟩,rfl⟩
 ·have hq0:q=0:=by simpa using h
  subst hq0
  have m1:=jE false a ha
  rw [Nat.gcd_zero_right] at hg
  rw [show zN false a=((Int.gcd x y:Nat):Int) by rw [<- hg];rfl] at m1
  exact .inl ⟨_,m1,ao _,rfl,trivial⟩
def dG (z:Int):Value:=if -9223372036854775808<=z/\z<=9223372036854775807 then .tuple #[.int .i64 z,.bool true] else .tuple #[.int .i64 0,.bool false]
theorem GS {A:Array Value} {z:Int} (hA:IsI A z):aw Tryz.prog 169 [SV.c (.agg A)] (dG z):=by
 refine aj ai ak O4 _ _ rfl rfl fun w=>?_
 obtain ⟨hb1,hb2⟩:=cW z.natAbs
 refine ⟨hA.size,.inl ⟨_,du hA,aI _,.inr ⟨_,_,_,xj hA.lt _ rfl _,⟨rfl,trivial⟩,rfl,fun h=>?_,fun h=>?_⟩⟩⟩
 ·have h:64 < bl z.natAbs:=by have:=af h;omega
  have h5:=hb2 (by omega)
  have h6:2 ^ 64<=2 ^ (bl z.natAbs - 1):=Nat.pow_le_pow_right (by omega) (by omega)
  exact ⟨by rw [dG,if_neg (by omega)];rfl,trivial⟩
 have h:bl z.natAbs<=64:=by have:=ag h;omega
 have hz:z.natAbs < 18446744073709551616:=by
  have h6:2 ^ bl z.natAbs<=2 ^ 64:=Nat.pow_le_pow_right (by omega) h
  omega
 have eu:=BU (aR z.natAbs 1) (aR z.natAbs 0) rfl rfl
 have ed:dg z.natAbs 1*BB+dg z.natAbs 0=z.natAbs:=by
  simp only [dg,aS,Nat.pow_one,Nat.pow_zero,Nat.div_one];omega
 rw [ed] at eu
 have g1:(mA z.natAbs)[1]? = some (.int .u32 (dg z.natAbs 1:Nat)):=bo (by omega)
 have g0:(mA z.natAbs)[0]? = some (.int .u32 (dg z.natAbs 0:Nat)):=bo (by omega)
 refine ⟨by decide,by decide,_,g1,by decide,by decide,by decide,_,g0,fun h1=>⟨fun h2=>?_,fun h2=>?_⟩,fun h1=>⟨nofun,fun _=>?_⟩⟩
 ·rw [eu] at h2
  have h1:=af h1
  have h2:=af h2
  refine ⟨?_,trivial⟩
  rw [dG,if_pos (by omega)]
  refine jY (iv ?_) rfl
  rw [eu,ee,IntKind.wrap_i64]
  omega
 ·rw [eu] at h2
  have h1:=af h1
  have h2:=ag h2
  refine ⟨fun h3=>?_,fun h3=>⟨nofun,fun _=>⟨?_,trivial⟩⟩⟩
  ·exfalso
   simp [h1] at h3
  ·rw [dG,if_neg (by omega)];rfl
 ·have h1:=ag h1
  refine ⟨fun h3=>⟨fun h2=>?_,fun h2=>?_⟩,fun h3=>?_⟩
  ·rw [eu] at h2
   have h2:=af h2
   refine ⟨?_,trivial⟩
   rw [dG,if_pos (by omega)]
   refine jY (iv ?_) rfl
   rw [eu,IntKind.wrap_i64]
   omega
  ·rw [eu] at h2
   have h2:=ag h2
   exact ⟨by rw [dG,if_neg (by omega)];rfl,trivial⟩
  ·exfalso
   simp [h1] at h3
theorem cv {P:Program} {e:TypeId} {i:TI} (h:TIok P e i) (hr:i.row=true) (xs:Array Value) (off:Nat) (w:World):(part e xs off).run P w=.ok (.agg (xs.extract off (off+i.size))) w:=by
 simp [part,nR h,run_sizeOf h,hr]
theorem bm {P:Program} {e:TypeId} {i:TI} (h:TIok P e i) (hr:i.row=false) {xs:Array Value} {off:Nat} {v:Value} (hx:xs[off]? = some v) (w:World):(part e xs off).run P w=.ok v w:=by
 simp [part,nR h,hr,hx]
theorem cg {P:Program} {d:Nat} {xs ys:Array Value} {f:Field} {fs:List Field} {a b:Value} {r s:Bool} {w:World} (hn:f.name ≠ "_") (ha:(part f.type xs f.offset).run P w=.ok a w) (hb:(part f.type ys f.offset).run P w=.ok b w) (hr:(Op.equalIn d f.type a b).run P w=.ok r w) (hs:r=true->(Op.eqFields d xs ys fs).run P w=.ok s w) :
    (Op.eqFields d xs ys (f :: fs)).run P w=.ok (r && s) w:=by
 simp only [Op.eqFields,if_pos hn,Sem.run_bind,ha,hb,hr,Result.andThen_ok]
 cases r
 ·simp
 ·simpa using hs rfl
theorem pC {P:Program} {d:Nat} {xs ys:Array Value} {w:World}:(Op.eqFields d xs ys []).run P w=.ok true w:=rfl
theorem ma {d:Nat} {a b:Bool} {N M:Nat} (hN:N < BB ^ 32) (hM:M < BB ^ 32) (w:World):(Op.equalIn (d+1+1+1) 31 (.agg (iA a N)) (.agg (iA b M))).run Tryz.prog w=.ok (a == b && (decide (N=M) && true)) w:=by
 rw [run_equalIn_struct w (d+1+1) 31 _ _ (by simp only [Program.fieldsOf,Tryz.underlying31]) (by kernel_rfl)]
 rw [show (Tryz.prog.fieldsOf 31).toList=[⟨ "Neg",4,0,false,"","",0⟩,⟨ "Mag",29,1,false,"","",4⟩] from by simp only [Program.fieldsOf,Tryz.underlying31]]
 refine cg (by decide) (bm Lg rfl dJ w) (bm Lg rfl dJ w) (run_equalIn_bool' w _ 4 a b Tryz.underlying4) fun _=>?_
 refine cg (by decide) (cv IC rfl _ _ w) (cv IC rfl _ _ w) ?_ fun _=>pC
 rw [show (1:Nat)+JH.size=33 from rfl,cz,cz]
 exact yy hN hM 29 Tryz.underlying29 w
theorem Kw {x y:Int}:(decide (x < 0) == decide (y < 0) && (decide (x.natAbs=y.natAbs) && true))=decide (x=y):=by
 rw [Bool.eq_iff_iff]
 simp only [Bool.and_eq_true,beq_iff_eq,decide_eq_true_eq,and_true,decide_eq_decide]
 omega
theorem Ku {d:Nat} {x y:Int} (hx:x.natAbs < BB ^ 32) (hy:y.natAbs < BB ^ 32) (w:World):(Op.equalIn (d+1+1+1) 31 (.agg (eA x)) (.agg (eA y))).run Tryz.prog w=.ok (decide (x=y)) w:=by
 rw [<- Kw];exact ma hx hy w
theorem BW:Tryz.prog.eqGuardType Tryz.prog.depth 31=false:=by kernel_rfl
theorem uk {E:Env} (hE:E.P=Tryz.prog) {x y:Int} (hx:x.natAbs < BB ^ 32) (hy:y.natAbs < BB ^ 32) {u v:Operand}:bB E (do eqGuard .eql 31 u v (.agg (eA x)) (.agg (eA y));binOp .eql 31 (.agg (eA x)) (.agg (eA y))) (.bool (decide (x=y))) :=
 mL (by rw [hE];exact BW) fun w=>by rw [hE];exact Ku hx hy w
theorem bnt {b:Bool} (h:(!b)=true):b=false:=by simpa using h
theorem bq {b:Bool} (h:(!b)=false):b=true:=by simpa using h
theorem bnf {b:Bool} (h:(!b)=!true):b=true:=by simpa using h
theorem cat_size {A B:Array Value} (hA:A.size=33) (hB:B.size=33):(A++B).size=66:=by simp [hA,hB]
theorem cat_l {A B:Array Value} (hA:A.size=33):(A++B).extract 0 (0+33)=A:=by
 rw [Array.extract_append]
 simp [hA]
theorem cat_r {A B:Array Value} (hA:A.size=33) (hB:B.size=33):(A++B).extract 33 (33+33)=B:=by
 rw [Array.extract_append,hA,Array.extract_eq_empty_of_le (by omega),Array.empty_append]
 have:B.extract 0 B.size=B:=Array.extract_size
 rw [hB] at this
 exact this
theorem ra {A B:Array Value} (hA:Fits A 33) (hB:Fits B 33):Fits (A++B) 66:=⟨cat_size hA.size hB.size,by rw [Array.all_append,hA.one,hB.one];rfl⟩
structure RQ where
 a:Bool
 N:Nat
 b:Bool
 D:Nat
def RQ.A (r:RQ):Array Value:=iA r.a r.N++iA r.b r.D
def RQ.p (r:RQ):Int:=zN r.a r.N
def RQ.q (r:RQ):Int:=zN r.b r.D
structure RQ.In (r:RQ):Prop where
 N:r.N < BB ^ 32
 D:r.D < BB ^ 32
def RQ.of (p q:Int):RQ:=⟨decide (p < 0),p.natAbs,decide (q < 0),q.natAbs⟩
theorem yX (z:Int):zN (decide (z < 0)) z.natAbs=z:=by
 unfold zN
 by_cases e:z < 0
 ·simp [e];omega
 ·simp [e];omega
theorem RQ.of_p (p q:Int):(RQ.of p q).p=p:=yX p
theorem RQ.of_q (p q:Int):(RQ.of p q).q=q:=yX q
theorem RQ.A_fits (r:RQ):Fits r.A 66:=ra (fA _ _) (fA _ _)
theorem RQ.A_size (r:RQ):r.A.size=66:=r.A_fits.size
theorem RQ.In.num {r:RQ} (h:r.In):IsI (iA r.a r.N) r.p:=⟨_,_,h.N,rfl,rfl⟩
theorem RQ.In.den {r:RQ} (h:r.In):IsI (iA r.b r.D) r.q:=⟨_,_,h.D,rfl,rfl⟩
theorem RQ.cat_l (r:RQ):r.A.extract 0 (0+33)=iA r.a r.N:=YtklehfchdoikeaaGreatDoor.cat_l (br _ _)
theorem RQ.cat_r (r:RQ):r.A.extract 33 (33+33)=iA r.b r.D:=YtklehfchdoikeaaGreatDoor.cat_r (br _ _) (br _ _)
def RQ.ok (r:RQ):Bool:=decide (bl r.N<=480/\bl r.D<=480/\(r.a=true->r.N≠0)/\r.b=false/\0 < r.D/\Nat.gcd r.N r.D=1)
theorem sX (a:Bool) {N:Nat} (hN:N < BB ^ 32):aw Tryz.prog 161 [SV.c (.agg (iA a N))] (.bool (decide (a=true->N≠0))):=by
 refine aj ai ak Pc _ _ rfl rfl fun w=>?_
 refine ⟨br _ _,_,dJ,fun h=>?_,fun h=>?_⟩
 ·have h:a=true:=by simpa using h
  subst h
  refine .inl ⟨_,iT ⟨_,_,hN,rfl,rfl⟩,bv ?_,trivial⟩
  rw [Bool.eq_iff_iff]
  simp only [decide_eq_true_eq,sgn,zN]
  by_cases h:N=0
  ·subst h;simp
  ·simp [h];omega
 ·have h:a=false:=by simpa using h
  subst h
  exact ⟨bv (by simp),trivial⟩
theorem qR {r:RQ} (h:r.In):aw Tryz.prog 160 [SV.c (.agg r.A)] (.bool (decide (bl r.N<=480/\bl r.D<=480))):=by
 refine aj ai ak Pd _ _ rfl rfl fun w=>?_
 have h1:=AI h.num
 have h2:=AI h.den
 rw [RQ.p,bD] at h1
 rw [RQ.q,bD] at h2
 refine ⟨r.A_size,by decide,_,r.cat_l,.inl ⟨_,h1,fun h3=>⟨by decide,_,r.cat_r,.inl ⟨_,h2,?_⟩⟩,fun h3=>?_⟩⟩
 ·have h3:=af h3
  refine ⟨bv ?_,trivial⟩
  rw [Bool.eq_iff_iff]
  simp only [decide_eq_true_eq]
  omega
 ·have h3:=ag h3
  exact ⟨bv (decide_eq_false (by omega)).symm,trivial⟩
theorem l8 (a:Bool) (N:Nat) (b:Bool) (D:Nat):Int.gcd (zN a N) (zN b D)=Nat.gcd N D:=by
 unfold Int.gcd
 rw [bD,bD]
theorem cN {r:RQ} (h:r.In):aw Tryz.prog 100 [SV.c (.agg r.A)] (.bool r.ok):=by
 refine aj ai ak Qg _ _ rfl rfl fun w=>?_
 have one:aw Tryz.prog 103 [SV.c (.int .i64 1)] (.agg (eA 1)):=fe 1 (by omega) (by omega)
 have hg:((Int.gcd r.p r.q:Nat):Int).natAbs < BB ^ 32:=by
  rw [RQ.p,RQ.q,l8,Int.natAbs_natCast]
  rcases Nat.eq_zero_or_pos r.N with e | e
  ·rw [e,Nat.gcd_zero_left];exact h.D
  ·exact Nat.lt_of_le_of_lt (Nat.gcd_le_left _ e) h.N
 have h1l:(1:Int).natAbs < BB ^ 32:=Nat.lt_of_lt_of_le (by decide:1 < 18446744073709551616) jR
 refine ⟨r.A_size,.inl ⟨_,qR h,fun h1=>⟨by decide,_,r.cat_l,.inl ⟨_,sX _ h.N,fun h2=>⟨by decide,_,r.cat_r,.inl ⟨_,sX _ h.D,fun h3=>⟨by decide,_,r.cat_r,.inl ⟨_,iT h.den,fun h4=>⟨by decide,_,r.cat_l,by decide,_,r.cat_r,.inl ⟨_,IY h.num h.den,.inl ⟨_,one,_,uk rfl hg h1l,bv ?_,trivial⟩⟩⟩,?_⟩⟩,?_⟩⟩,?_⟩⟩,fun h1=>?_⟩⟩
 ·have h1:=af h1
  have h2:=af h2
  have h3:=af h3
  have h4:=af h4
  rw [Bool.eq_iff_iff]
  simp only [decide_eq_true_eq,RQ.ok]
  rw [RQ.p,RQ.q,l8]
  have hb:r.b=false/\0 < r.D:=by
   unfold sgn at h4
   rw [RQ.q] at h4
   cases hb:r.b
   ·rw [hb] at h4;simp only [zN,Bool.false_eq_true,if_false] at h4
    refine ⟨rfl,?_⟩
    rcases Nat.eq_zero_or_pos r.D with e | e
    ·rw [e] at h4;simp at h4
    ·exact e
   ·rw [hb] at h4;simp only [zN,if_true] at h4
    exfalso
    split at h4
    ·omega
    ·split at h4<;>omega
  constructor
  ·intro h;exact ⟨h1.1,h1.2,h2,hb.1,hb.2,by omega⟩
  ·intro h;have:=h.2.2.2.2.2;omega
 ·intro h4
  have h4:=ag h4
  refine ⟨bv (decide_eq_false fun hh=>h4 ?_).symm,trivial⟩
  rw [RQ.q,hh.2.2.2.1]
  unfold sgn zN
  simp
  have:=hh.2.2.2.2.1
  omega
 ·intro h3
  have h3:=ag h3
  repeat refine ⟨nofun,fun _=>?_⟩
  refine ⟨bv (decide_eq_false fun hh=>h3 fun hb=>?_).symm,trivial⟩
  rw [hh.2.2.2.1] at hb;cases hb
 ·intro h2
  have h2:=ag h2
  repeat refine ⟨nofun,fun _=>?_⟩
  exact ⟨bv (decide_eq_false fun hh=>h2 hh.2.2.1).symm,trivial⟩
 ·have h1:=ag h1
  repeat refine ⟨nofun,fun _=>?_⟩
  exact ⟨bv (decide_eq_false fun hh=>h1 ⟨hh.1,hh.2.1⟩).symm,trivial⟩

theorem dm {A B:Array Value} {x y:Int} (hA:IsI A x) (hB:IsI B y) (hl:(x*y).natAbs < BB ^ 32):aw Tryz.prog 185 [SV.c (.agg A),SV.c (.agg B)] (.agg (eA (x*y))):=by
 refine aj ai ak OK _ _ rfl rfl fun w=>?_
 have h:=Eb hA hB
 rw [eD,if_pos hl] at h
 exact ⟨hA.size,hB.size,.inl ⟨_,h,ao _,ao _,rfl,trivial⟩⟩
theorem o9 {A B:Array Value} {x y:Int} (hA:IsI A x) (hB:IsI B y) (hy:y≠0):aw Tryz.prog 165 [SV.c (.agg A),SV.c (.agg B)] (.agg (eA (x / y))):=by
 refine aj ai ak O8 _ _ rfl rfl fun w=>?_
 exact ⟨hA.size,hB.size,.inl ⟨_,wF hA hB hy,ao _,ao _,ao _,rfl,trivial⟩⟩
def mkQ (x y:Int):RQ×Int :=
 if y=0 then (.of 0 0,11) else
 if bl (x / (sgn y*Int.gcd x y)).natAbs<=480/\bl (y / (sgn y*Int.gcd x y)).natAbs<=480 then (.of (x / (sgn y*Int.gcd x y)) (y / (sgn y*Int.gcd x y)),0) else (.of 0 0,10)
def iW (x:RQ×Int):Value:=.tuple #[.agg x.1.A,.int .i64 x.2]
theorem eX {A B Z:Array Value} (hA:A.size=33) (hB:B.size=33) (hZ:Z.size=66) {pl:List (Nat×Nat)} (hpl:pl=[(0,33),(33,33)]):Instr.fill (fun k=>pl[k]?) Z [(0,.agg A),(1,.agg B)]=some (A++B):=by
 subst hpl
 have:=nl (pl:=fun k=>[(0,33),(33,33)][k]?) (vs:=[.agg A,.agg B]) (Z:=Z) ⟨by simp [Value.cells,hA],by simp [Value.cells,hA,hB],trivial⟩ (by simp [jM,Value.cells,hA,hB,hZ])
 rw [show jM [.agg A,.agg B]=A++B by simp [jM,Value.cells]] at this
 exact this
theorem cR {y:Int}:(sgn y == 0)=decide (y=0):=by
 rw [Bool.eq_iff_iff]
 simp only [beq_iff_eq,decide_eq_true_eq]
 unfold sgn
 split
 ·omega
 ·split<;>simp_all
theorem gQ {y:Int}:decide (sgn y < 0)=decide (y < 0):=by
 rw [Bool.eq_iff_iff]
 simp only [decide_eq_true_eq]
 unfold sgn
 split
 ·omega
 ·split<;>omega
theorem yu {x y:Int} (hy:y≠0):0 < Int.gcd x y/\Int.gcd x y<=y.natAbs:=⟨Int.gcd_pos_of_ne_zero_right _ hy,Nat.gcd_le_right _ (by omega)⟩
theorem tX {A B:Array Value} {x y:Int} (hA:IsI A x) (hB:IsI B y):aw Tryz.prog 101 [SV.c (.agg A),SV.c (.agg B)] (iW (mkQ x y)):=by
 refine aj ai ak Qf _ _ rfl rfl fun w=>?_
 refine ⟨hA.size,hB.size,.inl ⟨_,iT hB,fun h=>?_,fun h=>.inl ⟨_,IY hA hB,ao _,.inl ⟨_,iT hB,fun h2=>?_,fun h2=>?_⟩⟩⟩⟩
 ·rw [cR] at h
  have h:=af h
  refine ⟨bZ.zero,rfl,(RQ.of 0 0).A_fits,?_,trivial⟩
  rw [mkQ,if_pos h];rfl
 ·rw [cR] at h
  have h:=ag h
  rw [gQ] at h2
  have h2:=af h2
  obtain ⟨g1,g2⟩:=yu (x:=x) h
  have gl:((Int.gcd x y:Nat):Int).natAbs < BB ^ 32:=by have:=hB.lt;omega
  have eg : -((Int.gcd x y:Nat):Int)=sgn y*Int.gcd x y:=by unfold sgn;rw [if_pos h2];omega
  have hn:=IQ (aJ gl)
  have gl2:(-((Int.gcd x y:Nat):Int)).natAbs < BB ^ 32:=by rw [Int.natAbs_neg];exact gl
  have gn : -((Int.gcd x y:Nat):Int)≠0:=by omega
  rw [mkQ,if_neg h,<- eg]
  refine .inl ⟨_,hn,ao _,?_⟩
  have w1:=o9 hA (aJ gl2) gn
  have w2:=o9 hB (aJ gl2) gn
  have hin:(RQ.of (x / -((Int.gcd x y:Nat):Int)) (y / -((Int.gcd x y:Nat):Int))).In:=⟨Nat.lt_of_le_of_lt (Int.natAbs_ediv_le_natAbs x _) hA.lt,Nat.lt_of_le_of_lt (Int.natAbs_ediv_le_natAbs y _) hB.lt⟩
  have hf:=qR hin
  refine .inl ⟨_,w1,.inl ⟨_,w2,_,eX (bW _) (bW _) rfl rfl,(RQ.of (x / -((Int.gcd x y:Nat):Int)) (y / -((Int.gcd x y:Nat):Int))).A_fits,by kernel_rfl,.inl ⟨_,hf,fun h5=>?_,fun h5=>?_⟩⟩⟩
  ·have h5:decide (bl (x / -((Int.gcd x y:Nat):Int)).natAbs<=480/\bl (y / -((Int.gcd x y:Nat):Int)).natAbs<=480)=false:=bnt h5
   have h5:=ag h5
   refine ⟨bZ.zero,rfl,(RQ.of 0 0).A_fits,?_,trivial⟩
   rw [if_neg h5];rfl
  ·have h5:decide (bl (x / -((Int.gcd x y:Nat):Int)).natAbs<=480/\bl (y / -((Int.gcd x y:Nat):Int)).natAbs<=480)=true:=bnf h5
   have h5:=af h5
   refine ⟨(RQ.of (x / -((Int.gcd x y:Nat):Int)) (y / -((Int.gcd x y:Nat):Int))).A_fits,?_,trivial⟩
   rw [if_pos h5];rfl
 ·rw [cR] at h
  have h:=ag h
  rw [gQ] at h2
  have h2:=ag h2
  obtain ⟨g1,g2⟩:=yu (x:=x) h
  have gl:((Int.gcd x y:Nat):Int).natAbs < BB ^ 32:=by have:=hB.lt;omega
  have eg:((Int.gcd x y:Nat):Int)=sgn y*Int.gcd x y:=by unfold sgn;rw [if_neg h2,if_neg h];omega
  have gn:((Int.gcd x y:Nat):Int)≠0:=by omega
  rw [mkQ,if_neg h,<- eg]
  have w1:=o9 hA (aJ gl) gn
  have w2:=o9 hB (aJ gl) gn
  have hin:(RQ.of (x / ((Int.gcd x y:Nat):Int)) (y / ((Int.gcd x y:Nat):Int))).In:=⟨Nat.lt_of_le_of_lt (Int.natAbs_ediv_le_natAbs x _) hA.lt,Nat.lt_of_le_of_lt (Int.natAbs_ediv_le_natAbs y _) hB.lt⟩
  have hf:=qR hin
  refine .inl ⟨_,w1,.inl ⟨_,w2,_,eX (bW _) (bW _) rfl rfl,(RQ.of (x / ((Int.gcd x y:Nat):Int)) (y / ((Int.gcd x y:Nat):Int))).A_fits,by kernel_rfl,.inl ⟨_,hf,fun h5=>?_,fun h5=>?_⟩⟩⟩
  ·have h5:decide (bl (x / ((Int.gcd x y:Nat):Int)).natAbs<=480/\bl (y / ((Int.gcd x y:Nat):Int)).natAbs<=480)=false:=bnt h5
   have h5:=ag h5
   refine ⟨bZ.zero,rfl,(RQ.of 0 0).A_fits,?_,trivial⟩
   rw [if_neg h5];rfl
  ·have h5:decide (bl (x / ((Int.gcd x y:Nat):Int)).natAbs<=480/\bl (y / ((Int.gcd x y:Nat):Int)).natAbs<=480)=true:=bnf h5
   have h5:=af h5
   refine ⟨(RQ.of (x / ((Int.gcd x y:Nat):Int)) (y / ((Int.gcd x y:Nat):Int))).A_fits,?_,trivial⟩
   rw [if_pos h5];rfl

def d7:Nat:=480
def km:Nat:=960
def yB:Nat:=309
def Al:Nat:=1024
theorem qF:2 ^ d7 < BB ^ 32:=by decide +kernel
theorem wa:2 ^ km < BB ^ 32:=by decide +kernel
theorem Af:2 ^ km+2 ^ km < BB ^ 32:=by decide +kernel
theorem fx (x y:Int):(mkQ x y).1.In:=by
 have hp:2 ^ d7 < BB ^ 32:=qF
 have key:∀ z:Int,bl z.natAbs<=480->z.natAbs < BB ^ 32:=fun z h=>Nat.lt_trans (Nat.lt_of_lt_of_le (cW _).1 (Nat.pow_le_pow_right (j:=d7) (by omega) h)) hp
 have hz:(RQ.of 0 0).In:=⟨bU,bU⟩
 unfold mkQ
 split
 ·exact hz
 ·split
  ·rename_i h;exact ⟨key _ h.1,key _ h.2⟩
  ·exact hz
theorem dP {n:Int} (h1 : -9223372036854775808<=n) (h2:n<=9223372036854775807):n.natAbs < BB ^ 32:=Nat.lt_of_lt_of_le (by omega:n.natAbs < 18446744073709551616) jR
theorem Q3 {n d:Int} (h1 : -9223372036854775808<=n) (h2:n<=9223372036854775807) (h3 : -9223372036854775808<=d) (h4:d<=9223372036854775807):aw Tryz.prog 361 [SV.c (.int .i64 n),SV.c (.int .i64 d)] (iW (mkQ n d)):=by
 refine aj ai ak MP _ _ rfl rfl fun w=>?_
 refine .inl ⟨_,fe n h1 h2,.inl ⟨_,fe d h3 h4,.inl ⟨_,tX (aJ (dP h1 h2)) (aJ (dP h3 h4)),RQ.A_fits _,rfl,trivial⟩⟩⟩
theorem d8 {n:Int} (h1 : -9223372036854775808<=n) (h2:n<=9223372036854775807):aw Tryz.prog 90 [SV.c (.int .i64 n)] (.agg (RQ.of n 1).A):=by
 refine aj ai ak Rg _ _ rfl rfl fun w=>?_
 refine .inl ⟨_,fe n h1 h2,.inl ⟨_,fe 1 (by omega) (by omega),_,eX (bW _) (bW _) rfl rfl,(RQ.of n 1).A_fits,rfl,trivial⟩⟩
theorem ku {x y:Int} (hx:bl x.natAbs<=480) (hy:bl y.natAbs<=480):(x*y).natAbs < 2 ^ km:=by
 have h1:x.natAbs < 2 ^ d7:=Nat.lt_of_lt_of_le (cW _).1 (Nat.pow_le_pow_right (by omega) hx)
 have h2:y.natAbs < 2 ^ d7:=Nat.lt_of_lt_of_le (cW _).1 (Nat.pow_le_pow_right (by omega) hy)
 rw [Int.natAbs_mul,show km=d7+d7 from rfl,Nat.pow_add]
 exact Nat.mul_lt_mul'' h1 h2
theorem J7 {r s:RQ} (hr:r.In) (hs:s.In) (h1:(r.p*s.p).natAbs < BB ^ 32) (h2:(r.q*s.q).natAbs < BB ^ 32):aw Tryz.prog 209 [SV.c (.agg r.A),SV.c (.agg s.A)] (.tuple #[.agg (eA (r.p*s.p)),.agg (eA (r.q*s.q))]):=by
 refine aj ai ak On _ _ rfl rfl fun w=>?_
 refine ⟨r.A_size,s.A_size,by decide,_,r.cat_l,by decide,_,s.cat_l,.inl ⟨_,dm hr.num hs.num h1,by decide,_,r.cat_r,by decide,_,s.cat_r,.inl ⟨_,dm hr.den hs.den h2,ao _,ao _,by kernel_rfl,rfl,trivial⟩⟩⟩
theorem F8 {r s:RQ} (hr:r.In) (hs:s.In) {g:FuncId} {x y:Int} (hg:r.ok=true->s.ok=true->aw Tryz.prog g [SV.c (.agg r.A),SV.c (.agg s.A)] (.tuple #[.agg (eA x),.agg (eA y)])/\x.natAbs < BB ^ 32/\y.natAbs < BB ^ 32) :
    aw Tryz.prog 207 [SV.c (.agg r.A),SV.c (.agg s.A),SV.c (.func (.func g) #[] #[])] (iW (if r.ok && s.ok then mkQ x y else (.of 0 0,20))):=by
 refine aj ai ak Ja _ _ rfl rfl fun w=>?_
 refine ⟨r.A_size,s.A_size,.inl ⟨_,cN hr,fun h1=>.inl ⟨_,cN hs,fun h2=>?_,fun h2=>?_⟩,fun h1=>?_⟩⟩
 ·have h2:=bnt h2
  refine ⟨bZ.zero,rfl,(RQ.of 0 0).A_fits,?_,trivial⟩
  rw [h2,Bool.and_false,if_neg Bool.false_ne_true];rfl
 ·have h1:=bq h1
  have h2:=bnf h2
  obtain ⟨h3,h4,h5⟩:=hg h1 h2
  refine .inl ⟨_,h3,.inl ⟨_,tX (aJ h4) (aJ h5),RQ.A_fits _,?_,trivial⟩⟩
  rw [h1,h2,Bool.and_true,if_pos rfl];rfl
 ·have h1:=bnt h1
  refine ⟨fun _=>⟨bZ.zero,rfl,(RQ.of 0 0).A_fits,?_,trivial⟩,nofun⟩
  rw [h1,Bool.false_and,if_neg Bool.false_ne_true];rfl
def bI (r s:RQ):RQ×Int:=if r.ok && s.ok then mkQ (r.p*s.p) (r.q*s.q) else (.of 0 0,20)
theorem RQ.ok_bits {r:RQ} (h:r.ok=true):bl r.p.natAbs<=480/\bl r.q.natAbs<=480/\0 < r.q/\Int.gcd r.p r.q=1/\r=.of r.p r.q:=by
 have h:=af h
 obtain ⟨h1,h2,h3,h4,h5,h6⟩:=h
 obtain ⟨a,N,b,D⟩:=r
 simp only [RQ.p,RQ.q,RQ.of] at *
 subst h4
 rw [bD,bD,l8]
 refine ⟨h1,h2,by simp [zN];omega,h6,?_⟩
 congr 1
 ·cases a
  ·simp [zN]
  ·simp [zN];have:=h3 rfl;omega
theorem dh {x y:Int} (hx:bl x.natAbs<=480) (hy:bl y.natAbs<=480):(x*y).natAbs < BB ^ 32:=Nat.lt_trans (ku hx hy) wa
theorem x5 {r s:RQ} (hr:r.In) (hs:s.In):aw Tryz.prog 154 [SV.c (.agg r.A),SV.c (.agg s.A)] (iW (bI r s)):=by
 refine aj ai ak Pi _ _ rfl rfl fun w=>?_
 have h:=F8 (g:=209) (x:=r.p*s.p) (y:=r.q*s.q) hr hs fun h1 h2=>by
  have k1:=RQ.ok_bits h1
  have k2:=RQ.ok_bits h2
  have m1:=dh k1.1 k2.1
  have m2:=dh k1.2.1 k2.2.1
  exact ⟨J7 hr hs m1 m2,m1,m2⟩
 exact ⟨r.A_size,s.A_size,.inl ⟨_,h,RQ.A_fits _,rfl,trivial⟩⟩
theorem wS (m:Bool) (E:Env) (hE:E.P=Tryz.prog) (d:Key):Own E 208 [SV.c (.bool m)] [] (SV.clo 253 [d]) [(d,Blk.row 4 1 #[.bool m])]:=by
 refine JK ai ak Oo E hE [SV.c (.bool m)] 2 253 d 1 4 1 #[.bool m] rfl rfl rfl fun w=>?_
 exact ⟨rfl,rfl,rfl⟩
def sg (m:Bool) (y:Int):Int:=if m then -y else y
theorem Ib {r s:RQ} (hr:r.In) (hs:s.In) (m:Bool) (h1:(r.p*s.q).natAbs < BB ^ 32) (h2:(s.p*r.q).natAbs < BB ^ 32) (h3:(r.q*s.q).natAbs < BB ^ 32) (h4:(r.p*s.q+sg m (s.p*r.q)).natAbs < BB ^ 32) (E:Env) (hE:E.P=Tryz.prog) (d:Key) :
    Own E 253 [SV.c (.agg r.A),SV.c (.agg s.A),SV.ptr d 0] [(d,Blk.row 4 1 #[.bool m])] (SV.c (.tuple #[.agg (eA (r.p*s.q+sg m (s.p*r.q))),.agg (eA (r.q*s.q))])) [(d,Blk.row 4 1 #[.bool m])]:=by
 refine mz ai ak NE E hE d (4,1,#[.bool m],#[.bool m]) [SV.c (.agg r.A),SV.c (.agg s.A),SV.ptr 1000 0] _ rfl rfl fun w b hO=>?_
 refine ⟨r.A_size,s.A_size,by decide,_,s.cat_l,by decide,_,r.cat_r,.inl ⟨_,dm hs.num hr.den h2,ao _,_,rfl,fun hm=>?_,fun hm=>?_⟩⟩
 ·have hm:m=true:=hm
  subst hm
  have ha:=AP (aJ h1) (aJ (z:=sg true (s.p*r.q)) (by show (-(s.p*r.q)).natAbs < _;rw [Int.natAbs_neg];exact h2))
  rw [eD,if_pos h4] at ha
  have hn:aw Tryz.prog 164 [SV.c (.agg (eA (s.p*r.q)))] (.agg (eA (sg true (s.p*r.q)))):=IQ (aJ h2)
  exact .inl ⟨_,hn,ao _,by decide,_,r.cat_l,by decide,_,s.cat_r,.inl ⟨_,dm hr.num hs.den h1,.inl ⟨_,ha,ao _,by kernel_rfl,by decide,_,r.cat_r,by decide,_,s.cat_r,.inl ⟨_,dm hr.den hs.den h3,ao _,ao _,by kernel_rfl,rfl,rfl,trivial⟩⟩⟩⟩
 ·have hm:m=false:=hm
  subst hm
  have ha:=AP (aJ h1) (aJ (z:=sg false (s.p*r.q)) h2)
  rw [eD,if_pos h4] at ha
  exact ⟨by decide,_,r.cat_l,by decide,_,s.cat_r,.inl ⟨_,dm hr.num hs.den h1,.inl ⟨_,ha,ao _,by kernel_rfl,by decide,_,r.cat_r,by decide,_,s.cat_r,.inl ⟨_,dm hr.den hs.den h3,ao _,ao _,by kernel_rfl,rfl,rfl,trivial⟩⟩⟩⟩
theorem Ii {r s:RQ} (hr:r.In) (hs:s.In) {g:FuncId} {x y:Int} {ty:TypeId} {n0:Nat} {C:Array Value} (hg:∀ E:Env,E.P=Tryz.prog->∀ d,r.ok=true->s.ok=true->Own E g [SV.c (.agg r.A),SV.c (.agg s.A),SV.ptr d 0] [(d,Blk.row ty n0 C)] (SV.c (.tuple #[.agg (eA x),.agg (eA y)])) [(d,Blk.row ty n0 C)]) (hx:r.ok=true->s.ok=true->x.natAbs < BB ^ 32) (hy:r.ok=true->s.ok=true->y.natAbs < BB ^ 32) (E:Env) (hE:E.P=Tryz.prog) (d:Key) :
    Own E 207 [SV.c (.agg r.A),SV.c (.agg s.A),SV.clo g [d]] [(d,Blk.row ty n0 C)] (SV.c (iW (if r.ok && s.ok then mkQ x y else (.of 0 0,20)))) [(d,Blk.row ty n0 C)]:=by
 have hd:[SV.c (.agg r.A),SV.c (.agg s.A),SV.clo g [d]]=[SV.c (.agg r.A),SV.c (.agg s.A),SV.clo g [1000]].map (tF [⟨1000,d,ty,n0,C,C⟩]):=rfl
 rw [hd]
 refine mz ai ak Ja E hE d (ty,n0,C,C) [SV.c (.agg r.A),SV.c (.agg s.A),SV.clo g [1000]] _ rfl rfl fun w b hO=>?_
 refine ⟨r.A_size,s.A_size,.inl ⟨_,cN hr,fun h1=>.inl ⟨_,cN hs,fun h2=>?_,fun h2=>?_⟩,fun h1=>?_⟩⟩
 ·have h2:=bnt h2
  refine ⟨bZ.zero,rfl,(RQ.of 0 0).A_fits,?_,rfl,trivial⟩
  rw [h2,Bool.and_false,if_neg Bool.false_ne_true];rfl
 ·have h1:=bq h1
  have h2:=bnf h2
  have h4:=hx h1 h2
  have h5:=hy h1 h2
  refine .inr ⟨_,_,_,hg _ rfl _ h1 h2,⟨rfl,trivial⟩,rfl,.inl ⟨_,tX (aJ h4) (aJ h5),RQ.A_fits _,?_,rfl,trivial⟩⟩
  rw [h1,h2,Bool.and_true,if_pos rfl];rfl
 ·have h1:=bnt h1
  refine ⟨fun _=>⟨bZ.zero,rfl,(RQ.of 0 0).A_fits,?_,rfl,trivial⟩,nofun⟩
  rw [h1,Bool.false_and,if_neg Bool.false_ne_true];rfl
def gB (m:Bool) (r s:RQ):RQ×Int:=if r.ok && s.ok then mkQ (r.p*s.q+sg m (s.p*r.q)) (r.q*s.q) else (.of 0 0,20)
theorem j7 {r s:RQ} (h1:r.ok=true) (h2:s.ok=true) (m:Bool):(r.p*s.q).natAbs < BB ^ 32/\(s.p*r.q).natAbs < BB ^ 32/\(r.q*s.q).natAbs < BB ^ 32/\(r.p*s.q+sg m (s.p*r.q)).natAbs < BB ^ 32:=by
 have k1:=RQ.ok_bits h1
 have k2:=RQ.ok_bits h2
 refine ⟨dh k1.1 k2.2.1,dh k2.1 k1.2.1,dh k1.2.1 k2.2.1,?_⟩
 have e1:=ku k1.1 k2.2.1
 have e2:=ku k2.1 k1.2.1
 have e3:(sg m (s.p*r.q)).natAbs=(s.p*r.q).natAbs:=by cases m<;>simp [sg]
 refine Nat.lt_trans ?_ Af
 have:=Int.natAbs_add_le (r.p*s.q) (sg m (s.p*r.q))
 omega
theorem JL {r s:RQ} (hr:r.In) (hs:s.In) (m:Bool) (E:Env) (hE:E.P=Tryz.prog) (d:Key) :
    Own E 207 [SV.c (.agg r.A),SV.c (.agg s.A),SV.clo 253 [d]] [(d,Blk.row 4 1 #[.bool m])] (SV.c (iW (gB m r s))) [(d,Blk.row 4 1 #[.bool m])] :=
 Ii hr hs (fun E hE d h1 h2=>Ib hr hs m (j7 h1 h2 m).1 (j7 h1 h2 m).2.1 (j7 h1 h2 m).2.2.1 (j7 h1 h2 m).2.2.2 E hE d) (fun h1 h2=>(j7 h1 h2 m).2.2.2) (fun h1 h2=>(j7 h1 h2 m).2.2.1) E hE d
theorem pg (m:Bool) (r s:RQ):(gB m r s).1.In:=by
 unfold gB;split
 ·exact fx _ _
 ·exact ⟨bU,bU⟩
theorem jC (r s:RQ):(bI r s).1.In:=by
 unfold bI;split
 ·exact fx _ _
 ·exact ⟨bU,bU⟩
theorem JM {r s:RQ} (hr:r.In) (hs:s.In):aw Tryz.prog 153 [SV.c (.agg r.A),SV.c (.agg s.A)] (iW (gB true r s)):=by
 refine aj ai ak Pj _ _ rfl rfl fun w=>?_
 refine ⟨r.A_size,s.A_size,.inr ⟨_,_,_,wS true _ rfl 500,trivial,rfl,.inr ⟨_,_,_,JL hr hs true _ rfl _,⟨rfl,trivial⟩,rfl,RQ.A_fits _,by kernel_rfl,rfl,trivial⟩⟩⟩
theorem zr {r:RQ} (hr:r.In):aw Tryz.prog 188 [SV.c (.agg r.A)] (.tuple #[.int .i64 (if r.ok then sgn r.p else 0),.int .i64 (if r.ok then 0 else 20)]):=by
 refine aj ai ak OH _ _ rfl rfl fun w=>?_
 refine ⟨r.A_size,.inl ⟨_,cN hr,fun h=>?_,fun h=>⟨by decide,_,r.cat_l,.inl ⟨_,iT hr.num,?_,trivial⟩⟩⟩⟩
 ·have h:=bnt h
  refine ⟨?_,trivial⟩
  rw [h];rfl
 ·have h:=bnf h
  rw [h];rfl
theorem oz {r s:RQ} (hr:r.In) (hs:s.In):aw Tryz.prog 122 [SV.c (.agg r.A),SV.c (.agg s.A)] (.tuple #[.int .i64 (if r.ok && s.ok then dp (r.p*s.q) (s.p*r.q) else 0),.int .i64 (if r.ok && s.ok then 0 else 20)]):=by
 refine aj ai ak PO _ _ rfl rfl fun w=>?_
 refine ⟨r.A_size,s.A_size,.inl ⟨_,cN hr,fun h1=>.inl ⟨_,cN hs,fun h2=>?_,fun h2=>?_⟩,fun h1=>?_⟩⟩
 ·have h2:=bnt h2
  refine ⟨?_,trivial⟩
  rw [h2,Bool.and_false];rfl
 ·have h1:=bq h1
  have h2:=bnf h2
  obtain ⟨k1,k2,k3,k4⟩:=j7 h1 h2 false
  refine ⟨by decide,_,r.cat_l,by decide,_,s.cat_r,.inl ⟨_,dm hr.num hs.den k1,by decide,_,s.cat_l,by decide,_,r.cat_r,.inl ⟨_,dm hs.num hr.den k2,.inl ⟨_,I0 (aJ k1) (aJ k2),by kernel_rfl,?_,trivial⟩⟩⟩⟩
  rw [h1,h2];rfl
 ·have h1:=bnt h1
  refine ⟨fun _=>⟨?_,trivial⟩,nofun⟩
  rw [h1];rfl
def tp (n:Nat):Nat:=10 ^ n
theorem oJ {n k:Nat} (h:n<=k):tp n<=tp k:=Nat.pow_le_pow_right (by omega) h
theorem JD (n:Nat):0 < tp n:=Nat.pow_pos (by omega)
theorem pb (n:Nat):tp (n+1)=tp n*10:=Nat.pow_succ ..
theorem GN:tp 18=1000000000000000000:=rfl
theorem tp9:tp 9=1000000000:=rfl
theorem He {n:Nat} (h:n<=18):aw Tryz.prog 262 [SV.c (.int .i64 n)] (.int .i64 ((tp n:Nat):Int)):=by
 refine aj ai ak Nu _ _ rfl rfl fun w=>?_
 refine ⟨fun q f m=>∃ i:Nat,q=n - i/\i<=n/\f=[(3,SV.c (.int .i64 ((tp i:Nat):Int))),(4,SV.c (.int .i64 n)),(5,SV.c (.int .i64 i))]/\m=[],n,⟨_,_,⟨0,rfl,Nat.zero_le _,rfl,rfl⟩,⟨rfl,rfl,rfl,trivial⟩,trivial,rfl⟩,?_⟩
 rintro q f m ⟨i,rfl,hi,rfl,rfl⟩
 refine ⟨fun h1=>?_,fun h1=>?_⟩
 ·have h1:(i:Int) < n:=af h1
  have hp:tp (i+1)<=tp 18:=oJ (by omega)
  refine ⟨n - (i+1),_,_,by omega,⟨i+1,rfl,by omega,rfl,rfl⟩,⟨am ?_,rfl,am (by rw [i64_in (by omega)];rfl),trivial⟩,trivial,rfl⟩
  rw [pb,GN] at hp
  rw [pb]
  rw [i64_in (by omega)]
  omega
 ·have h1:¬ ((i:Int) < n):=ag h1
  obtain rfl:i=n:=by omega
  exact ⟨rfl,trivial⟩
theorem Ax {r:RQ} (hr:r.In) (n:Int):aw Tryz.prog 217 [SV.c (.agg r.A),SV.c (.int .i64 n)] (.int .i64 (if !r.ok then 20 else if n < 0\/n > 9 then 30 else 0)):=by
 refine aj ai ak Of _ _ rfl rfl fun w=>?_
 refine ⟨r.A_size,.inl ⟨_,cN hr,fun h1=>?_,fun h1=>⟨fun h2=>?_,fun h2=>?_⟩⟩⟩
 ·have h1:=bnt h1
  refine ⟨iv ?_,trivial⟩
  rw [h1];rfl
 ·have h1:=bnf h1
  have h2:=ag h2
  refine ⟨fun h3=>⟨iv ?_,trivial⟩,fun h3=>⟨iv ?_,trivial⟩⟩
  ·have h3:=af h3
   rw [h1,if_neg (by decide),if_pos (.inr h3)]
  ·have h3:=ag h3
   rw [h1,if_neg (by decide),if_neg (by omega)]
 ·have h1:=bnf h1
  have h2:=af h2
  refine ⟨fun _=>⟨iv ?_,trivial⟩,nofun⟩
  rw [h1,if_neg (by decide),if_pos (.inl h2)]
theorem u5 {x:Int} {n:Nat} (hx:bl x.natAbs<=480) (hn:n<=9):(x*((tp n:Nat):Int)).natAbs < BB ^ 32:=by
 have h2:bl (((tp n:Nat):Int)).natAbs<=480:=by
  rw [Int.natAbs_natCast]
  have:=oJ hn
  rw [tp9] at this
  refine Nat.le_trans (jn (k:=30) ?_) (by omega)
  omega
 exact dh hx h2
theorem u3 {r:RQ} (hr:r.In) (hk:r.ok=true) {n:Nat} (hn:n<=9):aw Tryz.prog 218 [SV.c (.agg r.A),SV.c (.int .i64 n)] (.tuple #[.agg (eA (r.p*((tp n:Nat):Int) / r.q)),.agg (eA (r.p*((tp n:Nat):Int) % r.q))]):=by
 refine aj ai ak Oe _ _ rfl rfl fun w=>?_
 obtain ⟨k1,k2,k3,k4,k5⟩:=RQ.ok_bits hk
 have hp:=oJ hn
 rw [tp9] at hp
 have hl:=u5 k1 hn
 have hm:=Eb hr.num (aJ (z:=((tp n:Nat):Int)) (dP (by omega) (by omega)))
 rw [eD,if_pos hl] at hm
 refine ⟨r.A_size,by decide,_,r.cat_l,.inl ⟨_,He (by omega),.inl ⟨_,fe _ (by omega) (by omega),.inl ⟨_,hm,ao _,by kernel_rfl,by decide,_,r.cat_r,.inl ⟨_,wF (aJ hl) hr.den (by omega),ao _,ao _,ao _,ao _,by kernel_rfl,rfl,trivial⟩⟩⟩⟩⟩

theorem Bj {E:Env} {t:TypeId} {x y:Operand} {a:Array TypeId} {b:Array TypeId} {c:Bool} (hu:E.P.underlying t=some (.func a b c)) {f:Fn} {p q:Array Value}:bB E (do eqGuard .eql t x y (.func f p q) .nilFunc;binOp .eql t (.func f p q) .nilFunc) (.bool false):=fun w _=>by
 have h1:(eqGuard .eql t x y (.func f p q) .nilFunc).run E.P w=.ok () w:=by simp [eqGuard]
 have h2:(Op.equal t (.func f p q) .nilFunc).run E.P w=.ok false w:=by
  show (Op.equalIn (9999+1) t _ _).run E.P w=_
  rw [Op.equalIn]
  simp only [Sem.run_bind,run_underlying hu,Result.andThen_ok,Sem.run_pure]
 have h3:binOp .eql t (.func f p q) .nilFunc=(do pure (.bool (<- Op.equal t (.func f p q) .nilFunc))):=rfl
 rw [Sem.run_bind,h1,h3]
 simp [h2]
theorem vf {E:Env} {t:TypeId} {x y:Operand} {a:Array TypeId} {b:Array TypeId} {c:Bool} (hu:E.P.underlying t=some (.func a b c)):bB E (do eqGuard .eql t x y .nilFunc .nilFunc;binOp .eql t .nilFunc .nilFunc) (.bool true):=fun w _=>by
 have h1:(eqGuard .eql t x y .nilFunc .nilFunc).run E.P w=.ok () w:=by simp [eqGuard]
 have h2:(Op.equal t .nilFunc .nilFunc).run E.P w=.ok true w:=by
  show (Op.equalIn (9999+1) t _ _).run E.P w=_
  rw [Op.equalIn]
  simp only [Sem.run_bind,run_underlying hu,Result.andThen_ok,Sem.run_pure]
 have h3:binOp .eql t .nilFunc .nilFunc=(do pure (.bool (<- Op.equal t .nilFunc .nilFunc))):=rfl
 rw [Sem.run_bind,h1,h3]
 simp [h2]
def btA (low half:Int) (neg:Bool):Array Value:=eA low++#[.int .i64 half,.bool neg]
theorem iI (low half:Int) (neg:Bool):Fits (btA low half neg) 35:=⟨by simp [btA,bW],by rw [btA,Array.all_append,(ao low).one];simp [Value.oneCell']⟩
theorem nC {low half:Int} {neg:Bool}:(btA low half neg)[33]? = some (.int .i64 half):=by
 rw [btA,Array.getElem?_append_right (by rw [bW];omega),bW];rfl
theorem AB {low half:Int} {neg:Bool}:(btA low half neg)[34]? = some (.bool neg):=by
 rw [btA,Array.getElem?_append_right (by rw [bW];omega),bW];rfl
theorem Ik {low half:Int} {neg:Bool}:(btA low half neg)[1]? = some (.int .u32 (dg low.natAbs 0:Nat)):=by
 rw [btA,Array.getElem?_append_left (by rw [bW];omega),eA,iA,Array.getElem?_append_right (by simp)]
 exact bo (by omega)
theorem Aj {low half:Int} {neg:Bool} {Z:Array Value} (hZ:Z.size=35) {pl:List (Nat×Nat)} (hpl:pl=[(0,33),(33,1),(34,1)]):Instr.fill (fun k=>pl[k]?) Z [(0,.agg (eA low)),(1,.int .i64 half),(2,.bool neg)]=some (btA low half neg):=by
 subst hpl
 have:=nl (pl:=fun k=>[(0,33),(33,1),(34,1)][k]?) (vs:=[.agg (eA low),.int .i64 half,.bool neg]) (Z:=Z) ⟨by simp [Value.cells,bW],by simp [Value.cells,bW],by simp [Value.cells,bW],trivial⟩ (by simp [jM,Value.cells,bW,hZ])
 rw [show jM [.agg (eA low),.int .i64 half,.bool neg]=btA low half neg by simp [jM,Value.cells,btA]] at this
 exact this
def upM (mode:Int) (neg:Bool) (half:Int) (odd:Bool):Bool :=
 if mode=1 then neg else if mode=2 then !neg else if mode=3 then false else if mode=4 then true else if mode=5 then (if half=0 then !neg else decide (half > 0)) else (if half=0 then odd else decide (half > 0))
theorem Kx (low half:Int) (neg:Bool):aw Tryz.prog 263 [SV.c (.agg (btA low half neg))] (.bool neg):=by
 refine aj ai ak Nt _ _ rfl rfl fun w=>?_
 exact ⟨(iI low half neg).size,_,AB,rfl,trivial⟩
theorem KY (low half:Int) (neg:Bool):aw Tryz.prog 264 [SV.c (.agg (btA low half neg))] (.bool !neg):=by
 refine aj ai ak Ns _ _ rfl rfl fun w=>?_
 exact ⟨(iI low half neg).size,_,AB,rfl,trivial⟩
theorem HP (low half:Int) (neg:Bool):aw Tryz.prog 265 [SV.c (.agg (btA low half neg))] (.bool false):=by
 refine aj ai ak Nr _ _ rfl rfl fun w=>?_
 exact ⟨(iI low half neg).size,rfl,trivial⟩
theorem KD (low half:Int) (neg:Bool):aw Tryz.prog 266 [SV.c (.agg (btA low half neg))] (.bool true):=by
 refine aj ai ak Nq _ _ rfl rfl fun w=>?_
 exact ⟨(iI low half neg).size,rfl,trivial⟩
theorem EV (low half:Int) (neg:Bool):aw Tryz.prog 267 [SV.c (.agg (btA low half neg))] (.bool (if half=0 then !neg else decide (half > 0))):=by
 refine aj ai ak Np _ _ rfl rfl fun w=>?_
 refine ⟨(iI low half neg).size,_,nC,fun h=>.inl ⟨_,KY low half neg,bv ?_,trivial⟩,fun h=>⟨_,nC,bv ?_,trivial⟩⟩
 ·rw [if_pos (by simpa using h)]
 ·rw [if_neg (by simpa using h)]
theorem dg0 (N:Nat):dg N 0=N % 4294967296:=by simp [dg,aS]
theorem yj (low half:Int) (neg:Bool):aw Tryz.prog 268 [SV.c (.agg (btA low half neg))] (.bool (if half=0 then decide (low % 2=1) else decide (half > 0))):=by
 refine aj ai ak No _ _ rfl rfl fun w=>?_
 refine ⟨(iI low half neg).size,_,nC,fun h=>⟨by decide,by decide,_,Ik,by decide,bv ?_,trivial⟩,fun h=>⟨_,nC,bv ?_,trivial⟩⟩
 ·rw [if_pos (by simpa using h),dg0,Bool.eq_iff_iff]
  simp only [beq_iff_eq,decide_eq_true_eq]
  rw [Int.tmod_eq_emod_of_nonneg (by omega)]
  omega
 ·rw [if_neg (by simpa using h)]
def zS (mode:Int) (v:Value):Value :=
 if mode=1 then .func (.func 263) #[v] #[] else if mode=2 then .func (.func 264) #[v] #[] else if mode=3 then .func (.func 265) #[v] #[] else if mode=4 then .func (.func 266) #[v] #[] else if mode=5 then .func (.func 267) #[v] #[] else if mode=6 then .func (.func 268) #[v] #[] else .nilFunc
theorem Ee (low half:Int) (neg:Bool) (mode:Int):aw Tryz.prog 220 [SV.c (.agg (btA low half neg)),SV.c (.int .i64 mode)] (zS mode (.agg (btA low half neg))):=by
 refine aj ai ak Oc _ _ rfl rfl fun w=>?_
 unfold zS
 refine ⟨(iI low half neg).size,fun h=>⟨?_,trivial⟩,fun h=>⟨fun h2=>⟨?_,trivial⟩,fun h2=>⟨fun h3=>⟨?_,trivial⟩,fun h3=>⟨fun h4=>⟨?_,trivial⟩,fun h4=>⟨fun h5=>⟨?_,trivial⟩,fun h5=>⟨fun h6=>⟨?_,trivial⟩,fun h6=>⟨?_,trivial⟩⟩⟩⟩⟩⟩⟩
 all_goals simp only [beq_iff_eq,beq_eq_false_iff_ne,ne_eq] at *
 ·rw [if_pos h];rfl
 ·rw [if_neg h,if_pos h2];rfl
 ·rw [if_neg h,if_neg h2,if_pos h3];rfl
 ·rw [if_neg h,if_neg h2,if_neg h3,if_pos h4];rfl
 ·rw [if_neg h,if_neg h2,if_neg h3,if_neg h4,if_pos h5];rfl
 ·rw [if_neg h,if_neg h2,if_neg h3,if_neg h4,if_neg h5,if_pos h6];rfl
 ·rw [if_neg h,if_neg h2,if_neg h3,if_neg h4,if_neg h5,if_neg h6];rfl
theorem Ef (low half:Int) (neg:Bool) {mode:Int} (h:mode < 1\/mode > 6):aw Tryz.prog 220 [SV.c (.agg (btA low half neg)),SV.c (.int .i64 mode)] .nilFunc:=by
 have:=Ee low half neg mode
 unfold zS at this
 rwa [if_neg (by omega),if_neg (by omega),if_neg (by omega),if_neg (by omega),if_neg (by omega),if_neg (by omega)] at this
theorem BF (low half:Int) (neg:Bool) {mode:Int} (h:¬ (mode < 1\/mode > 6)):∃ g,aw Tryz.prog 220 [SV.c (.agg (btA low half neg)),SV.c (.int .i64 mode)] (.func (.func g) #[.agg (btA low half neg)] #[])/\aw Tryz.prog g [SV.c (.agg (btA low half neg))] (.bool (upM mode neg half (decide (low % 2=1)))):=by
 have:=Ee low half neg mode
 unfold zS at this
 unfold upM
 by_cases h1:mode=1
 ·rw [if_pos h1] at this ⊢;exact ⟨_,this,Kx _ _ _⟩
 rw [if_neg h1] at this ⊢
 by_cases h2:mode=2
 ·rw [if_pos h2] at this ⊢;exact ⟨_,this,KY _ _ _⟩
 rw [if_neg h2] at this ⊢
 by_cases h3:mode=3
 ·rw [if_pos h3] at this ⊢;exact ⟨_,this,HP _ _ _⟩
 rw [if_neg h3] at this ⊢
 by_cases h4:mode=4
 ·rw [if_pos h4] at this ⊢;exact ⟨_,this,KD _ _ _⟩
 rw [if_neg h4] at this ⊢
 by_cases h5:mode=5
 ·rw [if_pos h5] at this ⊢;exact ⟨_,this,EV _ _ _⟩
 rw [if_neg h5] at this ⊢
 rw [if_pos (show mode=6 by omega)] at this
 exact ⟨_,this,yj _ _ _⟩
def rA (mode x y:Int):Int:=if x % y=0 then x / y else if upM mode (decide (x < 0)) (dp (x % y+x % y) y) (decide (x / y % 2=1)) then x / y+1 else x / y
def gS (r:RQ) (n mode:Int):Int×Int:=if !r.ok then (0,20) else if n < 0\/n > 9 then (0,30) else if mode < 1\/mode > 6 then (0,31) else (rA mode (r.p*(tp n.toNat:Nat)) r.q,0)
def Md (x:Int×Int):Value:=.tuple #[.agg (eA x.1),.int .i64 x.2]
theorem jg {x:Int} {n:Nat} (hx:bl x.natAbs<=480) (hn:n<=9):(x*((tp n:Nat):Int)).natAbs < 2 ^ km:=by
 have h2:bl (((tp n:Nat):Int)).natAbs<=480:=by
  rw [Int.natAbs_natCast]
  have:=oJ hn
  rw [tp9] at this
  refine Nat.le_trans (jn (k:=30) ?_) (by omega)
  omega
 exact ku hx h2
theorem uX {x:Int} {n:Nat}:decide (x*((tp n:Nat):Int) < 0)=decide (x < 0):=by
 have:=JD n
 rw [Bool.eq_iff_iff]
 simp only [decide_eq_true_eq]
 constructor
 ·intro h
  rcases Int.lt_or_le x 0 with h1 | h1
  ·exact h1
  ·have:=Int.mul_nonneg h1 (show (0:Int)<=(tp n:Nat) by omega);omega
 ·intro h
  exact Int.mul_neg_of_neg_of_pos h (by omega)
theorem G4 {r:RQ} (hr:r.In) (n mode:Int):aw Tryz.prog 168 [SV.c (.agg r.A),SV.c (.int .i64 n),SV.c (.int .i64 mode)] (Md (gS r n mode)):=by
 refine aj ai ak O5 _ _ rfl rfl fun w=>?_
 have hc:=Ax hr n
 rcases Decidable.em (r.ok=true) with hk | hk
 case inr =>
  have hk:r.ok=false:=by simpa using hk
  rw [hk,Bool.not_false,if_pos rfl] at hc
  refine ⟨r.A_size,.inl ⟨_,hc,fun _=>?_,nofun⟩⟩
  refine ⟨fJ.zero,rfl,ao 0,?_,trivial⟩
  rw [gS,hk,Bool.not_false,if_pos rfl];rfl
 rw [hk] at hc
 rcases Decidable.em (n < 0\/n > 9) with hn | hn
 ·rw [Bool.not_true,if_neg Bool.false_ne_true,if_pos hn] at hc
  refine ⟨r.A_size,.inl ⟨_,hc,fun _=>?_,nofun⟩⟩
  refine ⟨fJ.zero,rfl,ao 0,?_,trivial⟩
  rw [gS,hk,Bool.not_true,if_neg Bool.false_ne_true,if_pos hn];rfl
 rw [Bool.not_true,if_neg Bool.false_ne_true,if_neg hn] at hc
 obtain ⟨k,rfl⟩:∃ k:Nat,n=k:=⟨n.toNat,by omega⟩
 have hk9:k<=9:=by omega
 obtain ⟨k1,k2,k3,k4,k5⟩:=RQ.ok_bits hk
 have hs:=u3 hr hk hk9
 have hl:=jg k1 hk9
 have hrl:(r.p*((tp k:Nat):Int) % r.q).natAbs < 2 ^ d7:=by
  have h1:=Int.emod_lt_of_pos (r.p*((tp k:Nat):Int)) k3
  have h2:=Int.emod_nonneg (r.p*((tp k:Nat):Int)) (show r.q≠0 by omega)
  have h3:r.q.natAbs < 2 ^ d7:=Nat.lt_of_lt_of_le (cW _).1 (Nat.pow_le_pow_right (by omega) k2)
  omega
 have hlow:(r.p*((tp k:Nat):Int) / r.q).natAbs < 2 ^ km:=Nat.lt_of_le_of_lt (Int.natAbs_ediv_le_natAbs _ _) hl
 have p1:=qF
 have p2:=wa
 have p3:=Af
 have pp:2 ^ d7+2 ^ d7<=2 ^ km:=by decide +kernel
 have p4:1<=2 ^ km:=Nat.pow_pos (by omega)
 rw [gS,hk,Bool.not_true,if_neg Bool.false_ne_true,if_neg hn,Int.toNat_natCast]
 unfold rA
 have eneg:=uX (x:=r.p) (n:=k)
 generalize hlowE:r.p*((tp k:Nat):Int) / r.q=low at *
 generalize hrestE:r.p*((tp k:Nat):Int) % r.q=rest at *
 have ht:=AP (aJ (z:=rest) (by omega)) (aJ (z:=rest) (by omega))
 rw [eD,if_pos (by omega)] at ht
 have hcm:=I0 (aJ (z:=rest+rest) (by omega)) hr.den
 have hsn:=iT hr.num
 rcases Decidable.em (mode < 1\/mode > 6) with hm | hm
 ·have hmode:=Ef low (dp (rest+rest) r.q) (decide (sgn r.p < 0)) hm
  refine ⟨r.A_size,.inl ⟨_,hc,nofun,fun _=>.inl ⟨_,hs,ao _,ao _,.inl ⟨_,ht,ao _,by decide,_,r.cat_r,.inl ⟨_,hcm,by decide,_,r.cat_l,.inl ⟨_,hsn,_,Aj rfl rfl,.inl ⟨_,hmode,by kernel_rfl,_,vf Tryz.underlying46,fun _=>?_,nofun⟩⟩⟩⟩⟩⟩⟩
  refine ⟨fJ.zero,rfl,ao 0,?_,trivial⟩
  rw [if_pos hm];rfl
 ·obtain ⟨g,hmode,hup⟩:=BF low (dp (rest+rest) r.q) (decide (sgn r.p < 0)) hm
  rw [if_neg hm]
  refine ⟨r.A_size,.inl ⟨_,hc,nofun,fun _=>.inl ⟨_,hs,ao _,ao _,.inl ⟨_,ht,ao _,by decide,_,r.cat_r,.inl ⟨_,hcm,by decide,_,r.cat_l,.inl ⟨_,hsn,_,Aj rfl rfl,.inl ⟨_,hmode,by kernel_rfl,_,Bj Tryz.underlying46,nofun,fun _=>.inl ⟨_,iT (aJ (z:=rest) (by omega)),fun h1=>?_,fun h1=>?_⟩⟩⟩⟩⟩⟩⟩⟩
  ·rw [cR] at h1
   have h1:=ag h1
   rw [if_neg h1]
   refine .inl ⟨_,hup,fun h2=>?_,fun h2=>?_⟩
   ·have h2:=bnt h2
    refine ⟨ao _,?_,trivial⟩
    rw [gQ,<- eneg] at h2
    rw [h2,if_neg Bool.false_ne_true];rfl
   ·have h2:=bnf h2
    have ha:=AP (aJ (z:=low) (by omega)) (aJ (z:=1) (by omega))
    rw [eD,if_pos (by omega)] at ha
    refine .inl ⟨_,fe 1 (by omega) (by omega),.inl ⟨_,ha,ao _,by kernel_rfl,ao _,?_,trivial⟩⟩
    rw [gQ,<- eneg] at h2
    rw [h2,if_pos rfl];rfl
  ·rw [cR] at h1
   have h1:rest=0:=af h1
   refine ⟨fun _=>⟨ao _,?_,trivial⟩,nofun⟩
   rw [if_pos h1];rfl
def kS (x:Int×Int):Int×Int:=if x.2≠0 then (0,x.2) else if x.1 < -1000000000000000\/x.1 > 1000000000000000 then (0,33) else (x.1,0)
def G7 (x:Int×Int):Value:=.tuple #[.int .i64 x.1,.int .i64 x.2]
theorem zy {r:RQ} (hk:r.ok=true) {n:Nat} (hn:n<=9) (mode:Int):(rA mode (r.p*(tp n:Nat)) r.q).natAbs < BB ^ 32:=by
 obtain ⟨k1,k2,k3,k4,k5⟩:=RQ.ok_bits hk
 have hl:=jg k1 hn
 have hlow:(r.p*((tp n:Nat):Int) / r.q).natAbs < 2 ^ km:=Nat.lt_of_le_of_lt (Int.natAbs_ediv_le_natAbs _ _) hl
 have p3:=Af
 have p4:1<=2 ^ km:=Nat.pow_pos (by omega)
 unfold rA
 split
 ·omega
 ·split<;>omega
theorem zz (r:RQ) (n mode:Int):(gS r n mode).1.natAbs < BB ^ 32:=by
 unfold gS
 split
 ·exact bU
 ·split
  ·exact bU
  ·split
   ·exact bU
   ·rename_i h1 h2 h3
    exact zy (by simpa using h1) (by omega) mode
theorem p8 {r:RQ} (hr:r.In) (n mode:Int):aw Tryz.prog 104 [SV.c (.agg r.A),SV.c (.int .i64 n),SV.c (.int .i64 mode)] (G7 (kS (gS r n mode))):=by
 refine aj ai ak Qc _ _ rfl rfl fun w=>?_
 have hx:=G4 hr n mode
 have hlt:=zz r n mode
 generalize gS r n mode=x at *
 obtain ⟨x,e⟩:=x
 have ht:=GS (aJ hlt)
 have hx:aw Tryz.prog 168 [SV.c (.agg r.A),SV.c (.int .i64 n),SV.c (.int .i64 mode)] (.tuple #[.agg (eA x),.int .i64 e]):=hx
 have ht:aw Tryz.prog 169 [SV.c (.agg (eA x))] (dG x):=ht
 refine ⟨r.A_size,.inl ⟨_,hx,ao _,fun h=>?_,fun h=>?_⟩⟩
 ·have h:e≠0:=by simpa using h
  refine ⟨?_,trivial⟩
  rw [kS,if_pos h];rfl
 ·have h:¬ (e≠0):=by simpa using h
  rw [kS,if_neg h]
  by_cases hz : -9223372036854775808<=x/\x<=9223372036854775807
  ·rw [dG,if_pos hz] at ht
   refine .inl ⟨_,ht,fun _=>⟨fun h1=>⟨fun h2=>?_,fun h2=>?_⟩,fun h1=>⟨fun _=>?_,nofun⟩⟩,nofun⟩
   ·have h1:=ag h1
    have h2:=af h2
    refine ⟨?_,trivial⟩
    rw [if_pos (.inr h2)];rfl
   ·have h1:=ag h1
    have h2:=ag h2
    refine ⟨?_,trivial⟩
    rw [if_neg (by omega)];rfl
   ·have h1:=af h1
    refine ⟨?_,trivial⟩
    rw [if_pos (.inl h1)];rfl
  ·rw [dG,if_neg hz] at ht
   refine .inl ⟨_,ht,nofun,fun _=>⟨nofun,fun _=>⟨fun _=>⟨?_,trivial⟩,nofun⟩⟩⟩
   rw [if_pos (show (x,e).1 < -1000000000000000\/(x,e).1 > 1000000000000000 by show x < _\/x > _;omega)];rfl
def bA (f:Nat->Nat) (n:Nat):Array Value:=((List.range n).map fun i=>Value.int .u8 ((f i:Nat):Int)).toArray
theorem pH (f:Nat->Nat) (n:Nat):(bA f n).size=n:=by simp [bA]
theorem oF (f:Nat->Nat) {n i:Nat} (h:i < n):(bA f n)[i]? = some (.int .u8 ((f i:Nat):Int)):=by simp [bA,h]
theorem Gh (f:Nat->Nat) (n k v:Nat):(bA f n).setIfInBounds k (.int .u8 ((v:Nat):Int))=bA (fun x=>if x=k then v else f x) n:=by
 apply Array.ext_getElem?
 intro i
 by_cases hi:i < n
 ·rw [oF _ hi]
  by_cases e:i=k
  ·subst e;rw [Array.getElem?_setIfInBounds_self_of_lt (by rw [pH];exact hi)];simp
  ·rw [Array.getElem?_setIfInBounds_ne (fun h=>e h.symm),oF _ hi,if_neg e]
 ·rw [Array.getElem?_eq_none (by simp [pH];omega),Array.getElem?_eq_none (by simp [pH];omega)]
def Has (l:List UInt8) (f:Nat->Nat):Prop:=∀ i,i < l.length->f i=(l.getD i 0).toNat
theorem Has.push {l:List UInt8} {f:Nat->Nat} (h:Has l f) (b:UInt8):Has (l++[b]) (fun x=>if x=l.length then b.toNat else f x):=fun i hi=>by
 rw [List.length_append,List.length_singleton] at hi
 by_cases e:i=l.length
 ·subst e;simp
 ·simp only [if_neg e]
  rw [h i (by omega),List.getD_eq_getElem?_getD,List.getD_eq_getElem?_getD,List.getElem?_append_left (by omega)]
theorem Gi {G:Nat->Nat} {n i v:Nat} {x y:Int} (hx:x=(i:Nat)) (hy:y=(v:Nat)):(bA G n).setIfInBounds x.toNat (.int .u8 y)=bA (fun k=>if k=i then v else G k) n:=by
 subst hx;subst hy;exact Gh G n i v
theorem uD {f:Nat->Nat} {n k v:Nat} {x:Int} (hx:x=(v:Nat)):bh (bA f n) (0+k*1) ((#[Value.int .u8 x]:Array Value).extract 0 (0+1*1)).toList=bA (fun x=>if x=k then v else f x) n:=by
 subst hx
 have e:((#[Value.int .u8 ((v:Nat):Int)]:Array Value).extract 0 (0+1*1)).toList=[.int .u8 ((v:Nat):Int)]:=rfl
 rw [e,bh,bh,Nat.zero_add,Nat.mul_one,Gh]
theorem qz (n:Nat):madeCells ti5.zero n=bA (fun _=>0) n:=by
 apply Array.ext_getElem?
 intro i
 by_cases hi:i < n
 ·rw [oF _ hi]
  have hz:ti5.zero=#[.int .u8 0]:=rfl
  simp [madeCells,hz,hi,Nat.mod_one]
 ·rw [Array.getElem?_eq_none (by rw [size_madeCells];omega),Array.getElem?_eq_none (by rw [pH];omega)]
theorem xK {d o a b c:Nat} (h:a=b):SV.sl d o a c=SV.sl d o b c:=by rw [h]
theorem Df (n:Nat):Int.tmod (n:Int) 10=((n % 10:Nat):Int):=(Int.ofNat_tmod n 10).symm
theorem Dk (n:Nat):Int.tdiv (n:Int) 10=((n / 10:Nat):Int):=(Int.ofNat_tdiv n 10).symm
theorem ow (v:Int):Instr.fill (fun k=>some (k*ti5.size,ti5.size)) (madeCells ti5.zero (1*ti5.size)) [(0,.int .u8 v)]=some #[.int .u8 v]:=by
 rw [qz];rfl
theorem uC:BB ^ 32<=10 ^ yB:=by decide +kernel
theorem E8 {A:Array Value} {z:Int} (h:IsI A z):aw Tryz.prog 232 [SV.c (.agg A)] (.string (ug z)):=by
 refine dz [14] ai ak N2 _ _ rfl rfl fun w=>?_
 have hl309:(eS z.natAbs).length<=309:=mP yB _ (Nat.lt_of_lt_of_le h.lt uC)
 refine ⟨h.size,.inl ⟨_,du h,aI _,by decide,by decide,by decide,⟨_,rfl,by show ((1:Nat):Int)*310<=281474976710656;decide⟩,_,qz _,?_⟩⟩
 refine ⟨fun q f m=>∃ (M:Nat) (l:List UInt8) (g:Nat->Nat),q=M/\M < BB ^ 32/\l++eS M=eS z.natAbs/\Has l g/\f=[(3,SV.c (.bool (decide (z < 0)))),(4,SV.ptr 4 0),(5,SV.sl 15 0 l.length 310)]/\m=[(4,Blk.row 201 32 (mA M)),(15,Blk.row 5 310 (bA g 310))],z.natAbs,⟨_,_,⟨z.natAbs,[],fun _=>0,rfl,h.lt,by simp,fun i hi=>absurd hi (by simp),rfl,rfl⟩,⟨rfl,rfl,rfl,trivial⟩,⟨rfl,rfl,trivial⟩,rfl⟩,?_⟩
 rintro M f m ⟨_,l,g,rfl,hM,hd,hg,rfl,rfl⟩
 refine ⟨mA 0,eK fZ,_,kD rfl hM bU,fun h1=>?_,fun h1=>?_⟩
 ·have h1:M≠0:=by simpa using h1
  have hq:M / 1000000000 < BB ^ 32:=Nat.lt_of_le_of_lt (Nat.div_le_self _ _) hM
  refine .inr ⟨_,_,_,r5 (x:=1000000000) hM (by decide) (by decide) _ rfl 4,⟨rfl,trivial⟩,rfl,?_⟩
  refine ⟨fun q f m=>∃ (i R0:Nat) (l:List UInt8) (g:Nat->Nat),q=9 - i/\i<=9/\R0 < 10 ^ (9 - i)/\l++eS (R0+M / 1000000000*10 ^ (9 - i))=eS z.natAbs/\Has l g/\f=[(3,SV.c (.bool (decide (z < 0)))),(4,SV.ptr 4 0),(5,SV.sl 15 0 l.length 310),(6,SV.c (.int .u32 R0)),(7,SV.c (.int .i64 i))]/\m=[(4,Blk.row 201 32 (mA (M / 1000000000))),(15,Blk.row 5 310 (bA g 310))],9,⟨_,_,⟨0,M % 1000000000,l,g,rfl,by omega,by show M % 1000000000 < 1000000000;omega,by rw [<- hd];congr 2;show M % 1000000000+M / 1000000000*1000000000=M;omega,hg,rfl,rfl⟩,⟨rfl,rfl,rfl,rfl,rfl,trivial⟩,⟨rfl,rfl,trivial⟩,rfl⟩,?_⟩
  rintro q f m ⟨i,R0,l,g,rfl,hi,hR,hd,hg,rfl,rfl⟩
  have hll:l.length+(eS (R0+M / 1000000000*10 ^ (9 - i))).length<=309:=by rw [<- List.length_append,hd];exact hl309
  have hpw0:0 < 10 ^ (9 - i):=Nat.pow_pos (by omega)
  have hR9:R0 < 1000000000:=Nat.lt_of_lt_of_le hR (Nat.pow_le_pow_right (show 0 < 10 by omega) (show 9 - i<=9 by omega))
  refine ⟨fun h2=>?_,fun h2=>⟨nofun,fun _=>?_⟩⟩
  ·have h2:i < 9:=by have:=af h2;omega
   have hpw:10 ^ (9 - i)=10 ^ (9 - (i+1))*10:=by rw [<- Nat.pow_succ];congr 1;omega
   have hch:UInt8.ofNat (48+(R0+M / 1000000000*10 ^ (9 - i)) % 10) :: eS ((R0+M / 1000000000*10 ^ (9 - i)) / 10)=UInt8.ofNat (48+R0 % 10) :: eS (R0 / 10+M / 1000000000*10 ^ (9 - (i+1))):=by
    rw [hpw,<- Nat.mul_assoc]
    congr 2
    ·congr 1;omega
    ·omega
   refine ⟨fun h3=>⟨mA 0,eK fZ,_,kD rfl hq bU,fun h4=>?_,fun h4=>?_⟩,fun h3=>⟨fun _=>?_,nofun⟩⟩
   ·have h4:M / 1000000000≠0:=by simpa using h4
    have hne:R0+M / 1000000000*10 ^ (9 - i)≠0:=by
     have:=hpw
     exact fun h0=>h4 (by have:=Nat.eq_zero_of_add_eq_zero_left h0;rcases Nat.mul_eq_zero.1 this with e | e<;>omega)
    rw [gt hne,hch] at hd hll
    rw [List.length_cons] at hll
    have hb:Int.tmod (R0:Int) 10=((R0 % 10:Nat):Int):=Df R0
    have hc:IntKind.u8.wrap (IntKind.u32.wrap (48+Int.tmod (R0:Int) 10))=(((UInt8.ofNat (48+R0 % 10)).toNat:Nat):Int):=by rw [hb,kL,eQ (by omega),jr];omega
    refine ⟨by decide,by decide,by decide,_,ow _,rfl,by omega,by decide,by decide,by simp [Value.oneCell'],_,uD hc,by decide,?_⟩
    exact ⟨9 - (i+1),_,_,by omega,⟨i+1,R0 / 10,l++[UInt8.ofNat (48+R0 % 10)],_,rfl,by omega,by rw [hpw] at hR;omega,by rw [<- hd];simp,hg.push _,rfl,rfl⟩,⟨rfl,rfl,xK (by simp),am (by rw [Dk];exact eQ (by omega)),am (by rw [i64_in (by omega)];rfl),trivial⟩,⟨rfl,rfl,trivial⟩,rfl⟩
   ·have h3:R0=0:=by have:=ag h3;omega
    have h4:M / 1000000000=0:=by simpa using h4
    have hq0:R0+M / 1000000000*10 ^ (9 - i)=M / 1000000000:=by
     rw [h3,h4];simp
    rw [hq0] at hd
    exact ⟨M / 1000000000,_,_,by omega,⟨_,l,g,rfl,hq,hd,hg,rfl,rfl⟩,⟨rfl,rfl,rfl,trivial⟩,⟨rfl,rfl,trivial⟩,rfl⟩
   ·have h3:0 < R0:=by have:=af h3;omega
    have hne:R0+M / 1000000000*10 ^ (9 - i)≠0:=by
     have:=hpw
     omega
    rw [gt hne,hch] at hd hll
    rw [List.length_cons] at hll
    have hb:Int.tmod (R0:Int) 10=((R0 % 10:Nat):Int):=Df R0
    have hc:IntKind.u8.wrap (IntKind.u32.wrap (48+Int.tmod (R0:Int) 10))=(((UInt8.ofNat (48+R0 % 10)).toNat:Nat):Int):=by rw [hb,kL,eQ (by omega),jr];omega
    refine ⟨by decide,by decide,by decide,_,ow _,rfl,by omega,by decide,by decide,by simp [Value.oneCell'],_,uD hc,by decide,?_⟩
    exact ⟨9 - (i+1),_,_,by omega,⟨i+1,R0 / 10,l++[UInt8.ofNat (48+R0 % 10)],_,rfl,by omega,by rw [hpw] at hR;omega,by rw [<- hd];simp,hg.push _,rfl,rfl⟩,⟨rfl,rfl,xK (by simp),am (by rw [Dk];exact eQ (by omega)),am (by rw [i64_in (by omega)];rfl),trivial⟩,⟨rfl,rfl,trivial⟩,rfl⟩
  ·have h2:i=9:=by have:=ag h2;omega
   have h3:R0=0:=by rw [h2] at hR;simp at hR;omega
   have hq0:R0+M / 1000000000*10 ^ (9 - i)=M / 1000000000:=by
    rw [h3,h2];simp
   rw [hq0] at hd
   exact ⟨M / 1000000000,_,_,by omega,⟨_,l,g,rfl,hq,hd,hg,rfl,rfl⟩,⟨rfl,rfl,rfl,trivial⟩,⟨rfl,rfl,trivial⟩,rfl⟩
 ·have h1:M=0:=by simpa using h1
  subst h1
  rw [fL,List.append_nil] at hd
  subst hd
  have hlz:(eS z.natAbs).length=0↔z.natAbs=0:=by
   constructor
   ·intro h0
    rcases Nat.eq_zero_or_pos z.natAbs with e | e
    ·exact e
    ·rw [gt (by omega)] at h0;simp at h0
   ·intro h0;rw [h0,fL];rfl
  refine ⟨fun h2=>?_,fun h2=>?_⟩
  ·have h2:(eS z.natAbs).length=0:=by have:(((eS z.natAbs).length:Nat):Int)=0:=by simpa using h2
                                      omega
   have hz:z=0:=by have:=hlz.1 h2;omega
   subst hz
   exact ⟨rfl,trivial⟩
  have h2:(eS z.natAbs).length≠0:=by
   intro h0
   rw [h0] at h2;simp at h2
  have hz:z.natAbs≠0:=fun h0=>h2 (hlz.2 h0)
  have hN:bu z.natAbs=(eS z.natAbs).reverse:=by rw [bu,if_neg hz]
  refine ⟨fun f m=>∃ (l:List UInt8) (g:Nat->Nat),l.length<=310/\Has l g/\0 < l.length/\l.reverse=nh z/\f=[(5,SV.sl 15 0 l.length 310)]/\m=[(15,Blk.row 5 310 (bA g 310))],⟨fun h3=>?_,fun h3=>?_⟩,?_⟩
  ·have h3:=af h3
   refine ⟨by decide,by decide,_,ow _,rfl,by omega,by decide,by decide,by simp [Value.oneCell'],_,uD (v:=(45:UInt8).toNat) rfl,?_⟩
   exact ⟨_,_,⟨eS z.natAbs++[45],_,by simp;omega,hg.push _,by simp,by rw [nh,if_pos h3,hN];simp,rfl,rfl⟩,⟨xK (by simp),trivial⟩,⟨rfl,trivial⟩,rfl⟩
  ·have h3:=ag h3
   exact ⟨_,_,⟨eS z.natAbs,_,by omega,hg,by omega,by rw [nh,if_neg h3,hN],rfl,rfl⟩,⟨rfl,trivial⟩,⟨rfl,trivial⟩,rfl⟩
  rintro f m ⟨l,g,hl,hg,h0,hr,rfl,rfl⟩
  have e1:IntKind.i64.wrap ((l.length:Int) - 1)=((l.length - 1:Nat):Int):=by rw [i64_in (by omega)];omega
  refine ⟨fun q f m=>∃ (i j:Nat) (g:Nat->Nat),q=l.length - i/\i+j=l.length - 1/\(∀ k,k < l.length->g k=if k < i\/j < k then (l.getD (l.length - 1 - k) 0).toNat else (l.getD k 0).toNat)/\f=[(5,SV.sl 15 0 l.length 310),(8,SV.c (.int .i64 i)),(9,SV.c (.int .i64 j))]/\m=[(15,Blk.row 5 310 (bA g 310))],l.length,⟨_,_,⟨0,l.length - 1,g,rfl,by omega,fun k hk=>by rw [if_neg (by omega)];exact hg k hk,rfl,rfl⟩,⟨rfl,rfl,am e1,trivial⟩,⟨rfl,trivial⟩,rfl⟩,?_⟩
  rintro q f m ⟨i,j,g,rfl,hij,hg,rfl,rfl⟩
  refine ⟨fun h3=>?_,fun h3=>?_⟩
  ·have h3:i < j:=by have:=af h3;omega
   have gi:=oF g (show i < 310 by omega)
   have gj:=oF g (show j < 310 by omega)
   refine ⟨by omega,by omega,_,gj,by omega,by omega,_,gi,by omega,by omega,by show i < 310;omega,rfl,_,Gi (i:=i) (x:=(i:Int)) rfl rfl,by omega,by omega,by show j < 310;omega,rfl,_,Gi (i:=j) (x:=(j:Int)) rfl rfl,by kernel_rfl,?_⟩
   refine ⟨l.length - (i+1),_,_,by omega,⟨i+1,j - 1,_,rfl,by omega,fun k hk=>?_,rfl,rfl⟩,⟨rfl,am (by rw [i64_in (by omega)];omega),am (by rw [i64_in (by omega)];omega),trivial⟩,⟨rfl,trivial⟩,rfl⟩
   have hi:=hg i (by omega)
   have hj:=hg j (by omega)
   rw [if_neg (by omega)] at hi hj
   have hk2:=hg k hk
   by_cases e1:k=j
   ·subst e1
    rw [if_pos rfl,hi,if_pos (by omega),show l.length - 1 - k=i by omega]
   ·rw [if_neg e1]
    by_cases e2:k=i
    ·subst e2
     rw [if_pos rfl,hj,if_pos (by omega),show l.length - 1 - k=j by omega]
    ·rw [if_neg e2,hk2]
     by_cases e3:k < i\/j < k
     ·rw [if_pos e3,if_pos (by omega)]
     ·rw [if_neg e3,if_neg (by omega)]
  ·have h3:¬ i < j:=by have:=ag h3;omega
   refine ⟨rfl,rfl,ug z,⟨?_,fun k hk=>?_⟩,rfl,trivial⟩
   ·show (nh z).toArray.size=_
    rw [<- hr];simp
   ·have hk':=hg k hk
    rw [Nat.zero_add,oF g (by omega),hk']
    have e:((ug z).data.getD k 0)=(l.getD (l.length - 1 - k) 0):=by
     show ((nh z).toArray.getD k 0)=_
     rw [<- hr,Array.getD_eq_getD_getElem?,List.getElem?_toArray,List.getElem?_reverse hk,List.getD_eq_getElem?_getD]
    rw [e]
    by_cases e3:k < i\/j < k
    ·rw [if_pos e3]
    ·rw [if_neg e3,show l.length - 1 - k=k by omega]
end Go.Proofs.YtklehfchdoikeaaGreatDoor
