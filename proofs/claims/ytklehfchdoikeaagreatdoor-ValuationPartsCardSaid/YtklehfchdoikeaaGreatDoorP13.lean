/- walks: quotients of whole numbers, the greatest common divis; no condition. -/
import Derived.Test.YtklehfchdoikeaaGreatDoorP12
set_option maxRecDepth 100000
set_option maxHeartbeats 4000000
namespace Go.Proofs.YtklehfchdoikeaaGreatDoor
open Go Go.RowKit Go.SX
theorem Nw (x:Int) (b:Nat) (hb:0 < b):if x < 0/\x.natAbs % b≠0 then x / (b:Int)=-((x.natAbs / b+1:Nat):Int)/\x % (b:Int)=((b - x.natAbs % b:Nat):Int) else x / (b:Int)=zN (decide (x < 0)) (x.natAbs / b)/\x % (b:Int)=((x.natAbs % b:Nat):Int):=by
 have h1:=Nat.div_add_mod x.natAbs b
 have h2:=Nat.mod_lt x.natAbs hb
 have h1':(b:Int)*((x.natAbs / b:Nat):Int)+((x.natAbs % b:Nat):Int)=(x.natAbs:Int):=by rw [<- Int.natCast_mul,<- Int.natCast_add,h1]
 generalize x.natAbs / b=q at *
 generalize x.natAbs % b=r at *
 have hbp:(0:Int) < b:=by omega
 split
 ·rename_i h
  refine (Int.ediv_emod_unique hbp).2 ⟨?_,by omega,by omega⟩
  rw [Int.mul_neg]
  have:(b:Int)*((q+1:Nat):Int)=b*(q:Int)+b:=by rw [Int.natCast_add,Int.mul_add];simp
  rw [this];omega
 ·rename_i h
  refine (Int.ediv_emod_unique hbp).2 ⟨?_,by omega,by omega⟩
  unfold zN
  by_cases hx:x < 0
  ·have hr:r=0:=by omega
   rw [if_pos (by simpa using hx),Int.mul_neg];omega
  ·rw [if_neg (by simpa using hx)];omega
theorem Ia (x y:Int) (hy:y≠0):if x < 0/\x.natAbs % y.natAbs≠0 then x / y=zN (decide (x < 0) != decide (y < 0)) (x.natAbs / y.natAbs+1)/\x % y=((y.natAbs - x.natAbs % y.natAbs:Nat):Int) else x / y=zN (decide (x < 0) != decide (y < 0)) (x.natAbs / y.natAbs)/\x % y=((x.natAbs % y.natAbs:Nat):Int):=by
 have h:=Nw x y.natAbs (by omega)
 rcases Int.lt_or_le y 0 with hn | hp
 ·have e:y=-((y.natAbs:Nat):Int):=by omega
  have ed:x / y=-(x / ((y.natAbs:Nat):Int)):=by conv=>lhs;rw [e,Int.ediv_neg]
  have em:x % y=x % ((y.natAbs:Nat):Int):=by conv=>lhs;rw [e,Int.emod_neg]
  rw [ed,em]
  simp only [hn,decide_true]
  split at h
  ·rename_i hc
   rw [if_pos hc,h.1]
   refine ⟨?_,h.2⟩
   simp [zN,hc.1]
  ·rename_i hc
   rw [if_neg hc,h.1]
   refine ⟨?_,h.2⟩
   cases hd:decide (x < 0)<;>simp [zN]
 ·have e:((y.natAbs:Nat):Int)=y:=by omega
  rw [e] at h
  have hn:¬ y < 0:=by omega
  simp only [hn,decide_false]
  split at h
  ·rename_i hc
   rw [if_pos hc,h.1]
   refine ⟨?_,h.2⟩
   simp [zN,hc.1]
  ·rename_i hc
   rw [if_neg hc,h.1]
   refine ⟨?_,h.2⟩
   cases hd:decide (x < 0)<;>simp [zN]
theorem HS:Instr.fill (fun k=>some (k*1,1)) (Array.replicate 32 (Value.int .u32 0)) [(0,.int .u32 1)]=some (mA 1):=by
 have:=wz (N:=1) (by omega) (a:=1) (b:=0) rfl rfl
 exact this
theorem yO {A B:Array Value} {x y:Int} (hA:IsI A x) (hB:IsI B y) (hy:y≠0):ay Tryz.prog 215 [SV.c (.agg A),SV.c (.agg B)] (.tuple #[.agg (eA (x / y)),.agg (eA (x % y)),.int .i64 0]):=by
 refine fK [9] ai ak Ra _ _ rfl rfl fun w=>?_
 have hx:=hA.lt
 have hyl:=hB.lt
 have hb0:0 < y.natAbs:=by omega
 have hall:=Ia x y hy
 refine ⟨hA.size,hB.size,.inl ⟨_,cZ hA,aE _,.inl ⟨_,cZ hB,aE _,mA 0,dQ fB,_,wB rfl hyl bJ,fun h=>?_,fun h=>?_⟩⟩⟩
 ·exfalso
  have:=af h
  omega
 have hql:x.natAbs / y.natAbs < BB ^ 32:=Nat.lt_of_le_of_lt (Nat.div_le_self _ _) hx
 have hrl:x.natAbs % y.natAbs < y.natAbs:=Nat.mod_lt _ hb0
 have hrb:x.natAbs % y.natAbs < BB ^ 32:=Nat.lt_trans hrl hyl
 refine .inr ⟨_,_,_,tA hx hyl hb0 _ rfl _ _ (by decide),⟨rfl,rfl,trivial⟩,rfl,aE _,aE _,?_⟩
 refine ⟨fun f mm=>∃ q r:Nat,q < BB ^ 32/\r < BB ^ 32/\x / y=zN (decide (x < 0) != decide (y < 0)) q/\x % y=r/\f=[(4,SV.ptr 4 0),(5,SV.ptr 5 0),(7,SV.c (.bool (decide (x < 0)))),(9,SV.c (.bool (decide (y < 0)))),(11,SV.ptr 11 0),(12,SV.ptr 12 0)]/\mm=[(4,Blk.row 31 33 eW.zero),(5,Blk.row 31 33 eW.zero),(11,Blk.row 201 32 (mA q)),(12,Blk.row 201 32 (mA r))],⟨fun h1=>⟨mA 0,dQ fB,_,lG rfl hrb bJ,fun h2=>?_,fun h2=>?_⟩,fun h1=>⟨nofun,fun _=>?_⟩⟩,?_⟩
 ·have h1:=af h1
  have h2:x.natAbs % y.natAbs≠0:=by simpa using h2
  rw [if_pos ⟨h1,h2⟩] at hall
  have hql2:x.natAbs / y.natAbs+1 < BB ^ 32:=by
   have hb2:2<=y.natAbs:=by
    rcases Nat.lt_or_ge y.natAbs 2 with h | h
    ·have:y.natAbs=1:=by omega
     rw [this,Nat.mod_one] at h2;exact absurd rfl h2
    ·exact h
   have h3:x.natAbs / y.natAbs<=x.natAbs / 2:=Nat.div_le_div_left hb2 (by omega)
   have h4:4<=BB ^ 32:=Nat.le_trans (by omega) jP
   omega
  refine ⟨mA 1,HS,bU _,.inr ⟨_,_,_,xN hql (Nat.lt_of_lt_of_le (by omega:1 < 18446744073709551616) jP) _ rfl _ _ (by decide),⟨rfl,rfl,trivial⟩,rfl,aE _,.inr ⟨_,_,_,qN hyl (Nat.le_of_lt hrl) _ rfl _ _ (by decide),⟨rfl,rfl,trivial⟩,rfl,aE _,_,_,⟨x.natAbs / y.natAbs+1,_,hql2,Nat.lt_of_le_of_lt (Nat.sub_le _ _) hyl,hall.1,hall.2,rfl,rfl⟩,⟨rfl,rfl,rfl,rfl,rfl,rfl,trivial⟩,⟨rfl,rfl,bk (by rw [Nat.mod_eq_of_lt hql2]),rfl,trivial⟩,rfl⟩⟩⟩
 ·have h2:x.natAbs % y.natAbs=0:=by simpa using h2
  rw [if_neg (fun h=>h.2 h2)] at hall
  exact ⟨_,_,⟨_,_,hql,hrb,hall.1,hall.2,rfl,rfl⟩,⟨rfl,rfl,rfl,rfl,rfl,rfl,trivial⟩,⟨rfl,rfl,rfl,rfl,trivial⟩,rfl⟩
 ·have h1:=ag h1
  rw [if_neg (fun h=>h1 h.1)] at hall
  exact ⟨_,_,⟨_,_,hql,hrb,hall.1,hall.2,rfl,rfl⟩,⟨rfl,rfl,rfl,rfl,rfl,rfl,trivial⟩,⟨rfl,rfl,rfl,rfl,trivial⟩,rfl⟩
 ·rintro f mm ⟨q,r,hq,hr,e1,e2,rfl,rfl⟩
  have m1:=jD (decide (x < 0) != decide (y < 0)) q hq
  have m2:=jD false r hr
  rw [<- e1] at m1
  rw [show zN false r=x % y from e2.symm] at m2
  exact .inl ⟨_,m1,.inl ⟨_,m2,am _,am _,by kernel_rfl,rfl,trivial⟩⟩
theorem LY {A B:Array Value} {x y:Int} (hA:IsI A x) (hB:IsI B y):ay Tryz.prog 163 [SV.c (.agg A),SV.c (.agg B)] (.agg (eA ((Int.gcd x y:Nat):Int))):=by
 refine al ai ak RU _ _ rfl rfl fun w=>?_
 refine ⟨hA.size,hB.size,.inl ⟨_,cZ hA,aE _,.inl ⟨_,cZ hB,aE _,?_⟩⟩⟩
 refine ⟨fun q f mm=>∃ a:Nat,a < BB ^ 32/\q < BB ^ 32/\Nat.gcd a q=Int.gcd x y/\f=[(4,SV.ptr 4 0),(6,SV.ptr 6 0),(8,SV.ptr 8 0)]/\mm=[(4,Blk.row 31 33 eW.zero),(6,Blk.row 201 32 (mA a)),(8,Blk.row 201 32 (mA q))],_,⟨_,_,⟨_,hA.lt,hB.lt,rfl,rfl,rfl⟩,⟨rfl,rfl,rfl,trivial⟩,⟨rfl,rfl,rfl,trivial⟩,rfl⟩,?_⟩
 rintro q f mm ⟨a,ha,hq,hg,rfl,rfl⟩
 refine ⟨mA 0,dQ fB,_,lG rfl hq bJ,fun h=>?_,fun h=>?_⟩
 ·have hq0:0 < q:=by
    have:q≠0:=by simpa using h
    omega
  have hr:=Nat.mod_lt a hq0
  exact .inr ⟨_,_,_,tA ha hq hq0 _ rfl _ _ (by decide),⟨rfl,rfl,trivial⟩,rfl,aE _,aE _,aE _,aE _,by kernel_rfl,a % q,_,_,hr,⟨_,hq,Nat.lt_trans hr hq,by rw [<- hg,Nat.gcd_comm a q,Nat.gcd_rec q a,Nat.gcd_comm],rfl,rfl⟩,⟨rfl,rfl,rfl,trivial⟩,⟨rfl,rfl,rfl,trivial⟩,rfl⟩
 ·have hq0:q=0:=by simpa using h
  subst hq0
  have m1:=jD false a ha
  rw [Nat.gcd_zero_right] at hg
  rw [show zN false a=((Int.gcd x y:Nat):Int) by rw [<- hg];rfl] at m1
  exact .inl ⟨_,m1,am _,rfl,trivial⟩
def dm (z:Int):Value:=if -9223372036854775808<=z/\z<=9223372036854775807 then .tuple #[.int .i64 z,.bool true] else .tuple #[.int .i64 0,.bool false]
theorem Jm {A:Array Value} {z:Int} (hA:IsI A z):ay Tryz.prog 169 [SV.c (.agg A)] (dm z):=by
 refine al ai ak RK _ _ rfl rfl fun w=>?_
 obtain ⟨hb1,hb2⟩:=cO z.natAbs
 refine ⟨hA.size,.inl ⟨_,cZ hA,aE _,.inr ⟨_,_,_,zn hA.lt _ rfl _,⟨rfl,trivial⟩,rfl,fun h=>?_,fun h=>?_⟩⟩⟩
 ·have h:64 < bl z.natAbs:=by have:=af h;omega
  have h5:=hb2 (by omega)
  have h6:2 ^ 64<=2 ^ (bl z.natAbs - 1):=Nat.pow_le_pow_right (by omega) (by omega)
  exact ⟨by rw [dm,if_neg (by omega)];rfl,trivial⟩
 have h:bl z.natAbs<=64:=by have:=ag h;omega
 have hz:z.natAbs < 18446744073709551616:=by
  have h6:2 ^ bl z.natAbs<=2 ^ 64:=Nat.pow_le_pow_right (by omega) h
  omega
 have eu:=D0 (aL z.natAbs 1) (aL z.natAbs 0) rfl rfl
 have ed:dg z.natAbs 1*BB+dg z.natAbs 0=z.natAbs:=by
  simp only [dg,aR,Nat.pow_one,Nat.pow_zero,Nat.div_one];omega
 rw [ed] at eu
 have g1:(mA z.natAbs)[1]? = some (.int .u32 (dg z.natAbs 1:Nat)):=bh (by omega)
 have g0:(mA z.natAbs)[0]? = some (.int .u32 (dg z.natAbs 0:Nat)):=bh (by omega)
 refine ⟨by decide,by decide,_,g1,by decide,by decide,by decide,_,g0,fun h1=>⟨fun h2=>?_,fun h2=>?_⟩,fun h1=>⟨nofun,fun _=>?_⟩⟩
 ·rw [eu] at h2
  have h1:=af h1
  have h2:=af h2
  refine ⟨?_,trivial⟩
  rw [dm,if_pos (by omega)]
  refine kL (iv ?_) rfl
  rw [eu,dL,IntKind.wrap_i64]
  omega
 ·rw [eu] at h2
  have h1:=af h1
  have h2:=ag h2
  refine ⟨fun h3=>?_,fun h3=>⟨nofun,fun _=>⟨?_,trivial⟩⟩⟩
  ·exfalso
   simp [h1] at h3
  ·rw [dm,if_neg (by omega)];rfl
 ·have h1:=ag h1
  refine ⟨fun h3=>⟨fun h2=>?_,fun h2=>?_⟩,fun h3=>?_⟩
  ·rw [eu] at h2
   have h2:=af h2
   refine ⟨?_,trivial⟩
   rw [dm,if_pos (by omega)]
   refine kL (iv ?_) rfl
   rw [eu,IntKind.wrap_i64]
   omega
  ·rw [eu] at h2
   have h2:=ag h2
   exact ⟨by rw [dm,if_neg (by omega)];rfl,trivial⟩
  ·exfalso
   simp [h1] at h3
theorem bZ {P:Program} {e:TypeId} {i:TI} (h:TIok P e i) (hr:i.row=true) (xs:Array Value) (off:Nat) (w:World):(part e xs off).run P w=.ok (.agg (xs.extract off (off+i.size))) w:=by
 simp [part,qx h,run_sizeOf h,hr]
theorem be {P:Program} {e:TypeId} {i:TI} (h:TIok P e i) (hr:i.row=false) {xs:Array Value} {off:Nat} {v:Value} (hx:xs[off]? = some v) (w:World):(part e xs off).run P w=.ok v w:=by
 simp [part,qx h,hr,hx]
theorem bT {P:Program} {d:Nat} {xs ys:Array Value} {f:Field} {fs:List Field} {a b:Value} {r s:Bool} {w:World} (hn:f.name ≠ "_") (ha:(part f.type xs f.offset).run P w=.ok a w) (hb:(part f.type ys f.offset).run P w=.ok b w) (hr:(Op.equalIn d f.type a b).run P w=.ok r w) (hs:r=true->(Op.eqFields d xs ys fs).run P w=.ok s w) :
    (Op.eqFields d xs ys (f :: fs)).run P w=.ok (r && s) w:=by
 simp only [Op.eqFields,if_pos hn,Sem.run_bind,ha,hb,hr,Result.andThen_ok]
 cases r
 ·simp
 ·simpa using hs rfl
theorem rO {P:Program} {d:Nat} {xs ys:Array Value} {w:World}:(Op.eqFields d xs ys []).run P w=.ok true w:=rfl
theorem oA {d:Nat} {a b:Bool} {N M:Nat} (hN:N < BB ^ 32) (hM:M < BB ^ 32) (w:World):(Op.equalIn (d+1+1+1) 31 (.agg (iA a N)) (.agg (iA b M))).run Tryz.prog w=.ok (a == b && (decide (N=M) && true)) w:=by
 rw [run_equalIn_struct w (d+1+1) 31 _ _ (by simp only [Program.fieldsOf,Tryz.underlying31]) (by kernel_rfl)]
 rw [show (Tryz.prog.fieldsOf 31).toList=[⟨ "Neg",4,0,false,"","",0⟩,⟨ "Mag",29,1,false,"","",4⟩] from by simp only [Program.fieldsOf,Tryz.underlying31]]
 refine bT (by decide) (be Or rfl dA w) (be Or rfl dA w) (run_equalIn_bool' w _ 4 a b Tryz.underlying4) fun _=>?_
 refine bT (by decide) (bZ Lt rfl _ _ w) (bZ Lt rfl _ _ w) ?_ fun _=>rO
 rw [show (1:Nat)+MC.size=33 from rfl,cE,cE]
 exact AP hN hM 29 Tryz.underlying29 w
theorem Nu {x y:Int}:(decide (x < 0) == decide (y < 0) && (decide (x.natAbs=y.natAbs) && true))=decide (x=y):=by
 rw [Bool.eq_iff_iff]
 simp only [Bool.and_eq_true,beq_iff_eq,decide_eq_true_eq,and_true,decide_eq_decide]
 omega
theorem Nt {d:Nat} {x y:Int} (hx:x.natAbs < BB ^ 32) (hy:y.natAbs < BB ^ 32) (w:World):(Op.equalIn (d+1+1+1) 31 (.agg (eA x)) (.agg (eA y))).run Tryz.prog w=.ok (decide (x=y)) w:=by
 rw [<- Nu];exact oA hx hy w
theorem D3:Tryz.prog.eqGuardType Tryz.prog.depth 31=false:=by kernel_rfl
theorem wC {E:Env} (hE:E.P=Tryz.prog) {x y:Int} (hx:x.natAbs < BB ^ 32) (hy:y.natAbs < BB ^ 32) {u v:Operand}:bH E (do eqGuard .eql 31 u v (.agg (eA x)) (.agg (eA y));binOp .eql 31 (.agg (eA x)) (.agg (eA y))) (.bool (decide (x=y))) :=
 pr (by rw [hE];exact D3) fun w=>by rw [hE];exact Nt hx hy w
theorem bnt {b:Bool} (h:(!b)=true):b=false:=by simpa using h
theorem bX {b:Bool} (h:(!b)=false):b=true:=by simpa using h
theorem bnf {b:Bool} (h:(!b)=!true):b=true:=by simpa using h
theorem cat_size {A B:Array Value} (hA:A.size=33) (hB:B.size=33):(A++B).size=66:=by simp [hA,hB]
theorem cat_l {A B:Array Value} (hA:A.size=33):(A++B).extract 0 (0+33)=A:=by
 rw [Array.extract_append]
 simp [hA]
theorem cat_r {A B:Array Value} (hA:A.size=33) (hB:B.size=33):(A++B).extract 33 (33+33)=B:=by
 rw [Array.extract_append,hA,Array.extract_eq_empty_of_le (by omega),Array.empty_append]
 have:B.extract 0 B.size=B:=Array.extract_size
 rw [hB] at this
 exact this
theorem tD {A B:Array Value} (hA:Fits A 33) (hB:Fits B 33):Fits (A++B) 66:=⟨cat_size hA.size hB.size,by rw [Array.all_append,hA.one,hB.one];rfl⟩
structure RQ where
 a:Bool
 N:Nat
 b:Bool
 D:Nat
def RQ.A (r:RQ):Array Value:=iA r.a r.N++iA r.b r.D
def RQ.p (r:RQ):Int:=zN r.a r.N
def RQ.q (r:RQ):Int:=zN r.b r.D
structure RQ.In (r:RQ):Prop where
 N:r.N < BB ^ 32
 D:r.D < BB ^ 32
def RQ.of (p q:Int):RQ:=⟨decide (p < 0),p.natAbs,decide (q < 0),q.natAbs⟩
theorem Bl (z:Int):zN (decide (z < 0)) z.natAbs=z:=by
 unfold zN
 by_cases e:z < 0
 ·simp [e];omega
 ·simp [e];omega
theorem RQ.of_p (p q:Int):(RQ.of p q).p=p:=Bl p
theorem RQ.of_q (p q:Int):(RQ.of p q).q=q:=Bl q
theorem RQ.A_fits (r:RQ):Fits r.A 66:=tD (dD _ _) (dD _ _)
theorem RQ.A_size (r:RQ):r.A.size=66:=r.A_fits.size
theorem RQ.In.num {r:RQ} (h:r.In):IsI (iA r.a r.N) r.p:=⟨_,_,h.N,rfl,rfl⟩
theorem RQ.In.den {r:RQ} (h:r.In):IsI (iA r.b r.D) r.q:=⟨_,_,h.D,rfl,rfl⟩
theorem RQ.cat_l (r:RQ):r.A.extract 0 (0+33)=iA r.a r.N:=YtklehfchdoikeaaGreatDoor.cat_l (bp _ _)
theorem RQ.cat_r (r:RQ):r.A.extract 33 (33+33)=iA r.b r.D:=YtklehfchdoikeaaGreatDoor.cat_r (bp _ _) (bp _ _)
def RQ.ok (r:RQ):Bool:=decide (bl r.N<=480/\bl r.D<=480/\(r.a=true->r.N≠0)/\r.b=false/\0 < r.D/\Nat.gcd r.N r.D=1)
theorem vb (a:Bool) {N:Nat} (hN:N < BB ^ 32):ay Tryz.prog 161 [SV.c (.agg (iA a N))] (.bool (decide (a=true->N≠0))):=by
 refine al ai ak RW _ _ rfl rfl fun w=>?_
 refine ⟨bp _ _,_,dA,fun h=>?_,fun h=>?_⟩
 ·have h:a=true:=by simpa using h
  subst h
  refine .inl ⟨_,iI ⟨_,_,hN,rfl,rfl⟩,bv ?_,trivial⟩
  rw [Bool.eq_iff_iff]
  simp only [decide_eq_true_eq,sgn,zN]
  by_cases h:N=0
  ·subst h;simp
  ·simp [h];omega
 ·have h:a=false:=by simpa using h
  subst h
  exact ⟨bv (by simp),trivial⟩
theorem tl {r:RQ} (h:r.In):ay Tryz.prog 160 [SV.c (.agg r.A)] (.bool (decide (bl r.N<=480/\bl r.D<=480))):=by
 refine al ai ak RX _ _ rfl rfl fun w=>?_
 have h1:=CT h.num
 have h2:=CT h.den
 rw [RQ.p,bt] at h1
 rw [RQ.q,bt] at h2
 refine ⟨r.A_size,by decide,_,r.cat_l,.inl ⟨_,h1,fun h3=>⟨by decide,_,r.cat_r,.inl ⟨_,h2,?_⟩⟩,fun h3=>?_⟩⟩
 ·have h3:=af h3
  refine ⟨bv ?_,trivial⟩
  rw [Bool.eq_iff_iff]
  simp only [decide_eq_true_eq]
  omega
 ·have h3:=ag h3
  exact ⟨bv (decide_eq_false (by omega)).symm,trivial⟩
theorem oy (a:Bool) (N:Nat) (b:Bool) (D:Nat):Int.gcd (zN a N) (zN b D)=Nat.gcd N D:=by
 unfold Int.gcd
 rw [bt,bt]
theorem cG {r:RQ} (h:r.In):ay Tryz.prog 100 [SV.c (.agg r.A)] (.bool r.ok):=by
 refine al ai ak SY _ _ rfl rfl fun w=>?_
 have one:ay Tryz.prog 103 [SV.c (.int .i64 1)] (.agg (eA 1)):=eD 1 (by omega) (by omega)
 have hg:((Int.gcd r.p r.q:Nat):Int).natAbs < BB ^ 32:=by
  rw [RQ.p,RQ.q,oy,Int.natAbs_natCast]
  rcases Nat.eq_zero_or_pos r.N with e | e
  ·rw [e,Nat.gcd_zero_left];exact h.D
  ·exact Nat.lt_of_le_of_lt (Nat.gcd_le_left _ e) h.N
 have h1l:(1:Int).natAbs < BB ^ 32:=Nat.lt_of_lt_of_le (by decide:1 < 18446744073709551616) jP
 refine ⟨r.A_size,.inl ⟨_,tl h,fun h1=>⟨by decide,_,r.cat_l,.inl ⟨_,vb _ h.N,fun h2=>⟨by decide,_,r.cat_r,.inl ⟨_,vb _ h.D,fun h3=>⟨by decide,_,r.cat_r,.inl ⟨_,iI h.den,fun h4=>⟨by decide,_,r.cat_l,by decide,_,r.cat_r,.inl ⟨_,LY h.num h.den,.inl ⟨_,one,_,wC rfl hg h1l,bv ?_,trivial⟩⟩⟩,?_⟩⟩,?_⟩⟩,?_⟩⟩,fun h1=>?_⟩⟩
 ·have h1:=af h1
  have h2:=af h2
  have h3:=af h3
  have h4:=af h4
  rw [Bool.eq_iff_iff]
  simp only [decide_eq_true_eq,RQ.ok]
  rw [RQ.p,RQ.q,oy]
  have hb:r.b=false/\0 < r.D:=by
   unfold sgn at h4
   rw [RQ.q] at h4
   cases hb:r.b
   ·rw [hb] at h4;simp only [zN,Bool.false_eq_true,if_false] at h4
    refine ⟨rfl,?_⟩
    rcases Nat.eq_zero_or_pos r.D with e | e
    ·rw [e] at h4;simp at h4
    ·exact e
   ·rw [hb] at h4;simp only [zN,if_true] at h4
    exfalso
    split at h4
    ·omega
    ·split at h4<;>omega
  constructor
  ·intro h;exact ⟨h1.1,h1.2,h2,hb.1,hb.2,by omega⟩
  ·intro h;have:=h.2.2.2.2.2;omega
 ·intro h4
  have h4:=ag h4
  refine ⟨bv (decide_eq_false fun hh=>h4 ?_).symm,trivial⟩
  rw [RQ.q,hh.2.2.2.1]
  unfold sgn zN
  simp
  have:=hh.2.2.2.2.1
  omega
 ·intro h3
  have h3:=ag h3
  repeat refine ⟨nofun,fun _=>?_⟩
  refine ⟨bv (decide_eq_false fun hh=>h3 fun hb=>?_).symm,trivial⟩
  rw [hh.2.2.2.1] at hb;cases hb
 ·intro h2
  have h2:=ag h2
  repeat refine ⟨nofun,fun _=>?_⟩
  exact ⟨bv (decide_eq_false fun hh=>h2 hh.2.2.1).symm,trivial⟩
 ·have h1:=ag h1
  repeat refine ⟨nofun,fun _=>?_⟩
  exact ⟨bv (decide_eq_false fun hh=>h1 ⟨hh.1,hh.2.1⟩).symm,trivial⟩

theorem cT {A B:Array Value} {x y:Int} (hA:IsI A x) (hB:IsI B y) (hl:(x*y).natAbs < BB ^ 32):ay Tryz.prog 185 [SV.c (.agg A),SV.c (.agg B)] (.agg (eA (x*y))):=by
 refine al ai ak Rr _ _ rfl rfl fun w=>?_
 have h:=GI hA hB
 rw [eI,if_pos hl] at h
 exact ⟨hA.size,hB.size,.inl ⟨_,h,am _,am _,rfl,trivial⟩⟩
theorem rB {A B:Array Value} {x y:Int} (hA:IsI A x) (hB:IsI B y) (hy:y≠0):ay Tryz.prog 165 [SV.c (.agg A),SV.c (.agg B)] (.agg (eA (x / y))):=by
 refine al ai ak RP _ _ rfl rfl fun w=>?_
 exact ⟨hA.size,hB.size,.inl ⟨_,yO hA hB hy,am _,am _,am _,rfl,trivial⟩⟩
def mkQ (x y:Int):RQ×Int :=
 if y=0 then (.of 0 0,11) else
 if bl (x / (sgn y*Int.gcd x y)).natAbs<=480/\bl (y / (sgn y*Int.gcd x y)).natAbs<=480 then (.of (x / (sgn y*Int.gcd x y)) (y / (sgn y*Int.gcd x y)),0) else (.of 0 0,10)
def j7 (x:RQ×Int):Value:=.tuple #[.agg x.1.A,.int .i64 x.2]
theorem dZ {A B Z:Array Value} (hA:A.size=33) (hB:B.size=33) (hZ:Z.size=66) {pl:List (Nat×Nat)} (hpl:pl=[(0,33),(33,33)]):Instr.fill (fun k=>pl[k]?) Z [(0,.agg A),(1,.agg B)]=some (A++B):=by
 subst hpl
 have:=ld (pl:=fun k=>[(0,33),(33,33)][k]?) (vs:=[.agg A,.agg B]) (Z:=Z) ⟨by simp [Value.cells,hA],by simp [Value.cells,hA,hB],trivial⟩ (by simp [ir,Value.cells,hA,hB,hZ])
 rw [show ir [.agg A,.agg B]=A++B by simp [ir,Value.cells]] at this
 exact this
theorem dx {y:Int}:(sgn y == 0)=decide (y=0):=by
 rw [Bool.eq_iff_iff]
 simp only [beq_iff_eq,decide_eq_true_eq]
 unfold sgn
 split
 ·omega
 ·split<;>simp_all
theorem ju {y:Int}:decide (sgn y < 0)=decide (y < 0):=by
 rw [Bool.eq_iff_iff]
 simp only [decide_eq_true_eq]
 unfold sgn
 split
 ·omega
 ·split<;>omega
theorem AE {x y:Int} (hy:y≠0):0 < Int.gcd x y/\Int.gcd x y<=y.natAbs:=⟨Int.gcd_pos_of_ne_zero_right _ hy,Nat.gcd_le_right _ (by omega)⟩
theorem wi {A B:Array Value} {x y:Int} (hA:IsI A x) (hB:IsI B y):ay Tryz.prog 101 [SV.c (.agg A),SV.c (.agg B)] (j7 (mkQ x y)):=by
 refine al ai ak SW _ _ rfl rfl fun w=>?_
 refine ⟨hA.size,hB.size,.inl ⟨_,iI hB,fun h=>?_,fun h=>.inl ⟨_,LY hA hB,am _,.inl ⟨_,iI hB,fun h2=>?_,fun h2=>?_⟩⟩⟩⟩
 ·rw [dx] at h
  have h:=af h
  refine ⟨cR.zero,rfl,(RQ.of 0 0).A_fits,?_,trivial⟩
  rw [mkQ,if_pos h];rfl
 ·rw [dx] at h
  have h:=ag h
  rw [ju] at h2
  have h2:=af h2
  obtain ⟨g1,g2⟩:=AE (x:=x) h
  have gl:((Int.gcd x y:Nat):Int).natAbs < BB ^ 32:=by have:=hB.lt;omega
  have eg : -((Int.gcd x y:Nat):Int)=sgn y*Int.gcd x y:=by unfold sgn;rw [if_pos h2];omega
  have hn:=LL (aI gl)
  have gl2:(-((Int.gcd x y:Nat):Int)).natAbs < BB ^ 32:=by rw [Int.natAbs_neg];exact gl
  have gn : -((Int.gcd x y:Nat):Int)≠0:=by omega
  rw [mkQ,if_neg h,<- eg]
  refine .inl ⟨_,hn,am _,?_⟩
  have w1:=rB hA (aI gl2) gn
  have w2:=rB hB (aI gl2) gn
  have hin:(RQ.of (x / -((Int.gcd x y:Nat):Int)) (y / -((Int.gcd x y:Nat):Int))).In:=⟨Nat.lt_of_le_of_lt (Int.natAbs_ediv_le_natAbs x _) hA.lt,Nat.lt_of_le_of_lt (Int.natAbs_ediv_le_natAbs y _) hB.lt⟩
  have hf:=tl hin
  refine .inl ⟨_,w1,.inl ⟨_,w2,_,dZ (bL _) (bL _) rfl rfl,(RQ.of (x / -((Int.gcd x y:Nat):Int)) (y / -((Int.gcd x y:Nat):Int))).A_fits,by kernel_rfl,.inl ⟨_,hf,fun h5=>?_,fun h5=>?_⟩⟩⟩
  ·have h5:decide (bl (x / -((Int.gcd x y:Nat):Int)).natAbs<=480/\bl (y / -((Int.gcd x y:Nat):Int)).natAbs<=480)=false:=bnt h5
   have h5:=ag h5
   refine ⟨cR.zero,rfl,(RQ.of 0 0).A_fits,?_,trivial⟩
   rw [if_neg h5];rfl
  ·have h5:decide (bl (x / -((Int.gcd x y:Nat):Int)).natAbs<=480/\bl (y / -((Int.gcd x y:Nat):Int)).natAbs<=480)=true:=bnf h5
   have h5:=af h5
   refine ⟨(RQ.of (x / -((Int.gcd x y:Nat):Int)) (y / -((Int.gcd x y:Nat):Int))).A_fits,?_,trivial⟩
   rw [if_pos h5];rfl
 ·rw [dx] at h
  have h:=ag h
  rw [ju] at h2
  have h2:=ag h2
  obtain ⟨g1,g2⟩:=AE (x:=x) h
  have gl:((Int.gcd x y:Nat):Int).natAbs < BB ^ 32:=by have:=hB.lt;omega
  have eg:((Int.gcd x y:Nat):Int)=sgn y*Int.gcd x y:=by unfold sgn;rw [if_neg h2,if_neg h];omega
  have gn:((Int.gcd x y:Nat):Int)≠0:=by omega
  rw [mkQ,if_neg h,<- eg]
  have w1:=rB hA (aI gl) gn
  have w2:=rB hB (aI gl) gn
  have hin:(RQ.of (x / ((Int.gcd x y:Nat):Int)) (y / ((Int.gcd x y:Nat):Int))).In:=⟨Nat.lt_of_le_of_lt (Int.natAbs_ediv_le_natAbs x _) hA.lt,Nat.lt_of_le_of_lt (Int.natAbs_ediv_le_natAbs y _) hB.lt⟩
  have hf:=tl hin
  refine .inl ⟨_,w1,.inl ⟨_,w2,_,dZ (bL _) (bL _) rfl rfl,(RQ.of (x / ((Int.gcd x y:Nat):Int)) (y / ((Int.gcd x y:Nat):Int))).A_fits,by kernel_rfl,.inl ⟨_,hf,fun h5=>?_,fun h5=>?_⟩⟩⟩
  ·have h5:decide (bl (x / ((Int.gcd x y:Nat):Int)).natAbs<=480/\bl (y / ((Int.gcd x y:Nat):Int)).natAbs<=480)=false:=bnt h5
   have h5:=ag h5
   refine ⟨cR.zero,rfl,(RQ.of 0 0).A_fits,?_,trivial⟩
   rw [if_neg h5];rfl
  ·have h5:decide (bl (x / ((Int.gcd x y:Nat):Int)).natAbs<=480/\bl (y / ((Int.gcd x y:Nat):Int)).natAbs<=480)=true:=bnf h5
   have h5:=af h5
   refine ⟨(RQ.of (x / ((Int.gcd x y:Nat):Int)) (y / ((Int.gcd x y:Nat):Int))).A_fits,?_,trivial⟩
   rw [if_pos h5];rfl

def dP:Nat:=480
def lg:Nat:=960
def KJ:Nat:=309
def Cx:Nat:=1024
theorem uI:2 ^ dP < BB ^ 32:=by decide +kernel
theorem Cq:2 ^ lg < BB ^ 32:=by decide +kernel
theorem Cp:2 ^ lg+2 ^ lg < BB ^ 32:=by decide +kernel
theorem cD (x y:Int):(mkQ x y).1.In:=by
 have hp:2 ^ dP < BB ^ 32:=uI
 have key:∀ z:Int,bl z.natAbs<=480->z.natAbs < BB ^ 32:=fun z h=>Nat.lt_trans (Nat.lt_of_lt_of_le (cO _).1 (Nat.pow_le_pow_right (j:=dP) (by omega) h)) hp
 have hz:(RQ.of 0 0).In:=⟨bJ,bJ⟩
 unfold mkQ
 split
 ·exact hz
 ·split
  ·rename_i h;exact ⟨key _ h.1,key _ h.2⟩
  ·exact hz
theorem hS {n:Int} (h1 : -9223372036854775808<=n) (h2:n<=9223372036854775807):n.natAbs < BB ^ 32:=Nat.lt_of_lt_of_le (by omega:n.natAbs < 18446744073709551616) jP
theorem TR {n d:Int} (h1 : -9223372036854775808<=n) (h2:n<=9223372036854775807) (h3 : -9223372036854775808<=d) (h4:d<=9223372036854775807):ay Tryz.prog 361 [SV.c (.int .i64 n),SV.c (.int .i64 d)] (j7 (mkQ n d)):=by
 refine al ai ak PU _ _ rfl rfl fun w=>?_
 refine .inl ⟨_,eD n h1 h2,.inl ⟨_,eD d h3 h4,.inl ⟨_,wi (aI (hS h1 h2)) (aI (hS h3 h4)),RQ.A_fits _,rfl,trivial⟩⟩⟩
theorem dK {n:Int} (h1 : -9223372036854775808<=n) (h2:n<=9223372036854775807):ay Tryz.prog 90 [SV.c (.int .i64 n)] (.agg (RQ.of n 1).A):=by
 refine al ai ak T9 _ _ rfl rfl fun w=>?_
 refine .inl ⟨_,eD n h1 h2,.inl ⟨_,eD 1 (by omega) (by omega),_,dZ (bL _) (bL _) rfl rfl,(RQ.of n 1).A_fits,rfl,trivial⟩⟩
theorem ln {x y:Int} (hx:bl x.natAbs<=480) (hy:bl y.natAbs<=480):(x*y).natAbs < 2 ^ lg:=by
 have h1:x.natAbs < 2 ^ dP:=Nat.lt_of_lt_of_le (cO _).1 (Nat.pow_le_pow_right (by omega) hx)
 have h2:y.natAbs < 2 ^ dP:=Nat.lt_of_lt_of_le (cO _).1 (Nat.pow_le_pow_right (by omega) hy)
 rw [Int.natAbs_mul,show lg=dP+dP from rfl,Nat.pow_add]
 exact Nat.mul_lt_mul'' h1 h2
theorem M6 {r s:RQ} (hr:r.In) (hs:s.In) (h1:(r.p*s.p).natAbs < BB ^ 32) (h2:(r.q*s.q).natAbs < BB ^ 32):ay Tryz.prog 209 [SV.c (.agg r.A),SV.c (.agg s.A)] (.tuple #[.agg (eA (r.p*s.p)),.agg (eA (r.q*s.q))]):=by
 refine al ai ak Rg _ _ rfl rfl fun w=>?_
 refine ⟨r.A_size,s.A_size,by decide,_,r.cat_l,by decide,_,s.cat_l,.inl ⟨_,cT hr.num hs.num h1,by decide,_,r.cat_r,by decide,_,s.cat_r,.inl ⟨_,cT hr.den hs.den h2,am _,am _,by kernel_rfl,rfl,trivial⟩⟩⟩
theorem IB {r s:RQ} (hr:r.In) (hs:s.In) {g:FuncId} {x y:Int} (hg:r.ok=true->s.ok=true->ay Tryz.prog g [SV.c (.agg r.A),SV.c (.agg s.A)] (.tuple #[.agg (eA x),.agg (eA y)])/\x.natAbs < BB ^ 32/\y.natAbs < BB ^ 32) :
    ay Tryz.prog 207 [SV.c (.agg r.A),SV.c (.agg s.A),SV.c (.func (.func g) #[] #[])] (j7 (if r.ok && s.ok then mkQ x y else (.of 0 0,20))):=by
 refine al ai ak Md _ _ rfl rfl fun w=>?_
 refine ⟨r.A_size,s.A_size,.inl ⟨_,cG hr,fun h1=>.inl ⟨_,cG hs,fun h2=>?_,fun h2=>?_⟩,fun h1=>?_⟩⟩
 ·have h2:=bnt h2
  refine ⟨cR.zero,rfl,(RQ.of 0 0).A_fits,?_,trivial⟩
  rw [h2,Bool.and_false,if_neg Bool.false_ne_true];rfl
 ·have h1:=bX h1
  have h2:=bnf h2
  obtain ⟨h3,h4,h5⟩:=hg h1 h2
  refine .inl ⟨_,h3,.inl ⟨_,wi (aI h4) (aI h5),RQ.A_fits _,?_,trivial⟩⟩
  rw [h1,h2,Bool.and_true,if_pos rfl];rfl
 ·have h1:=bnt h1
  refine ⟨fun _=>⟨cR.zero,rfl,(RQ.of 0 0).A_fits,?_,trivial⟩,nofun⟩
  rw [h1,Bool.false_and,if_neg Bool.false_ne_true];rfl
def bR (r s:RQ):RQ×Int:=if r.ok && s.ok then mkQ (r.p*s.p) (r.q*s.q) else (.of 0 0,20)
theorem RQ.ok_bits {r:RQ} (h:r.ok=true):bl r.p.natAbs<=480/\bl r.q.natAbs<=480/\0 < r.q/\Int.gcd r.p r.q=1/\r=.of r.p r.q:=by
 have h:=af h
 obtain ⟨h1,h2,h3,h4,h5,h6⟩:=h
 obtain ⟨a,N,b,D⟩:=r
 simp only [RQ.p,RQ.q,RQ.of] at *
 subst h4
 rw [bt,bt,oy]
 refine ⟨h1,h2,by simp [zN];omega,h6,?_⟩
 congr 1
 ·cases a
  ·simp [zN]
  ·simp [zN];have:=h3 rfl;omega
theorem dS {x y:Int} (hx:bl x.natAbs<=480) (hy:bl y.natAbs<=480):(x*y).natAbs < BB ^ 32:=Nat.lt_trans (ln hx hy) Cq
theorem Aj {r s:RQ} (hr:r.In) (hs:s.In):ay Tryz.prog 154 [SV.c (.agg r.A),SV.c (.agg s.A)] (j7 (bR r s)):=by
 refine al ai ak R8 _ _ rfl rfl fun w=>?_
 have h:=IB (g:=209) (x:=r.p*s.p) (y:=r.q*s.q) hr hs fun h1 h2=>by
  have k1:=RQ.ok_bits h1
  have k2:=RQ.ok_bits h2
  have m1:=dS k1.1 k2.1
  have m2:=dS k1.2.1 k2.2.1
  exact ⟨M6 hr hs m1 m2,m1,m2⟩
 exact ⟨r.A_size,s.A_size,.inl ⟨_,h,RQ.A_fits _,rfl,trivial⟩⟩
theorem yY (m:Bool) (E:Env) (hE:E.P=Tryz.prog) (d:Key):Own E 208 [SV.c (.bool m)] [] (SV.clo 253 [d]) [(d,Blk.row 4 1 #[.bool m])]:=by
 refine MG ai ak Rh E hE [SV.c (.bool m)] 2 253 d 1 4 1 #[.bool m] rfl rfl rfl fun w=>?_
 exact ⟨rfl,rfl,rfl⟩
def sg (m:Bool) (y:Int):Int:=if m then -y else y
theorem KU {r s:RQ} (hr:r.In) (hs:s.In) (m:Bool) (h1:(r.p*s.q).natAbs < BB ^ 32) (h2:(s.p*r.q).natAbs < BB ^ 32) (h3:(r.q*s.q).natAbs < BB ^ 32) (h4:(r.p*s.q+sg m (s.p*r.q)).natAbs < BB ^ 32) (E:Env) (hE:E.P=Tryz.prog) (d:Key) :
    Own E 253 [SV.c (.agg r.A),SV.c (.agg s.A),SV.ptr d 0] [(d,Blk.row 4 1 #[.bool m])] (SV.c (.tuple #[.agg (eA (r.p*s.q+sg m (s.p*r.q))),.agg (eA (r.q*s.q))])) [(d,Blk.row 4 1 #[.bool m])]:=by
 refine pd ai ak QD E hE d (4,1,#[.bool m],#[.bool m]) [SV.c (.agg r.A),SV.c (.agg s.A),SV.ptr 1000 0] _ rfl rfl fun w b hO=>?_
 refine ⟨r.A_size,s.A_size,by decide,_,s.cat_l,by decide,_,r.cat_r,.inl ⟨_,cT hs.num hr.den h2,am _,_,rfl,fun hm=>?_,fun hm=>?_⟩⟩
 ·have hm:m=true:=hm
  subst hm
  have ha:=CX (aI h1) (aI (z:=sg true (s.p*r.q)) (by show (-(s.p*r.q)).natAbs < _;rw [Int.natAbs_neg];exact h2))
  rw [eI,if_pos h4] at ha
  have hn:ay Tryz.prog 164 [SV.c (.agg (eA (s.p*r.q)))] (.agg (eA (sg true (s.p*r.q)))):=LL (aI h2)
  exact .inl ⟨_,hn,am _,by decide,_,r.cat_l,by decide,_,s.cat_r,.inl ⟨_,cT hr.num hs.den h1,.inl ⟨_,ha,am _,by kernel_rfl,by decide,_,r.cat_r,by decide,_,s.cat_r,.inl ⟨_,cT hr.den hs.den h3,am _,am _,by kernel_rfl,rfl,rfl,trivial⟩⟩⟩⟩
 ·have hm:m=false:=hm
  subst hm
  have ha:=CX (aI h1) (aI (z:=sg false (s.p*r.q)) h2)
  rw [eI,if_pos h4] at ha
  exact ⟨by decide,_,r.cat_l,by decide,_,s.cat_r,.inl ⟨_,cT hr.num hs.den h1,.inl ⟨_,ha,am _,by kernel_rfl,by decide,_,r.cat_r,by decide,_,s.cat_r,.inl ⟨_,cT hr.den hs.den h3,am _,am _,by kernel_rfl,rfl,rfl,trivial⟩⟩⟩⟩
theorem K4 {r s:RQ} (hr:r.In) (hs:s.In) {g:FuncId} {x y:Int} {ty:TypeId} {n0:Nat} {C:Array Value} (hg:∀ E:Env,E.P=Tryz.prog->∀ d,r.ok=true->s.ok=true->Own E g [SV.c (.agg r.A),SV.c (.agg s.A),SV.ptr d 0] [(d,Blk.row ty n0 C)] (SV.c (.tuple #[.agg (eA x),.agg (eA y)])) [(d,Blk.row ty n0 C)]) (hx:r.ok=true->s.ok=true->x.natAbs < BB ^ 32) (hy:r.ok=true->s.ok=true->y.natAbs < BB ^ 32) (E:Env) (hE:E.P=Tryz.prog) (d:Key) :
    Own E 207 [SV.c (.agg r.A),SV.c (.agg s.A),SV.clo g [d]] [(d,Blk.row ty n0 C)] (SV.c (j7 (if r.ok && s.ok then mkQ x y else (.of 0 0,20)))) [(d,Blk.row ty n0 C)]:=by
 have hd:[SV.c (.agg r.A),SV.c (.agg s.A),SV.clo g [d]]=[SV.c (.agg r.A),SV.c (.agg s.A),SV.clo g [1000]].map (sF [⟨1000,d,ty,n0,C,C⟩]):=rfl
 rw [hd]
 refine pd ai ak Md E hE d (ty,n0,C,C) [SV.c (.agg r.A),SV.c (.agg s.A),SV.clo g [1000]] _ rfl rfl fun w b hO=>?_
 refine ⟨r.A_size,s.A_size,.inl ⟨_,cG hr,fun h1=>.inl ⟨_,cG hs,fun h2=>?_,fun h2=>?_⟩,fun h1=>?_⟩⟩
 ·have h2:=bnt h2
  refine ⟨cR.zero,rfl,(RQ.of 0 0).A_fits,?_,rfl,trivial⟩
  rw [h2,Bool.and_false,if_neg Bool.false_ne_true];rfl
 ·have h1:=bX h1
  have h2:=bnf h2
  have h4:=hx h1 h2
  have h5:=hy h1 h2
  refine .inr ⟨_,_,_,hg _ rfl _ h1 h2,⟨rfl,trivial⟩,rfl,.inl ⟨_,wi (aI h4) (aI h5),RQ.A_fits _,?_,rfl,trivial⟩⟩
  rw [h1,h2,Bool.and_true,if_pos rfl];rfl
 ·have h1:=bnt h1
  refine ⟨fun _=>⟨cR.zero,rfl,(RQ.of 0 0).A_fits,?_,rfl,trivial⟩,nofun⟩
  rw [h1,Bool.false_and,if_neg Bool.false_ne_true];rfl
def fS (m:Bool) (r s:RQ):RQ×Int:=if r.ok && s.ok then mkQ (r.p*s.q+sg m (s.p*r.q)) (r.q*s.q) else (.of 0 0,20)
theorem kM {r s:RQ} (h1:r.ok=true) (h2:s.ok=true) (m:Bool):(r.p*s.q).natAbs < BB ^ 32/\(s.p*r.q).natAbs < BB ^ 32/\(r.q*s.q).natAbs < BB ^ 32/\(r.p*s.q+sg m (s.p*r.q)).natAbs < BB ^ 32:=by
 have k1:=RQ.ok_bits h1
 have k2:=RQ.ok_bits h2
 refine ⟨dS k1.1 k2.2.1,dS k2.1 k1.2.1,dS k1.2.1 k2.2.1,?_⟩
 have e1:=ln k1.1 k2.2.1
 have e2:=ln k2.1 k1.2.1
 have e3:(sg m (s.p*r.q)).natAbs=(s.p*r.q).natAbs:=by cases m<;>simp [sg]
 refine Nat.lt_trans ?_ Cp
 have:=Int.natAbs_add_le (r.p*s.q) (sg m (s.p*r.q))
 omega
theorem MH {r s:RQ} (hr:r.In) (hs:s.In) (m:Bool) (E:Env) (hE:E.P=Tryz.prog) (d:Key) :
    Own E 207 [SV.c (.agg r.A),SV.c (.agg s.A),SV.clo 253 [d]] [(d,Blk.row 4 1 #[.bool m])] (SV.c (j7 (fS m r s))) [(d,Blk.row 4 1 #[.bool m])] :=
 K4 hr hs (fun E hE d h1 h2=>KU hr hs m (kM h1 h2 m).1 (kM h1 h2 m).2.1 (kM h1 h2 m).2.2.1 (kM h1 h2 m).2.2.2 E hE d) (fun h1 h2=>(kM h1 h2 m).2.2.2) (fun h1 h2=>(kM h1 h2 m).2.2.1) E hE d
theorem rF (m:Bool) (r s:RQ):(fS m r s).1.In:=by
 unfold fS;split
 ·exact cD _ _
 ·exact ⟨bJ,bJ⟩
theorem pK (r s:RQ):(bR r s).1.In:=by
 unfold bR;split
 ·exact cD _ _
 ·exact ⟨bJ,bJ⟩
theorem MI {r s:RQ} (hr:r.In) (hs:s.In):ay Tryz.prog 153 [SV.c (.agg r.A),SV.c (.agg s.A)] (j7 (fS true r s)):=by
 refine al ai ak R9 _ _ rfl rfl fun w=>?_
 refine ⟨r.A_size,s.A_size,.inr ⟨_,_,_,yY true _ rfl 500,trivial,rfl,.inr ⟨_,_,_,MH hr hs true _ rfl _,⟨rfl,trivial⟩,rfl,RQ.A_fits _,by kernel_rfl,rfl,trivial⟩⟩⟩
theorem BG {r:RQ} (hr:r.In):ay Tryz.prog 188 [SV.c (.agg r.A)] (.tuple #[.int .i64 (if r.ok then sgn r.p else 0),.int .i64 (if r.ok then 0 else 20)]):=by
 refine al ai ak Ro _ _ rfl rfl fun w=>?_
 refine ⟨r.A_size,.inl ⟨_,cG hr,fun h=>?_,fun h=>⟨by decide,_,r.cat_l,.inl ⟨_,iI hr.num,?_,trivial⟩⟩⟩⟩
 ·have h:=bnt h
  refine ⟨?_,trivial⟩
  rw [h];rfl
 ·have h:=bnf h
  rw [h];rfl
theorem qW {r s:RQ} (hr:r.In) (hs:s.In):ay Tryz.prog 122 [SV.c (.agg r.A),SV.c (.agg s.A)] (.tuple #[.int .i64 (if r.ok && s.ok then eK (r.p*s.q) (s.p*r.q) else 0),.int .i64 (if r.ok && s.ok then 0 else 20)]):=by
 refine al ai ak Sx _ _ rfl rfl fun w=>?_
 refine ⟨r.A_size,s.A_size,.inl ⟨_,cG hr,fun h1=>.inl ⟨_,cG hs,fun h2=>?_,fun h2=>?_⟩,fun h1=>?_⟩⟩
 ·have h2:=bnt h2
  refine ⟨?_,trivial⟩
  rw [h2,Bool.and_false];rfl
 ·have h1:=bX h1
  have h2:=bnf h2
  obtain ⟨k1,k2,k3,k4⟩:=kM h1 h2 false
  refine ⟨by decide,_,r.cat_l,by decide,_,s.cat_r,.inl ⟨_,cT hr.num hs.den k1,by decide,_,s.cat_l,by decide,_,r.cat_r,.inl ⟨_,cT hs.num hr.den k2,.inl ⟨_,L7 (aI k1) (aI k2),by kernel_rfl,?_,trivial⟩⟩⟩⟩
  rw [h1,h2];rfl
 ·have h1:=bnt h1
  refine ⟨fun _=>⟨?_,trivial⟩,nofun⟩
  rw [h1];rfl
def tp (n:Nat):Nat:=10 ^ n
theorem sh {n k:Nat} (h:n<=k):tp n<=tp k:=Nat.pow_le_pow_right (by omega) h
theorem Mx (n:Nat):0 < tp n:=Nat.pow_pos (by omega)
theorem rD (n:Nat):tp (n+1)=tp n*10:=Nat.pow_succ ..
theorem My:tp 18=1000000000000000000:=rfl
theorem tp9:tp 9=1000000000:=rfl
theorem JO {n:Nat} (h:n<=18):ay Tryz.prog 262 [SV.c (.int .i64 n)] (.int .i64 ((tp n:Nat):Int)):=by
 refine al ai ak Qs _ _ rfl rfl fun w=>?_
 refine ⟨fun q f m=>∃ i:Nat,q=n - i/\i<=n/\f=[(3,SV.c (.int .i64 ((tp i:Nat):Int))),(4,SV.c (.int .i64 n)),(5,SV.c (.int .i64 i))]/\m=[],n,⟨_,_,⟨0,rfl,Nat.zero_le _,rfl,rfl⟩,⟨rfl,rfl,rfl,trivial⟩,trivial,rfl⟩,?_⟩
 rintro q f m ⟨i,rfl,hi,rfl,rfl⟩
 refine ⟨fun h1=>?_,fun h1=>?_⟩
 ·have h1:(i:Int) < n:=af h1
  have hp:tp (i+1)<=tp 18:=sh (by omega)
  refine ⟨n - (i+1),_,_,by omega,⟨i+1,rfl,by omega,rfl,rfl⟩,⟨ar ?_,rfl,ar (by rw [i64_in (by omega)];rfl),trivial⟩,trivial,rfl⟩
  rw [rD,My] at hp
  rw [rD]
  rw [i64_in (by omega)]
  omega
 ·have h1:¬ ((i:Int) < n):=ag h1
  obtain rfl:i=n:=by omega
  exact ⟨rfl,trivial⟩
theorem CN {r:RQ} (hr:r.In) (n:Int):ay Tryz.prog 217 [SV.c (.agg r.A),SV.c (.int .i64 n)] (.int .i64 (if !r.ok then 20 else if n < 0\/n > 9 then 30 else 0)):=by
 refine al ai ak Q8 _ _ rfl rfl fun w=>?_
 refine ⟨r.A_size,.inl ⟨_,cG hr,fun h1=>?_,fun h1=>⟨fun h2=>?_,fun h2=>?_⟩⟩⟩
 ·have h1:=bnt h1
  refine ⟨iv ?_,trivial⟩
  rw [h1];rfl
 ·have h1:=bnf h1
  have h2:=ag h2
  refine ⟨fun h3=>⟨iv ?_,trivial⟩,fun h3=>⟨iv ?_,trivial⟩⟩
  ·have h3:=af h3
   rw [h1,if_neg (by decide),if_pos (.inr h3)]
  ·have h3:=ag h3
   rw [h1,if_neg (by decide),if_neg (by omega)]
 ·have h1:=bnf h1
  have h2:=af h2
  refine ⟨fun _=>⟨iv ?_,trivial⟩,nofun⟩
  rw [h1,if_neg (by decide),if_pos (.inl h2)]
theorem xu {x:Int} {n:Nat} (hx:bl x.natAbs<=480) (hn:n<=9):(x*((tp n:Nat):Int)).natAbs < BB ^ 32:=by
 have h2:bl (((tp n:Nat):Int)).natAbs<=480:=by
  rw [Int.natAbs_natCast]
  have:=sh hn
  rw [tp9] at this
  refine Nat.le_trans (jU (k:=30) ?_) (by omega)
  omega
 exact dS hx h2
theorem xt {r:RQ} (hr:r.In) (hk:r.ok=true) {n:Nat} (hn:n<=9):ay Tryz.prog 218 [SV.c (.agg r.A),SV.c (.int .i64 n)] (.tuple #[.agg (eA (r.p*((tp n:Nat):Int) / r.q)),.agg (eA (r.p*((tp n:Nat):Int) % r.q))]):=by
 refine al ai ak Q7 _ _ rfl rfl fun w=>?_
 obtain ⟨k1,k2,k3,k4,k5⟩:=RQ.ok_bits hk
 have hp:=sh hn
 rw [tp9] at hp
 have hl:=xu k1 hn
 have hm:=GI hr.num (aI (z:=((tp n:Nat):Int)) (hS (by omega) (by omega)))
 rw [eI,if_pos hl] at hm
 refine ⟨r.A_size,by decide,_,r.cat_l,.inl ⟨_,JO (by omega),.inl ⟨_,eD _ (by omega) (by omega),.inl ⟨_,hm,am _,by kernel_rfl,by decide,_,r.cat_r,.inl ⟨_,yO (aI hl) hr.den (by omega),am _,am _,am _,am _,by kernel_rfl,rfl,trivial⟩⟩⟩⟩⟩

theorem Dq {E:Env} {t:TypeId} {x y:Operand} {a:Array TypeId} {b:Array TypeId} {c:Bool} (hu:E.P.underlying t=some (.func a b c)) {f:Fn} {p q:Array Value}:bH E (do eqGuard .eql t x y (.func f p q) .nilFunc;binOp .eql t (.func f p q) .nilFunc) (.bool false):=fun w _=>by
 have h1:(eqGuard .eql t x y (.func f p q) .nilFunc).run E.P w=.ok () w:=by simp [eqGuard]
 have h2:(Op.equal t (.func f p q) .nilFunc).run E.P w=.ok false w:=by
  show (Op.equalIn (9999+1) t _ _).run E.P w=_
  rw [Op.equalIn]
  simp only [Sem.run_bind,run_underlying hu,Result.andThen_ok,Sem.run_pure]
 have h3:binOp .eql t (.func f p q) .nilFunc=(do pure (.bool (<- Op.equal t (.func f p q) .nilFunc))):=rfl
 rw [Sem.run_bind,h1,h3]
 simp [h2]
theorem xv {E:Env} {t:TypeId} {x y:Operand} {a:Array TypeId} {b:Array TypeId} {c:Bool} (hu:E.P.underlying t=some (.func a b c)):bH E (do eqGuard .eql t x y .nilFunc .nilFunc;binOp .eql t .nilFunc .nilFunc) (.bool true):=fun w _=>by
 have h1:(eqGuard .eql t x y .nilFunc .nilFunc).run E.P w=.ok () w:=by simp [eqGuard]
 have h2:(Op.equal t .nilFunc .nilFunc).run E.P w=.ok true w:=by
  show (Op.equalIn (9999+1) t _ _).run E.P w=_
  rw [Op.equalIn]
  simp only [Sem.run_bind,run_underlying hu,Result.andThen_ok,Sem.run_pure]
 have h3:binOp .eql t .nilFunc .nilFunc=(do pure (.bool (<- Op.equal t .nilFunc .nilFunc))):=rfl
 rw [Sem.run_bind,h1,h3]
 simp [h2]
def btA (low half:Int) (neg:Bool):Array Value:=eA low++#[.int .i64 half,.bool neg]
theorem iq (low half:Int) (neg:Bool):Fits (btA low half neg) 35:=⟨by simp [btA,bL],by rw [btA,Array.all_append,(am low).one];simp [Value.oneCell']⟩
theorem qg {low half:Int} {neg:Bool}:(btA low half neg)[33]? = some (.int .i64 half):=by
 rw [btA,Array.getElem?_append_right (by rw [bL];omega),bL];rfl
theorem CP {low half:Int} {neg:Bool}:(btA low half neg)[34]? = some (.bool neg):=by
 rw [btA,Array.getElem?_append_right (by rw [bL];omega),bL];rfl
theorem K6 {low half:Int} {neg:Bool}:(btA low half neg)[1]? = some (.int .u32 (dg low.natAbs 0:Nat)):=by
 rw [btA,Array.getElem?_append_left (by rw [bL];omega),eA,iA,Array.getElem?_append_right (by simp)]
 exact bh (by omega)
theorem Cv {low half:Int} {neg:Bool} {Z:Array Value} (hZ:Z.size=35) {pl:List (Nat×Nat)} (hpl:pl=[(0,33),(33,1),(34,1)]):Instr.fill (fun k=>pl[k]?) Z [(0,.agg (eA low)),(1,.int .i64 half),(2,.bool neg)]=some (btA low half neg):=by
 subst hpl
 have:=ld (pl:=fun k=>[(0,33),(33,1),(34,1)][k]?) (vs:=[.agg (eA low),.int .i64 half,.bool neg]) (Z:=Z) ⟨by simp [Value.cells,bL],by simp [Value.cells,bL],by simp [Value.cells,bL],trivial⟩ (by simp [ir,Value.cells,bL,hZ])
 rw [show ir [.agg (eA low),.int .i64 half,.bool neg]=btA low half neg by simp [ir,Value.cells,btA]] at this
 exact this
def upM (mode:Int) (neg:Bool) (half:Int) (odd:Bool):Bool :=
 if mode=1 then neg else if mode=2 then !neg else if mode=3 then false else if mode=4 then true else if mode=5 then (if half=0 then !neg else decide (half > 0)) else (if half=0 then odd else decide (half > 0))
theorem Nv (low half:Int) (neg:Bool):ay Tryz.prog 263 [SV.c (.agg (btA low half neg))] (.bool neg):=by
 refine al ai ak Qr _ _ rfl rfl fun w=>?_
 exact ⟨(iq low half neg).size,_,CP,rfl,trivial⟩
theorem Ob (low half:Int) (neg:Bool):ay Tryz.prog 264 [SV.c (.agg (btA low half neg))] (.bool !neg):=by
 refine al ai ak Qq _ _ rfl rfl fun w=>?_
 exact ⟨(iq low half neg).size,_,CP,rfl,trivial⟩
theorem Kt (low half:Int) (neg:Bool):ay Tryz.prog 265 [SV.c (.agg (btA low half neg))] (.bool false):=by
 refine al ai ak Qp _ _ rfl rfl fun w=>?_
 exact ⟨(iq low half neg).size,rfl,trivial⟩
theorem NH (low half:Int) (neg:Bool):ay Tryz.prog 266 [SV.c (.agg (btA low half neg))] (.bool true):=by
 refine al ai ak Qo _ _ rfl rfl fun w=>?_
 exact ⟨(iq low half neg).size,rfl,trivial⟩
theorem Hy (low half:Int) (neg:Bool):ay Tryz.prog 267 [SV.c (.agg (btA low half neg))] (.bool (if half=0 then !neg else decide (half > 0))):=by
 refine al ai ak Qn _ _ rfl rfl fun w=>?_
 refine ⟨(iq low half neg).size,_,qg,fun h=>.inl ⟨_,Ob low half neg,bv ?_,trivial⟩,fun h=>⟨_,qg,bv ?_,trivial⟩⟩
 ·rw [if_pos (by simpa using h)]
 ·rw [if_neg (by simpa using h)]
theorem dg0 (N:Nat):dg N 0=N % 4294967296:=by simp [dg,aR]
theorem Au (low half:Int) (neg:Bool):ay Tryz.prog 268 [SV.c (.agg (btA low half neg))] (.bool (if half=0 then decide (low % 2=1) else decide (half > 0))):=by
 refine al ai ak Qm _ _ rfl rfl fun w=>?_
 refine ⟨(iq low half neg).size,_,qg,fun h=>⟨by decide,by decide,_,K6,by decide,bv ?_,trivial⟩,fun h=>⟨_,qg,bv ?_,trivial⟩⟩
 ·rw [if_pos (by simpa using h),dg0,Bool.eq_iff_iff]
  simp only [beq_iff_eq,decide_eq_true_eq]
  rw [Int.tmod_eq_emod_of_nonneg (by omega)]
  omega
 ·rw [if_neg (by simpa using h)]
def B6 (mode:Int) (v:Value):Value :=
 if mode=1 then .func (.func 263) #[v] #[] else if mode=2 then .func (.func 264) #[v] #[] else if mode=3 then .func (.func 265) #[v] #[] else if mode=4 then .func (.func 266) #[v] #[] else if mode=5 then .func (.func 267) #[v] #[] else if mode=6 then .func (.func 268) #[v] #[] else .nilFunc
theorem GL (low half:Int) (neg:Bool) (mode:Int):ay Tryz.prog 220 [SV.c (.agg (btA low half neg)),SV.c (.int .i64 mode)] (B6 mode (.agg (btA low half neg))):=by
 refine al ai ak Q4 _ _ rfl rfl fun w=>?_
 unfold B6
 refine ⟨(iq low half neg).size,fun h=>⟨?_,trivial⟩,fun h=>⟨fun h2=>⟨?_,trivial⟩,fun h2=>⟨fun h3=>⟨?_,trivial⟩,fun h3=>⟨fun h4=>⟨?_,trivial⟩,fun h4=>⟨fun h5=>⟨?_,trivial⟩,fun h5=>⟨fun h6=>⟨?_,trivial⟩,fun h6=>⟨?_,trivial⟩⟩⟩⟩⟩⟩⟩
 all_goals simp only [beq_iff_eq,beq_eq_false_iff_ne,ne_eq] at *
 ·rw [if_pos h];rfl
 ·rw [if_neg h,if_pos h2];rfl
 ·rw [if_neg h,if_neg h2,if_pos h3];rfl
 ·rw [if_neg h,if_neg h2,if_neg h3,if_pos h4];rfl
 ·rw [if_neg h,if_neg h2,if_neg h3,if_neg h4,if_pos h5];rfl
 ·rw [if_neg h,if_neg h2,if_neg h3,if_neg h4,if_neg h5,if_pos h6];rfl
 ·rw [if_neg h,if_neg h2,if_neg h3,if_neg h4,if_neg h5,if_neg h6];rfl
theorem GM (low half:Int) (neg:Bool) {mode:Int} (h:mode < 1\/mode > 6):ay Tryz.prog 220 [SV.c (.agg (btA low half neg)),SV.c (.int .i64 mode)] .nilFunc:=by
 have:=GL low half neg mode
 unfold B6 at this
 rwa [if_neg (by omega),if_neg (by omega),if_neg (by omega),if_neg (by omega),if_neg (by omega),if_neg (by omega)] at this
theorem DJ (low half:Int) (neg:Bool) {mode:Int} (h:¬ (mode < 1\/mode > 6)):∃ g,ay Tryz.prog 220 [SV.c (.agg (btA low half neg)),SV.c (.int .i64 mode)] (.func (.func g) #[.agg (btA low half neg)] #[])/\ay Tryz.prog g [SV.c (.agg (btA low half neg))] (.bool (upM mode neg half (decide (low % 2=1)))):=by
 have:=GL low half neg mode
 unfold B6 at this
 unfold upM
 by_cases h1:mode=1
 ·rw [if_pos h1] at this ⊢;exact ⟨_,this,Nv _ _ _⟩
 rw [if_neg h1] at this ⊢
 by_cases h2:mode=2
 ·rw [if_pos h2] at this ⊢;exact ⟨_,this,Ob _ _ _⟩
 rw [if_neg h2] at this ⊢
 by_cases h3:mode=3
 ·rw [if_pos h3] at this ⊢;exact ⟨_,this,Kt _ _ _⟩
 rw [if_neg h3] at this ⊢
 by_cases h4:mode=4
 ·rw [if_pos h4] at this ⊢;exact ⟨_,this,NH _ _ _⟩
 rw [if_neg h4] at this ⊢
 by_cases h5:mode=5
 ·rw [if_pos h5] at this ⊢;exact ⟨_,this,Hy _ _ _⟩
 rw [if_neg h5] at this ⊢
 rw [if_pos (show mode=6 by omega)] at this
 exact ⟨_,this,Au _ _ _⟩
def vU (mode x y:Int):Int:=if x % y=0 then x / y else if upM mode (decide (x < 0)) (eK (x % y+x % y) y) (decide (x / y % 2=1)) then x / y+1 else x / y
def f8 (r:RQ) (n mode:Int):Int×Int:=if !r.ok then (0,20) else if n < 0\/n > 9 then (0,30) else if mode < 1\/mode > 6 then (0,31) else (vU mode (r.p*(tp n.toNat:Nat)) r.q,0)
def Pe (x:Int×Int):Value:=.tuple #[.agg (eA x.1),.int .i64 x.2]
theorem lB {x:Int} {n:Nat} (hx:bl x.natAbs<=480) (hn:n<=9):(x*((tp n:Nat):Int)).natAbs < 2 ^ lg:=by
 have h2:bl (((tp n:Nat):Int)).natAbs<=480:=by
  rw [Int.natAbs_natCast]
  have:=sh hn
  rw [tp9] at this
  refine Nat.le_trans (jU (k:=30) ?_) (by omega)
  omega
 exact ln hx h2
theorem xk {x:Int} {n:Nat}:decide (x*((tp n:Nat):Int) < 0)=decide (x < 0):=by
 have:=Mx n
 rw [Bool.eq_iff_iff]
 simp only [decide_eq_true_eq]
 constructor
 ·intro h
  rcases Int.lt_or_le x 0 with h1 | h1
  ·exact h1
  ·have:=Int.mul_nonneg h1 (show (0:Int)<=(tp n:Nat) by omega);omega
 ·intro h
  exact Int.mul_neg_of_neg_of_pos h (by omega)
theorem JA {r:RQ} (hr:r.In) (n mode:Int):ay Tryz.prog 168 [SV.c (.agg r.A),SV.c (.int .i64 n),SV.c (.int .i64 mode)] (Pe (f8 r n mode)):=by
 refine al ai ak RL _ _ rfl rfl fun w=>?_
 have hc:=CN hr n
 rcases Decidable.em (r.ok=true) with hk | hk
 case inr =>
  have hk:r.ok=false:=by simpa using hk
  rw [hk,Bool.not_false,if_pos rfl] at hc
  refine ⟨r.A_size,.inl ⟨_,hc,fun _=>?_,nofun⟩⟩
  refine ⟨eW.zero,rfl,am 0,?_,trivial⟩
  rw [f8,hk,Bool.not_false,if_pos rfl];rfl
 rw [hk] at hc
 rcases Decidable.em (n < 0\/n > 9) with hn | hn
 ·rw [Bool.not_true,if_neg Bool.false_ne_true,if_pos hn] at hc
  refine ⟨r.A_size,.inl ⟨_,hc,fun _=>?_,nofun⟩⟩
  refine ⟨eW.zero,rfl,am 0,?_,trivial⟩
  rw [f8,hk,Bool.not_true,if_neg Bool.false_ne_true,if_pos hn];rfl
 rw [Bool.not_true,if_neg Bool.false_ne_true,if_neg hn] at hc
 obtain ⟨k,rfl⟩:∃ k:Nat,n=k:=⟨n.toNat,by omega⟩
 have hk9:k<=9:=by omega
 obtain ⟨k1,k2,k3,k4,k5⟩:=RQ.ok_bits hk
 have hs:=xt hr hk hk9
 have hl:=lB k1 hk9
 have hrl:(r.p*((tp k:Nat):Int) % r.q).natAbs < 2 ^ dP:=by
  have h1:=Int.emod_lt_of_pos (r.p*((tp k:Nat):Int)) k3
  have h2:=Int.emod_nonneg (r.p*((tp k:Nat):Int)) (show r.q≠0 by omega)
  have h3:r.q.natAbs < 2 ^ dP:=Nat.lt_of_lt_of_le (cO _).1 (Nat.pow_le_pow_right (by omega) k2)
  omega
 have hlow:(r.p*((tp k:Nat):Int) / r.q).natAbs < 2 ^ lg:=Nat.lt_of_le_of_lt (Int.natAbs_ediv_le_natAbs _ _) hl
 have p1:=uI
 have p2:=Cq
 have p3:=Cp
 have pp:2 ^ dP+2 ^ dP<=2 ^ lg:=by decide +kernel
 have p4:1<=2 ^ lg:=Nat.pow_pos (by omega)
 rw [f8,hk,Bool.not_true,if_neg Bool.false_ne_true,if_neg hn,Int.toNat_natCast]
 unfold vU
 have eneg:=xk (x:=r.p) (n:=k)
 generalize hlowE:r.p*((tp k:Nat):Int) / r.q=low at *
 generalize hrestE:r.p*((tp k:Nat):Int) % r.q=rest at *
 have ht:=CX (aI (z:=rest) (by omega)) (aI (z:=rest) (by omega))
 rw [eI,if_pos (by omega)] at ht
 have hcm:=L7 (aI (z:=rest+rest) (by omega)) hr.den
 have hsn:=iI hr.num
 rcases Decidable.em (mode < 1\/mode > 6) with hm | hm
 ·have hmode:=GM low (eK (rest+rest) r.q) (decide (sgn r.p < 0)) hm
  refine ⟨r.A_size,.inl ⟨_,hc,nofun,fun _=>.inl ⟨_,hs,am _,am _,.inl ⟨_,ht,am _,by decide,_,r.cat_r,.inl ⟨_,hcm,by decide,_,r.cat_l,.inl ⟨_,hsn,_,Cv rfl rfl,.inl ⟨_,hmode,by kernel_rfl,_,xv Tryz.underlying46,fun _=>?_,nofun⟩⟩⟩⟩⟩⟩⟩
  refine ⟨eW.zero,rfl,am 0,?_,trivial⟩
  rw [if_pos hm];rfl
 ·obtain ⟨g,hmode,hup⟩:=DJ low (eK (rest+rest) r.q) (decide (sgn r.p < 0)) hm
  rw [if_neg hm]
  refine ⟨r.A_size,.inl ⟨_,hc,nofun,fun _=>.inl ⟨_,hs,am _,am _,.inl ⟨_,ht,am _,by decide,_,r.cat_r,.inl ⟨_,hcm,by decide,_,r.cat_l,.inl ⟨_,hsn,_,Cv rfl rfl,.inl ⟨_,hmode,by kernel_rfl,_,Dq Tryz.underlying46,nofun,fun _=>.inl ⟨_,iI (aI (z:=rest) (by omega)),fun h1=>?_,fun h1=>?_⟩⟩⟩⟩⟩⟩⟩⟩
  ·rw [dx] at h1
   have h1:=ag h1
   rw [if_neg h1]
   refine .inl ⟨_,hup,fun h2=>?_,fun h2=>?_⟩
   ·have h2:=bnt h2
    refine ⟨am _,?_,trivial⟩
    rw [ju,<- eneg] at h2
    rw [h2,if_neg Bool.false_ne_true];rfl
   ·have h2:=bnf h2
    have ha:=CX (aI (z:=low) (by omega)) (aI (z:=1) (by omega))
    rw [eI,if_pos (by omega)] at ha
    refine .inl ⟨_,eD 1 (by omega) (by omega),.inl ⟨_,ha,am _,by kernel_rfl,am _,?_,trivial⟩⟩
    rw [ju,<- eneg] at h2
    rw [h2,if_pos rfl];rfl
  ·rw [dx] at h1
   have h1:rest=0:=af h1
   refine ⟨fun _=>⟨am _,?_,trivial⟩,nofun⟩
   rw [if_pos h1];rfl
def kR (x:Int×Int):Int×Int:=if x.2≠0 then (0,x.2) else if x.1 < -1000000000000000\/x.1 > 1000000000000000 then (0,33) else (x.1,0)
def JE (x:Int×Int):Value:=.tuple #[.int .i64 x.1,.int .i64 x.2]
theorem JC {r:RQ} (hk:r.ok=true) {n:Nat} (hn:n<=9) (mode:Int):(vU mode (r.p*(tp n:Nat)) r.q).natAbs < BB ^ 32:=by
 obtain ⟨k1,k2,k3,k4,k5⟩:=RQ.ok_bits hk
 have hl:=lB k1 hn
 have hlow:(r.p*((tp n:Nat):Int) / r.q).natAbs < 2 ^ lg:=Nat.lt_of_le_of_lt (Int.natAbs_ediv_le_natAbs _ _) hl
 have p3:=Cp
 have p4:1<=2 ^ lg:=Nat.pow_pos (by omega)
 unfold vU
 split
 ·omega
 ·split<;>omega
theorem BL (r:RQ) (n mode:Int):(f8 r n mode).1.natAbs < BB ^ 32:=by
 unfold f8
 split
 ·exact bJ
 ·split
  ·exact bJ
  ·split
   ·exact bJ
   ·rename_i h1 h2 h3
    exact JC (by simpa using h1) (by omega) mode
theorem sD {r:RQ} (hr:r.In) (n mode:Int):ay Tryz.prog 104 [SV.c (.agg r.A),SV.c (.int .i64 n),SV.c (.int .i64 mode)] (JE (kR (f8 r n mode))):=by
 refine al ai ak SR _ _ rfl rfl fun w=>?_
 have hx:=JA hr n mode
 have hlt:=BL r n mode
 generalize f8 r n mode=x at *
 obtain ⟨x,e⟩:=x
 have ht:=Jm (aI hlt)
 have hx:ay Tryz.prog 168 [SV.c (.agg r.A),SV.c (.int .i64 n),SV.c (.int .i64 mode)] (.tuple #[.agg (eA x),.int .i64 e]):=hx
 have ht:ay Tryz.prog 169 [SV.c (.agg (eA x))] (dm x):=ht
 refine ⟨r.A_size,.inl ⟨_,hx,am _,fun h=>?_,fun h=>?_⟩⟩
 ·have h:e≠0:=by simpa using h
  refine ⟨?_,trivial⟩
  rw [kR,if_pos h];rfl
 ·have h:¬ (e≠0):=by simpa using h
  rw [kR,if_neg h]
  by_cases hz : -9223372036854775808<=x/\x<=9223372036854775807
  ·rw [dm,if_pos hz] at ht
   refine .inl ⟨_,ht,fun _=>⟨fun h1=>⟨fun h2=>?_,fun h2=>?_⟩,fun h1=>⟨fun _=>?_,nofun⟩⟩,nofun⟩
   ·have h1:=ag h1
    have h2:=af h2
    refine ⟨?_,trivial⟩
    rw [if_pos (.inr h2)];rfl
   ·have h1:=ag h1
    have h2:=ag h2
    refine ⟨?_,trivial⟩
    rw [if_neg (by omega)];rfl
   ·have h1:=af h1
    refine ⟨?_,trivial⟩
    rw [if_pos (.inl h1)];rfl
  ·rw [dm,if_neg hz] at ht
   refine .inl ⟨_,ht,nofun,fun _=>⟨nofun,fun _=>⟨fun _=>⟨?_,trivial⟩,nofun⟩⟩⟩
   rw [if_pos (show (x,e).1 < -1000000000000000\/(x,e).1 > 1000000000000000 by show x < _\/x > _;omega)];rfl
def bA (f:Nat->Nat) (n:Nat):Array Value:=((List.range n).map fun i=>Value.int .u8 ((f i:Nat):Int)).toArray
theorem rS (f:Nat->Nat) (n:Nat):(bA f n).size=n:=by simp [bA]
theorem rb (f:Nat->Nat) {n i:Nat} (h:i < n):(bA f n)[i]? = some (.int .u8 ((f i:Nat):Int)):=by simp [bA,h]
theorem IJ (f:Nat->Nat) (n k v:Nat):(bA f n).setIfInBounds k (.int .u8 ((v:Nat):Int))=bA (fun x=>if x=k then v else f x) n:=by
 apply Array.ext_getElem?
 intro i
 by_cases hi:i < n
 ·rw [rb _ hi]
  by_cases e:i=k
  ·subst e;rw [Array.getElem?_setIfInBounds_self_of_lt (by rw [rS];exact hi)];simp
  ·rw [Array.getElem?_setIfInBounds_ne (fun h=>e h.symm),rb _ hi,if_neg e]
 ·rw [Array.getElem?_eq_none (by simp [rS];omega),Array.getElem?_eq_none (by simp [rS];omega)]
def Has (l:List UInt8) (f:Nat->Nat):Prop:=∀ i,i < l.length->f i=(l.getD i 0).toNat
theorem Has.push {l:List UInt8} {f:Nat->Nat} (h:Has l f) (b:UInt8):Has (l++[b]) (fun x=>if x=l.length then b.toNat else f x):=fun i hi=>by
 rw [List.length_append,List.length_singleton] at hi
 by_cases e:i=l.length
 ·subst e;simp
 ·simp only [if_neg e]
  rw [h i (by omega),List.getD_eq_getElem?_getD,List.getD_eq_getElem?_getD,List.getElem?_append_left (by omega)]
theorem IK {G:Nat->Nat} {n i v:Nat} {x y:Int} (hx:x=(i:Nat)) (hy:y=(v:Nat)):(bA G n).setIfInBounds x.toNat (.int .u8 y)=bA (fun k=>if k=i then v else G k) n:=by
 subst hx;subst hy;exact IJ G n i v
theorem wS {f:Nat->Nat} {n k v:Nat} {x:Int} (hx:x=(v:Nat)):aM (bA f n) (0+k*1) ((#[Value.int .u8 x]:Array Value).extract 0 (0+1*1)).toList=bA (fun x=>if x=k then v else f x) n:=by
 subst hx
 have e:((#[Value.int .u8 ((v:Nat):Int)]:Array Value).extract 0 (0+1*1)).toList=[.int .u8 ((v:Nat):Int)]:=rfl
 rw [e,aM,aM,Nat.zero_add,Nat.mul_one,IJ]
theorem sW (n:Nat):madeCells ti5.zero n=bA (fun _=>0) n:=by
 apply Array.ext_getElem?
 intro i
 by_cases hi:i < n
 ·rw [rb _ hi]
  have hz:ti5.zero=#[.int .u8 0]:=rfl
  simp [madeCells,hz,hi,Nat.mod_one]
 ·rw [Array.getElem?_eq_none (by rw [size_madeCells];omega),Array.getElem?_eq_none (by rw [rS];omega)]
theorem zT {d o a b c:Nat} (h:a=b):SV.sl d o a c=SV.sl d o b c:=by rw [h]
theorem Fz (n:Nat):Int.tmod (n:Int) 10=((n % 10:Nat):Int):=(Int.ofNat_tmod n 10).symm
theorem FG (n:Nat):Int.tdiv (n:Int) 10=((n / 10:Nat):Int):=(Int.ofNat_tdiv n 10).symm
theorem qS (v:Int):Instr.fill (fun k=>some (k*ti5.size,ti5.size)) (madeCells ti5.zero (1*ti5.size)) [(0,.int .u8 v)]=some #[.int .u8 v]:=by
 rw [sW];rfl
theorem NN:BB ^ 32<=10 ^ KJ:=by decide +kernel
theorem HK {A:Array Value} {z:Int} (h:IsI A z):ay Tryz.prog 232 [SV.c (.agg A)] (.string (Nn z)):=by
 refine fK [14] ai ak QV _ _ rfl rfl fun w=>?_
 have hl309:(ga z.natAbs).length<=309:=sH KJ _ (Nat.lt_of_lt_of_le h.lt NN)
 refine ⟨h.size,.inl ⟨_,cZ h,aE _,by decide,by decide,by decide,⟨_,rfl,by show ((1:Nat):Int)*310<=281474976710656;decide⟩,_,sW _,?_⟩⟩
 refine ⟨fun q f m=>∃ (M:Nat) (l:List UInt8) (g:Nat->Nat),q=M/\M < BB ^ 32/\l++ga M=ga z.natAbs/\Has l g/\f=[(3,SV.c (.bool (decide (z < 0)))),(4,SV.ptr 4 0),(5,SV.sl 15 0 l.length 310)]/\m=[(4,Blk.row 201 32 (mA M)),(15,Blk.row 5 310 (bA g 310))],z.natAbs,⟨_,_,⟨z.natAbs,[],fun _=>0,rfl,h.lt,by simp,fun i hi=>absurd hi (by simp),rfl,rfl⟩,⟨rfl,rfl,rfl,trivial⟩,⟨rfl,rfl,trivial⟩,rfl⟩,?_⟩
 rintro M f m ⟨_,l,g,rfl,hM,hd,hg,rfl,rfl⟩
 refine ⟨mA 0,dQ fB,_,lG rfl hM bJ,fun h1=>?_,fun h1=>?_⟩
 ·have h1:M≠0:=by simpa using h1
  have hq:M / 1000000000 < BB ^ 32:=Nat.lt_of_le_of_lt (Nat.div_le_self _ _) hM
  refine .inr ⟨_,_,_,us (x:=1000000000) hM (by decide) (by decide) _ rfl 4,⟨rfl,trivial⟩,rfl,?_⟩
  refine ⟨fun q f m=>∃ (i R0:Nat) (l:List UInt8) (g:Nat->Nat),q=9 - i/\i<=9/\R0 < 10 ^ (9 - i)/\l++ga (R0+M / 1000000000*10 ^ (9 - i))=ga z.natAbs/\Has l g/\f=[(3,SV.c (.bool (decide (z < 0)))),(4,SV.ptr 4 0),(5,SV.sl 15 0 l.length 310),(6,SV.c (.int .u32 R0)),(7,SV.c (.int .i64 i))]/\m=[(4,Blk.row 201 32 (mA (M / 1000000000))),(15,Blk.row 5 310 (bA g 310))],9,⟨_,_,⟨0,M % 1000000000,l,g,rfl,by omega,by show M % 1000000000 < 1000000000;omega,by rw [<- hd];congr 2;show M % 1000000000+M / 1000000000*1000000000=M;omega,hg,rfl,rfl⟩,⟨rfl,rfl,rfl,rfl,rfl,trivial⟩,⟨rfl,rfl,trivial⟩,rfl⟩,?_⟩
  rintro q f m ⟨i,R0,l,g,rfl,hi,hR,hd,hg,rfl,rfl⟩
  have hll:l.length+(ga (R0+M / 1000000000*10 ^ (9 - i))).length<=309:=by rw [<- List.length_append,hd];exact hl309
  have hpw0:0 < 10 ^ (9 - i):=Nat.pow_pos (by omega)
  have hR9:R0 < 1000000000:=Nat.lt_of_lt_of_le hR (Nat.pow_le_pow_right (show 0 < 10 by omega) (show 9 - i<=9 by omega))
  refine ⟨fun h2=>?_,fun h2=>⟨nofun,fun _=>?_⟩⟩
  ·have h2:i < 9:=by have:=af h2;omega
   have hpw:10 ^ (9 - i)=10 ^ (9 - (i+1))*10:=by rw [<- Nat.pow_succ];congr 1;omega
   have hch:UInt8.ofNat (48+(R0+M / 1000000000*10 ^ (9 - i)) % 10) :: ga ((R0+M / 1000000000*10 ^ (9 - i)) / 10)=UInt8.ofNat (48+R0 % 10) :: ga (R0 / 10+M / 1000000000*10 ^ (9 - (i+1))):=by
    rw [hpw,<- Nat.mul_assoc]
    congr 2
    ·congr 1;omega
    ·omega
   refine ⟨fun h3=>⟨mA 0,dQ fB,_,lG rfl hq bJ,fun h4=>?_,fun h4=>?_⟩,fun h3=>⟨fun _=>?_,nofun⟩⟩
   ·have h4:M / 1000000000≠0:=by simpa using h4
    have hne:R0+M / 1000000000*10 ^ (9 - i)≠0:=by
     have:=hpw
     exact fun h0=>h4 (by have:=Nat.eq_zero_of_add_eq_zero_left h0;rcases Nat.mul_eq_zero.1 this with e | e<;>omega)
    rw [jg hne,hch] at hd hll
    rw [List.length_cons] at hll
    have hb:Int.tmod (R0:Int) 10=((R0 % 10:Nat):Int):=Fz R0
    have hc:IntKind.u8.wrap (IntKind.u32.wrap (48+Int.tmod (R0:Int) 10))=(((UInt8.ofNat (48+R0 % 10)).toNat:Nat):Int):=by rw [hb,qU,eU (by omega),lr];omega
    refine ⟨by decide,by decide,by decide,_,qS _,rfl,by omega,by decide,by decide,by simp [Value.oneCell'],_,wS hc,by decide,?_⟩
    exact ⟨9 - (i+1),_,_,by omega,⟨i+1,R0 / 10,l++[UInt8.ofNat (48+R0 % 10)],_,rfl,by omega,by rw [hpw] at hR;omega,by rw [<- hd];simp,hg.push _,rfl,rfl⟩,⟨rfl,rfl,zT (by simp),ar (by rw [FG];exact eU (by omega)),ar (by rw [i64_in (by omega)];rfl),trivial⟩,⟨rfl,rfl,trivial⟩,rfl⟩
   ·have h3:R0=0:=by have:=ag h3;omega
    have h4:M / 1000000000=0:=by simpa using h4
    have hq0:R0+M / 1000000000*10 ^ (9 - i)=M / 1000000000:=by
     rw [h3,h4];simp
    rw [hq0] at hd
    exact ⟨M / 1000000000,_,_,by omega,⟨_,l,g,rfl,hq,hd,hg,rfl,rfl⟩,⟨rfl,rfl,rfl,trivial⟩,⟨rfl,rfl,trivial⟩,rfl⟩
   ·have h3:0 < R0:=by have:=af h3;omega
    have hne:R0+M / 1000000000*10 ^ (9 - i)≠0:=by
     have:=hpw
     omega
    rw [jg hne,hch] at hd hll
    rw [List.length_cons] at hll
    have hb:Int.tmod (R0:Int) 10=((R0 % 10:Nat):Int):=Fz R0
    have hc:IntKind.u8.wrap (IntKind.u32.wrap (48+Int.tmod (R0:Int) 10))=(((UInt8.ofNat (48+R0 % 10)).toNat:Nat):Int):=by rw [hb,qU,eU (by omega),lr];omega
    refine ⟨by decide,by decide,by decide,_,qS _,rfl,by omega,by decide,by decide,by simp [Value.oneCell'],_,wS hc,by decide,?_⟩
    exact ⟨9 - (i+1),_,_,by omega,⟨i+1,R0 / 10,l++[UInt8.ofNat (48+R0 % 10)],_,rfl,by omega,by rw [hpw] at hR;omega,by rw [<- hd];simp,hg.push _,rfl,rfl⟩,⟨rfl,rfl,zT (by simp),ar (by rw [FG];exact eU (by omega)),ar (by rw [i64_in (by omega)];rfl),trivial⟩,⟨rfl,rfl,trivial⟩,rfl⟩
  ·have h2:i=9:=by have:=ag h2;omega
   have h3:R0=0:=by rw [h2] at hR;simp at hR;omega
   have hq0:R0+M / 1000000000*10 ^ (9 - i)=M / 1000000000:=by
    rw [h3,h2];simp
   rw [hq0] at hd
   exact ⟨M / 1000000000,_,_,by omega,⟨_,l,g,rfl,hq,hd,hg,rfl,rfl⟩,⟨rfl,rfl,rfl,trivial⟩,⟨rfl,rfl,trivial⟩,rfl⟩
 ·have h1:M=0:=by simpa using h1
  subst h1
  rw [jf,List.append_nil] at hd
  subst hd
  have hlz:(ga z.natAbs).length=0↔z.natAbs=0:=by
   constructor
   ·intro h0
    rcases Nat.eq_zero_or_pos z.natAbs with e | e
    ·exact e
    ·rw [jg (by omega)] at h0;simp at h0
   ·intro h0;rw [h0,jf];rfl
  refine ⟨fun h2=>?_,fun h2=>?_⟩
  ·have h2:(ga z.natAbs).length=0:=by have:(((ga z.natAbs).length:Nat):Int)=0:=by simpa using h2
                                      omega
   have hz:z=0:=by have:=hlz.1 h2;omega
   subst hz
   exact ⟨rfl,trivial⟩
  have h2:(ga z.natAbs).length≠0:=by
   intro h0
   rw [h0] at h2;simp at h2
  have hz:z.natAbs≠0:=fun h0=>h2 (hlz.2 h0)
  have hN:iO z.natAbs=(ga z.natAbs).reverse:=by rw [iO,if_neg hz]
  refine ⟨fun f m=>∃ (l:List UInt8) (g:Nat->Nat),l.length<=310/\Has l g/\0 < l.length/\l.reverse=ub z/\f=[(5,SV.sl 15 0 l.length 310)]/\m=[(15,Blk.row 5 310 (bA g 310))],⟨fun h3=>?_,fun h3=>?_⟩,?_⟩
  ·have h3:=af h3
   refine ⟨by decide,by decide,_,qS _,rfl,by omega,by decide,by decide,by simp [Value.oneCell'],_,wS (v:=(45:UInt8).toNat) rfl,?_⟩
   exact ⟨_,_,⟨ga z.natAbs++[45],_,by simp;omega,hg.push _,by simp,by rw [ub,if_pos h3,hN];simp,rfl,rfl⟩,⟨zT (by simp),trivial⟩,⟨rfl,trivial⟩,rfl⟩
  ·have h3:=ag h3
   exact ⟨_,_,⟨ga z.natAbs,_,by omega,hg,by omega,by rw [ub,if_neg h3,hN],rfl,rfl⟩,⟨rfl,trivial⟩,⟨rfl,trivial⟩,rfl⟩
  rintro f m ⟨l,g,hl,hg,h0,hr,rfl,rfl⟩
  have e1:IntKind.i64.wrap ((l.length:Int) - 1)=((l.length - 1:Nat):Int):=by rw [i64_in (by omega)];omega
  refine ⟨fun q f m=>∃ (i j:Nat) (g:Nat->Nat),q=l.length - i/\i+j=l.length - 1/\(∀ k,k < l.length->g k=if k < i\/j < k then (l.getD (l.length - 1 - k) 0).toNat else (l.getD k 0).toNat)/\f=[(5,SV.sl 15 0 l.length 310),(8,SV.c (.int .i64 i)),(9,SV.c (.int .i64 j))]/\m=[(15,Blk.row 5 310 (bA g 310))],l.length,⟨_,_,⟨0,l.length - 1,g,rfl,by omega,fun k hk=>by rw [if_neg (by omega)];exact hg k hk,rfl,rfl⟩,⟨rfl,rfl,ar e1,trivial⟩,⟨rfl,trivial⟩,rfl⟩,?_⟩
  rintro q f m ⟨i,j,g,rfl,hij,hg,rfl,rfl⟩
  refine ⟨fun h3=>?_,fun h3=>?_⟩
  ·have h3:i < j:=by have:=af h3;omega
   have gi:=rb g (show i < 310 by omega)
   have gj:=rb g (show j < 310 by omega)
   refine ⟨by omega,by omega,_,gj,by omega,by omega,_,gi,by omega,by omega,by show i < 310;omega,rfl,_,IK (i:=i) (x:=(i:Int)) rfl rfl,by omega,by omega,by show j < 310;omega,rfl,_,IK (i:=j) (x:=(j:Int)) rfl rfl,by kernel_rfl,?_⟩
   refine ⟨l.length - (i+1),_,_,by omega,⟨i+1,j - 1,_,rfl,by omega,fun k hk=>?_,rfl,rfl⟩,⟨rfl,ar (by rw [i64_in (by omega)];omega),ar (by rw [i64_in (by omega)];omega),trivial⟩,⟨rfl,trivial⟩,rfl⟩
   have hi:=hg i (by omega)
   have hj:=hg j (by omega)
   rw [if_neg (by omega)] at hi hj
   have hk2:=hg k hk
   by_cases e1:k=j
   ·subst e1
    rw [if_pos rfl,hi,if_pos (by omega),show l.length - 1 - k=i by omega]
   ·rw [if_neg e1]
    by_cases e2:k=i
    ·subst e2
     rw [if_pos rfl,hj,if_pos (by omega),show l.length - 1 - k=j by omega]
    ·rw [if_neg e2,hk2]
     by_cases e3:k < i\/j < k
     ·rw [if_pos e3,if_pos (by omega)]
     ·rw [if_neg e3,if_neg (by omega)]
  ·have h3:¬ i < j:=by have:=ag h3;omega
   refine ⟨rfl,rfl,Nn z,⟨?_,fun k hk=>?_⟩,rfl,trivial⟩
   ·show (ub z).toArray.size=_
    rw [<- hr];simp
   ·have hk':=hg k hk
    rw [Nat.zero_add,rb g (by omega),hk']
    have e:((Nn z).data.getD k 0)=(l.getD (l.length - 1 - k) 0):=by
     show ((ub z).toArray.getD k 0)=_
     rw [<- hr,Array.getD_eq_getD_getElem?,List.getElem?_toArray,List.getElem?_reverse hk,List.getD_eq_getElem?_getD]
    rw [e]
    by_cases e3:k < i\/j < k
    ·rw [if_pos e3]
    ·rw [if_neg e3,show l.length - 1 - k=k by omega]
end Go.Proofs.YtklehfchdoikeaaGreatDoor
