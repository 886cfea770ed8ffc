/- walks: quotients of whole numbers, the greatest common divisor, small numbers. walks: equality of rows. walks: pairs of numbers. walks: sums and products of pairs. walks: rounding; no condition. -/
import Derived.Test.YtofllflnmmjijaaGreatDoorP14
set_option maxRecDepth 100000
set_option maxHeartbeats 4000000
namespace Go.Proofs.YtofllflnmmjijaaGreatDoor
open Go Go.RowKit Go.SX
theorem dm_pos (x:Int) (b:Nat) (hb:0 < b):if x < 0∧x.natAbs % b≠0 then x / (b:Int)=-((x.natAbs / b+1:Nat):Int)∧x % (b:Int)=((b - x.natAbs % b:Nat):Int) else x / (b:Int)=zN (decide (x < 0)) (x.natAbs / b)∧x % (b:Int)=((x.natAbs % b:Nat):Int):=by
 have h1:=Nat.div_add_mod x.natAbs b
 have h2:=Nat.mod_lt x.natAbs hb
 have h1':(b:Int)*((x.natAbs / b:Nat):Int)+((x.natAbs % b:Nat):Int)=(x.natAbs:Int):=by rw [← Int.natCast_mul,← Int.natCast_add,h1]
 generalize x.natAbs / b=q at *
 generalize x.natAbs % b=r at *
 have hbp:(0:Int) < b:=by omega
 split
 ·rename_i h
  refine (Int.ediv_emod_unique hbp).2 ⟨?_,by omega,by omega⟩
  rw [Int.mul_neg]
  have:(b:Int)*((q+1:Nat):Int)=b*(q:Int)+b:=by rw [Int.natCast_add,Int.mul_add];simp
  rw [this];omega
 ·rename_i h
  refine (Int.ediv_emod_unique hbp).2 ⟨?_,by omega,by omega⟩
  unfold zN
  by_cases hx:x < 0
  ·have hr:r=0:=by omega
   rw [if_pos (by simpa using hx),Int.mul_neg];omega
  ·rw [if_neg (by simpa using hx)];omega
theorem dm_all (x y:Int) (hy:y≠0):if x < 0∧x.natAbs % y.natAbs≠0 then x / y=zN (decide (x < 0) != decide (y < 0)) (x.natAbs / y.natAbs+1)∧x % y=((y.natAbs - x.natAbs % y.natAbs:Nat):Int) else x / y=zN (decide (x < 0) != decide (y < 0)) (x.natAbs / y.natAbs)∧x % y=((x.natAbs % y.natAbs:Nat):Int):=by
 have h:=dm_pos x y.natAbs (by omega)
 rcases Int.lt_or_le y 0 with hn | hp
 ·have e:y=-((y.natAbs:Nat):Int):=by omega
  have ed:x / y=-(x / ((y.natAbs:Nat):Int)):=by conv=>lhs;rw [e,Int.ediv_neg]
  have em:x % y=x % ((y.natAbs:Nat):Int):=by conv=>lhs;rw [e,Int.emod_neg]
  rw [ed,em]
  simp only [hn,decide_true]
  split at h
  ·rename_i hc
   rw [if_pos hc,h.1]
   refine ⟨?_,h.2⟩
   simp [zN,hc.1]
  ·rename_i hc
   rw [if_neg hc,h.1]
   refine ⟨?_,h.2⟩
   cases hd:decide (x < 0)<;>simp [zN]
 ·have e:((y.natAbs:Nat):Int)=y:=by omega
  rw [e] at h
  have hn:¬ y < 0:=by omega
  simp only [hn,decide_false]
  split at h
  ·rename_i hc
   rw [if_pos hc,h.1]
   refine ⟨?_,h.2⟩
   simp [zN,hc.1]
  ·rename_i hc
   rw [if_neg hc,h.1]
   refine ⟨?_,h.2⟩
   cases hd:decide (x < 0)<;>simp [zN]
theorem fill_one:Instr.fill (fun k=>some (k*1,1)) (Array.replicate 32 (Value.int .u32 0)) [(0,.int .u32 1)]=some (mA 1):=by
 have:=fill_lo (N:=1) (by omega) (a:=1) (b:=0) rfl rfl
 exact this
theorem divmod_z {A B:Array Value} {x y:Int} (hA:IsI A x) (hB:IsI B y) (hy:y≠0):Pure Tryz.prog 146 [SV.c (.agg A),SV.c (.agg B)] (.tuple #[.agg (eA (x / y)),.agg (eA (x % y)),.int .i64 0]):=by
 refine sx_pureC [9] tt_ok mixed at146 _ _ rfl rfl fun w=>?_
 have hx:=hA.lt
 have hyl:=hB.lt
 have hb0:0 < y.natAbs:=by omega
 have hall:=dm_all x y hy
 refine ⟨hA.size,hB.size,.inl ⟨_,split_z hA,mA_fits _,.inl ⟨_,split_z hB,mA_fits _,mA 0,some_eq mA_zero,_,eql_mag rfl hyl zero_lt,fun h=>?_,fun h=>?_⟩⟩⟩
 ·exfalso
  have:=of_decide_eq_true h
  omega
 have hql:x.natAbs / y.natAbs < BB ^ 32:=Nat.lt_of_le_of_lt (Nat.div_le_self _ _) hx
 have hrl:x.natAbs % y.natAbs < y.natAbs:=Nat.mod_lt _ hb0
 have hrb:x.natAbs % y.natAbs < BB ^ 32:=Nat.lt_trans hrl hyl
 refine .inr ⟨_,_,_,divide_own hx hyl hb0 _ rfl _ _ (by decide),⟨rfl,rfl,trivial⟩,rfl,mA_fits _,mA_fits _,?_⟩
 refine ⟨fun f mm=>∃ q r:Nat,q < BB ^ 32∧r < BB ^ 32∧x / y=zN (decide (x < 0) != decide (y < 0)) q∧x % y=r∧f=[(4,SV.ptr 4 0),(5,SV.ptr 5 0),(7,SV.c (.bool (decide (x < 0)))),(9,SV.c (.bool (decide (y < 0)))),(11,SV.ptr 11 0),(12,SV.ptr 12 0)]∧mm=[(4,Blk.row 31 33 ti31.zero),(5,Blk.row 31 33 ti31.zero),(11,Blk.row 149 32 (mA q)),(12,Blk.row 149 32 (mA r))],⟨fun h1=>⟨mA 0,some_eq mA_zero,_,neq_mag rfl hrb zero_lt,fun h2=>?_,fun h2=>?_⟩,fun h1=>⟨nofun,fun _=>?_⟩⟩,?_⟩
 ·have h1:=of_decide_eq_true h1
  have h2:x.natAbs % y.natAbs≠0:=by simpa using h2
  rw [if_pos ⟨h1,h2⟩] at hall
  have hql2:x.natAbs / y.natAbs+1 < BB ^ 32:=by
   have hb2:2≤y.natAbs:=by
    rcases Nat.lt_or_ge y.natAbs 2 with h | h
    ·have:y.natAbs=1:=by omega
     rw [this,Nat.mod_one] at h2;exact absurd rfl h2
    ·exact h
   have h3:x.natAbs / y.natAbs≤x.natAbs / 2:=Nat.div_le_div_left hb2 (by omega)
   have h4:4≤BB ^ 32:=Nat.le_trans (by omega) two64
   omega
  refine ⟨mA 1,fill_one,mA_size _,.inr ⟨_,_,_,plus_own hql (Nat.lt_of_lt_of_le (by omega:1 < 18446744073709551616) two64) _ rfl _ _ (by decide),⟨rfl,rfl,trivial⟩,rfl,mA_fits _,.inr ⟨_,_,_,minus_own hyl (Nat.le_of_lt hrl) _ rfl _ _ (by decide),⟨rfl,rfl,trivial⟩,rfl,mA_fits _,_,_,⟨x.natAbs / y.natAbs+1,_,hql2,Nat.lt_of_le_of_lt (Nat.sub_le _ _) hyl,hall.1,hall.2,rfl,rfl⟩,⟨rfl,rfl,rfl,rfl,rfl,rfl,trivial⟩,⟨rfl,rfl,row_eq (by rw [Nat.mod_eq_of_lt hql2]),rfl,trivial⟩,rfl⟩⟩⟩
 ·have h2:x.natAbs % y.natAbs=0:=by simpa using h2
  rw [if_neg (fun h=>h.2 h2)] at hall
  exact ⟨_,_,⟨_,_,hql,hrb,hall.1,hall.2,rfl,rfl⟩,⟨rfl,rfl,rfl,rfl,rfl,rfl,trivial⟩,⟨rfl,rfl,rfl,rfl,trivial⟩,rfl⟩
 ·have h1:=of_decide_eq_false h1
  rw [if_neg (fun h=>h1 h.1)] at hall
  exact ⟨_,_,⟨_,_,hql,hrb,hall.1,hall.2,rfl,rfl⟩,⟨rfl,rfl,rfl,rfl,rfl,rfl,trivial⟩,⟨rfl,rfl,rfl,rfl,trivial⟩,rfl⟩
 ·rintro f mm ⟨q,r,hq,hr,e1,e2,rfl,rfl⟩
  have m1:=made_z (decide (x < 0) != decide (y < 0)) q hq
  have m2:=made_z false r hr
  rw [← e1] at m1
  rw [show zN false r=x % y from e2.symm] at m2
  exact .inl ⟨_,m1,.inl ⟨_,m2,eA_fits _,eA_fits _,by kernel_rfl,rfl,trivial⟩⟩
theorem gcd_z {A B:Array Value} {x y:Int} (hA:IsI A x) (hB:IsI B y):Pure Tryz.prog 93 [SV.c (.agg A),SV.c (.agg B)] (.agg (eA ((Int.gcd x y:Nat):Int))):=by
 refine sx_pure tt_ok mixed at93 _ _ rfl rfl fun w=>?_
 refine ⟨hA.size,hB.size,.inl ⟨_,split_z hA,mA_fits _,.inl ⟨_,split_z hB,mA_fits _,?_⟩⟩⟩
 refine ⟨fun q f mm=>∃ a:Nat,a < BB ^ 32∧q < BB ^ 32∧Nat.gcd a q=Int.gcd x y∧f=[(4,SV.ptr 4 0),(6,SV.ptr 6 0),(8,SV.ptr 8 0)]∧mm=[(4,Blk.row 31 33 ti31.zero),(6,Blk.row 149 32 (mA a)),(8,Blk.row 149 32 (mA q))],_,⟨_,_,⟨_,hA.lt,hB.lt,rfl,rfl,rfl⟩,⟨rfl,rfl,rfl,trivial⟩,⟨rfl,rfl,rfl,trivial⟩,rfl⟩,?_⟩
 rintro q f mm ⟨a,ha,hq,hg,rfl,rfl⟩
 refine ⟨mA 0,some_eq mA_zero,_,neq_mag rfl hq zero_lt,fun h=>?_,fun h=>?_⟩
 ·have hq0:0 < q:=by
    have:q≠0:=by simpa using h
    omega
  have hr:=Nat.mod_lt a hq0
  exact .inr ⟨_,_,_,divide_own ha hq hq0 _ rfl _ _ (by decide),⟨rfl,rfl,trivial⟩,rfl,mA_fits _,mA_fits _,mA_fits _,mA_fits _,by kernel_rfl,a % q,_,_,hr,⟨_,hq,Nat.lt_trans hr hq,by rw [← hg,Nat.gcd_comm a q,Nat.gcd_rec q a,Nat.gcd_comm],rfl,rfl⟩,⟨rfl,rfl,rfl,trivial⟩,⟨rfl,rfl,rfl,trivial⟩,rfl⟩
 ·have hq0:q=0:=by simpa using h
  subst hq0
  have m1:=made_z false a ha
  rw [Nat.gcd_zero_right] at hg
  rw [show zN false a=((Int.gcd x y:Nat):Int) by rw [← hg];rfl] at m1
  exact .inl ⟨_,m1,eA_fits _,rfl,trivial⟩
def toIntR (z:Int):Value:=if -9223372036854775808≤z∧z≤9223372036854775807 then .tuple #[.int .i64 z,.bool true] else .tuple #[.int .i64 0,.bool false]
theorem toInt_z {A:Array Value} {z:Int} (hA:IsI A z):Pure Tryz.prog 99 [SV.c (.agg A)] (toIntR z):=by
 refine sx_pure tt_ok mixed at99 _ _ rfl rfl fun w=>?_
 obtain ⟨hb1,hb2⟩:=bl_bits z.natAbs
 refine ⟨hA.size,.inl ⟨_,split_z hA,mA_fits _,.inr ⟨_,_,_,bits_own hA.lt _ rfl _,⟨rfl,trivial⟩,rfl,fun h=>?_,fun h=>?_⟩⟩⟩
 ·have h:64 < bl z.natAbs:=by have:=of_decide_eq_true h;omega
  have h5:=hb2 (by omega)
  have h6:2 ^ 64≤2 ^ (bl z.natAbs - 1):=Nat.pow_le_pow_right (by omega) (by omega)
  exact ⟨by rw [toIntR,if_neg (by omega)];rfl,trivial⟩
 have h:bl z.natAbs≤64:=by have:=of_decide_eq_false h;omega
 have hz:z.natAbs < 18446744073709551616:=by
  have h6:2 ^ bl z.natAbs≤2 ^ 64:=Nat.pow_le_pow_right (by omega) h
  omega
 have eu:=hilo (dg_lt z.natAbs 1) (dg_lt z.natAbs 0) rfl rfl
 have ed:dg z.natAbs 1*BB+dg z.natAbs 0=z.natAbs:=by
  simp only [dg,BB_eq,Nat.pow_one,Nat.pow_zero,Nat.div_one];omega
 rw [ed] at eu
 have g1:(mA z.natAbs)[1]? = some (.int .u32 (dg z.natAbs 1:Nat)):=mA_get (by omega)
 have g0:(mA z.natAbs)[0]? = some (.int .u32 (dg z.natAbs 0:Nat)):=mA_get (by omega)
 refine ⟨by decide,by decide,_,g1,by decide,by decide,by decide,_,g0,fun h1=>⟨fun h2=>?_,fun h2=>?_⟩,fun h1=>⟨nofun,fun _=>?_⟩⟩
 ·rw [eu] at h2
  have h1:=of_decide_eq_true h1
  have h2:=of_decide_eq_true h2
  refine ⟨?_,trivial⟩
  rw [toIntR,if_pos (by omega)]
  refine tup2 (iv ?_) rfl
  rw [eu,u64_wrap,IntKind.wrap_i64]
  omega
 ·rw [eu] at h2
  have h1:=of_decide_eq_true h1
  have h2:=of_decide_eq_false h2
  refine ⟨fun h3=>?_,fun h3=>⟨nofun,fun _=>⟨?_,trivial⟩⟩⟩
  ·exfalso
   simp [h1] at h3
  ·rw [toIntR,if_neg (by omega)];rfl
 ·have h1:=of_decide_eq_false h1
  refine ⟨fun h3=>⟨fun h2=>?_,fun h2=>?_⟩,fun h3=>?_⟩
  ·rw [eu] at h2
   have h2:=of_decide_eq_true h2
   refine ⟨?_,trivial⟩
   rw [toIntR,if_pos (by omega)]
   refine tup2 (iv ?_) rfl
   rw [eu,IntKind.wrap_i64]
   omega
  ·rw [eu] at h2
   have h2:=of_decide_eq_false h2
   exact ⟨by rw [toIntR,if_neg (by omega)];rfl,trivial⟩
  ·exfalso
   simp [h1] at h3
theorem part_agg {P:Program} {e:TypeId} {i:TI} (h:TIok P e i) (hr:i.row=true) (xs:Array Value) (off:Nat) (w:World):(part e xs off).run P w=.ok (.agg (xs.extract off (off+i.size))) w:=by
 simp [part,run_isAgg h,run_sizeOf h,hr]
theorem part_cell {P:Program} {e:TypeId} {i:TI} (h:TIok P e i) (hr:i.row=false) {xs:Array Value} {off:Nat} {v:Value} (hx:xs[off]? = some v) (w:World):(part e xs off).run P w=.ok v w:=by
 simp [part,run_isAgg h,hr,hx]
theorem eqF_cons {P:Program} {d:Nat} {xs ys:Array Value} {f:Field} {fs:List Field} {a b:Value} {r s:Bool} {w:World} (hn:f.name ≠ "_") (ha:(part f.type xs f.offset).run P w=.ok a w) (hb:(part f.type ys f.offset).run P w=.ok b w) (hr:(Op.equalIn d f.type a b).run P w=.ok r w) (hs:r=true→(Op.eqFields d xs ys fs).run P w=.ok s w) :
    (Op.eqFields d xs ys (f :: fs)).run P w=.ok (r && s) w:=by
 simp only [Op.eqFields,if_pos hn,Sem.run_bind,ha,hb,hr,Result.andThen_ok]
 cases r
 ·simp
 ·simpa using hs rfl
theorem eqF_nil {P:Program} {d:Nat} {xs ys:Array Value} {w:World}:(Op.eqFields d xs ys []).run P w=.ok true w:=rfl
theorem eq_int_raw {d:Nat} {a b:Bool} {N M:Nat} (hN:N < BB ^ 32) (hM:M < BB ^ 32) (w:World):(Op.equalIn (d+1+1+1) 31 (.agg (iA a N)) (.agg (iA b M))).run Tryz.prog w=.ok (a == b && (decide (N=M) && true)) w:=by
 rw [run_equalIn_struct w (d+1+1) 31 _ _ (by simp only [Program.fieldsOf,Tryz.underlying31]) (by kernel_rfl)]
 rw [show (Tryz.prog.fieldsOf 31).toList=[⟨ "Neg",4,0,false,"","",0⟩,⟨ "Mag",29,1,false,"","",4⟩] from by simp only [Program.fieldsOf,Tryz.underlying31]]
 refine eqF_cons (by decide) (part_cell tok4 rfl iA_neg w) (part_cell tok4 rfl iA_neg w) (run_equalIn_bool' w _ 4 a b Tryz.underlying4) fun _=>?_
 refine eqF_cons (by decide) (part_agg tok29 rfl _ _ w) (part_agg tok29 rfl _ _ w) ?_ fun _=>eqF_nil
 rw [show (1:Nat)+ti29.size=33 from rfl,iA_mag,iA_mag]
 exact eq_mag hN hM 29 Tryz.underlying29 w
theorem eA_inj {x y:Int}:(decide (x < 0) == decide (y < 0) && (decide (x.natAbs=y.natAbs) && true))=decide (x=y):=by
 rw [Bool.eq_iff_iff]
 simp only [Bool.and_eq_true,beq_iff_eq,decide_eq_true_eq,and_true,decide_eq_decide]
 omega
theorem eq_int {d:Nat} {x y:Int} (hx:x.natAbs < BB ^ 32) (hy:y.natAbs < BB ^ 32) (w:World):(Op.equalIn (d+1+1+1) 31 (.agg (eA x)) (.agg (eA y))).run Tryz.prog w=.ok (decide (x=y)) w:=by
 rw [← eA_inj];exact eq_int_raw hx hy w
theorem guard_int:Tryz.prog.eqGuardType Tryz.prog.depth 31=false:=by kernel_rfl
theorem eql_int {E:Env} (hE:E.P=Tryz.prog) {x y:Int} (hx:x.natAbs < BB ^ 32) (hy:y.natAbs < BB ^ 32) {u v:Operand}:Runs E (do eqGuard .eql 31 u v (.agg (eA x)) (.agg (eA y));binOp .eql 31 (.agg (eA x)) (.agg (eA y))) (.bool (decide (x=y))) :=
 runs_eql (by rw [hE];exact guard_int) fun w=>by rw [hE];exact eq_int hx hy w
theorem bnt {b:Bool} (h:(!b)=true):b=false:=by simpa using h
theorem of_bnf {b:Bool} (h:(!b)=false):b=true:=by simpa using h
theorem bnf {b:Bool} (h:(!b)=!true):b=true:=by simpa using h
theorem cat_size {A B:Array Value} (hA:A.size=33) (hB:B.size=33):(A++B).size=66:=by simp [hA,hB]
theorem cat_l {A B:Array Value} (hA:A.size=33):(A++B).extract 0 (0+33)=A:=by
 rw [Array.extract_append]
 simp [hA]
theorem cat_r {A B:Array Value} (hA:A.size=33) (hB:B.size=33):(A++B).extract 33 (33+33)=B:=by
 rw [Array.extract_append,hA,Array.extract_eq_empty_of_le (by omega),Array.empty_append]
 have:B.extract 0 B.size=B:=Array.extract_size
 rw [hB] at this
 exact this
theorem cat_fits {A B:Array Value} (hA:Fits A 33) (hB:Fits B 33):Fits (A++B) 66:=⟨cat_size hA.size hB.size,by rw [Array.all_append,hA.one,hB.one];rfl⟩
structure RQ where
 a:Bool
 N:Nat
 b:Bool
 D:Nat
def RQ.A (r:RQ):Array Value:=iA r.a r.N++iA r.b r.D
def RQ.p (r:RQ):Int:=zN r.a r.N
def RQ.q (r:RQ):Int:=zN r.b r.D
structure RQ.In (r:RQ):Prop where
 N:r.N < BB ^ 32
 D:r.D < BB ^ 32
def RQ.of (p q:Int):RQ:=⟨decide (p < 0),p.natAbs,decide (q < 0),q.natAbs⟩
theorem zN_self (z:Int):zN (decide (z < 0)) z.natAbs=z:=by
 unfold zN
 by_cases e:z < 0
 ·simp [e];omega
 ·simp [e];omega
theorem RQ.of_p (p q:Int):(RQ.of p q).p=p:=zN_self p
theorem RQ.of_q (p q:Int):(RQ.of p q).q=q:=zN_self q
theorem RQ.A_fits (r:RQ):Fits r.A 66:=cat_fits (iA_fits _ _) (iA_fits _ _)
theorem RQ.A_size (r:RQ):r.A.size=66:=r.A_fits.size
theorem RQ.In.num {r:RQ} (h:r.In):IsI (iA r.a r.N) r.p:=⟨_,_,h.N,rfl,rfl⟩
theorem RQ.In.den {r:RQ} (h:r.In):IsI (iA r.b r.D) r.q:=⟨_,_,h.D,rfl,rfl⟩
theorem RQ.cat_l (r:RQ):r.A.extract 0 (0+33)=iA r.a r.N:=YtofllflnmmjijaaGreatDoor.cat_l (iA_size _ _)
theorem RQ.cat_r (r:RQ):r.A.extract 33 (33+33)=iA r.b r.D:=YtofllflnmmjijaaGreatDoor.cat_r (iA_size _ _) (iA_size _ _)
def RQ.ok (r:RQ):Bool:=decide (bl r.N≤480∧bl r.D≤480∧(r.a=true→r.N≠0)∧r.b=false∧0 < r.D∧Nat.gcd r.N r.D=1)
theorem canon_raw (a:Bool) {N:Nat} (hN:N < BB ^ 32):Pure Tryz.prog 91 [SV.c (.agg (iA a N))] (.bool (decide (a=true→N≠0))):=by
 refine sx_pure tt_ok mixed at91 _ _ rfl rfl fun w=>?_
 refine ⟨iA_size _ _,_,iA_neg,fun h=>?_,fun h=>?_⟩
 ·have h:a=true:=by simpa using h
  subst h
  refine .inl ⟨_,sign_z ⟨_,_,hN,rfl,rfl⟩,bv ?_,trivial⟩
  rw [Bool.eq_iff_iff]
  simp only [decide_eq_true_eq,sgn,zN]
  by_cases h:N=0
  ·subst h;simp
  ·simp [h];omega
 ·have h:a=false:=by simpa using h
  subst h
  exact ⟨bv (by simp),trivial⟩
theorem fits_raw {r:RQ} (h:r.In):Pure Tryz.prog 90 [SV.c (.agg r.A)] (.bool (decide (bl r.N≤480∧bl r.D≤480))):=by
 refine sx_pure tt_ok mixed at90 _ _ rfl rfl fun w=>?_
 have h1:=bitsI_z h.num
 have h2:=bitsI_z h.den
 rw [RQ.p,zN_abs] at h1
 rw [RQ.q,zN_abs] at h2
 refine ⟨r.A_size,by decide,_,r.cat_l,.inl ⟨_,h1,fun h3=>⟨by decide,_,r.cat_r,.inl ⟨_,h2,?_⟩⟩,fun h3=>?_⟩⟩
 ·have h3:=of_decide_eq_true h3
  refine ⟨bv ?_,trivial⟩
  rw [Bool.eq_iff_iff]
  simp only [decide_eq_true_eq]
  omega
 ·have h3:=of_decide_eq_false h3
  exact ⟨bv (decide_eq_false (by omega)).symm,trivial⟩
theorem gcd_zN (a:Bool) (N:Nat) (b:Bool) (D:Nat):Int.gcd (zN a N) (zN b D)=Nat.gcd N D:=by
 unfold Int.gcd
 rw [zN_abs,zN_abs]
theorem valid_raw {r:RQ} (h:r.In):Pure Tryz.prog 41 [SV.c (.agg r.A)] (.bool r.ok):=by
 refine sx_pure tt_ok mixed at41 _ _ rfl rfl fun w=>?_
 have one:Pure Tryz.prog 44 [SV.c (.int .i64 1)] (.agg (eA 1)):=fromInt_z 1 (by omega) (by omega)
 have hg:((Int.gcd r.p r.q:Nat):Int).natAbs < BB ^ 32:=by
  rw [RQ.p,RQ.q,gcd_zN,Int.natAbs_natCast]
  rcases Nat.eq_zero_or_pos r.N with e | e
  ·rw [e,Nat.gcd_zero_left];exact h.D
  ·exact Nat.lt_of_le_of_lt (Nat.gcd_le_left _ e) h.N
 have h1l:(1:Int).natAbs < BB ^ 32:=Nat.lt_of_lt_of_le (by decide:1 < 18446744073709551616) two64
 refine ⟨r.A_size,.inl ⟨_,fits_raw h,fun h1=>⟨by decide,_,r.cat_l,.inl ⟨_,canon_raw _ h.N,fun h2=>⟨by decide,_,r.cat_r,.inl ⟨_,canon_raw _ h.D,fun h3=>⟨by decide,_,r.cat_r,.inl ⟨_,sign_z h.den,fun h4=>⟨by decide,_,r.cat_l,by decide,_,r.cat_r,.inl ⟨_,gcd_z h.num h.den,.inl ⟨_,one,_,eql_int rfl hg h1l,bv ?_,trivial⟩⟩⟩,?_⟩⟩,?_⟩⟩,?_⟩⟩,fun h1=>?_⟩⟩
 ·have h1:=of_decide_eq_true h1
  have h2:=of_decide_eq_true h2
  have h3:=of_decide_eq_true h3
  have h4:=of_decide_eq_true h4
  rw [Bool.eq_iff_iff]
  simp only [decide_eq_true_eq,RQ.ok]
  rw [RQ.p,RQ.q,gcd_zN]
  have hb:r.b=false∧0 < r.D:=by
   unfold sgn at h4
   rw [RQ.q] at h4
   cases hb:r.b
   ·rw [hb] at h4;simp only [zN,Bool.false_eq_true,if_false] at h4
    refine ⟨rfl,?_⟩
    rcases Nat.eq_zero_or_pos r.D with e | e
    ·rw [e] at h4;simp at h4
    ·exact e
   ·rw [hb] at h4;simp only [zN,if_true] at h4
    exfalso
    split at h4
    ·omega
    ·split at h4<;>omega
  constructor
  ·intro h;exact ⟨h1.1,h1.2,h2,hb.1,hb.2,by omega⟩
  ·intro h;have:=h.2.2.2.2.2;omega
 ·intro h4
  have h4:=of_decide_eq_false h4
  refine ⟨bv (decide_eq_false fun hh=>h4 ?_).symm,trivial⟩
  rw [RQ.q,hh.2.2.2.1]
  unfold sgn zN
  simp
  have:=hh.2.2.2.2.1
  omega
 ·intro h3
  have h3:=of_decide_eq_false h3
  repeat refine ⟨nofun,fun _=>?_⟩
  refine ⟨bv (decide_eq_false fun hh=>h3 fun hb=>?_).symm,trivial⟩
  rw [hh.2.2.2.1] at hb;cases hb
 ·intro h2
  have h2:=of_decide_eq_false h2
  repeat refine ⟨nofun,fun _=>?_⟩
  exact ⟨bv (decide_eq_false fun hh=>h2 hh.2.2.1).symm,trivial⟩
 ·have h1:=of_decide_eq_false h1
  repeat refine ⟨nofun,fun _=>?_⟩
  exact ⟨bv (decide_eq_false fun hh=>h1 ⟨hh.1,hh.2.1⟩).symm,trivial⟩

theorem product_z {A B:Array Value} {x y:Int} (hA:IsI A x) (hB:IsI B y) (hl:(x*y).natAbs < BB ^ 32):Pure Tryz.prog 127 [SV.c (.agg A),SV.c (.agg B)] (.agg (eA (x*y))):=by
 refine sx_pure tt_ok mixed at127 _ _ rfl rfl fun w=>?_
 have h:=mul_z hA hB
 rw [fitR,if_pos hl] at h
 exact ⟨hA.size,hB.size,.inl ⟨_,h,eA_fits _,eA_fits _,rfl,trivial⟩⟩
theorem whole_z {A B:Array Value} {x y:Int} (hA:IsI A x) (hB:IsI B y) (hy:y≠0):Pure Tryz.prog 95 [SV.c (.agg A),SV.c (.agg B)] (.agg (eA (x / y))):=by
 refine sx_pure tt_ok mixed at95 _ _ rfl rfl fun w=>?_
 exact ⟨hA.size,hB.size,.inl ⟨_,divmod_z hA hB hy,eA_fits _,eA_fits _,eA_fits _,rfl,trivial⟩⟩
def mkQ (x y:Int):RQ×Int :=
 if y=0 then (.of 0 0,11) else
 if bl (x / (sgn y*Int.gcd x y)).natAbs≤480∧bl (y / (sgn y*Int.gcd x y)).natAbs≤480 then (.of (x / (sgn y*Int.gcd x y)) (y / (sgn y*Int.gcd x y)),0) else (.of 0 0,10)
def resQ (x:RQ×Int):Value:=.tuple #[.agg x.1.A,.int .i64 x.2]
theorem fill_ratio {A B Z:Array Value} (hA:A.size=33) (hB:B.size=33) (hZ:Z.size=66) {pl:List (Nat×Nat)} (hpl:pl=[(0,33),(33,33)]):Instr.fill (fun k=>pl[k]?) Z [(0,.agg A),(1,.agg B)]=some (A++B):=by
 subst hpl
 have:=fill_all (pl:=fun k=>[(0,33),(33,33)][k]?) (vs:=[.agg A,.agg B]) (Z:=Z) ⟨by simp [Value.cells,hA],by simp [Value.cells,hA,hB],trivial⟩ (by simp [catV,Value.cells,hA,hB,hZ])
 rw [show catV [.agg A,.agg B]=A++B by simp [catV,Value.cells]] at this
 exact this
theorem sgn_zero {y:Int}:(sgn y == 0)=decide (y=0):=by
 rw [Bool.eq_iff_iff]
 simp only [beq_iff_eq,decide_eq_true_eq]
 unfold sgn
 split
 ·omega
 ·split<;>simp_all
theorem sgn_neg {y:Int}:decide (sgn y < 0)=decide (y < 0):=by
 rw [Bool.eq_iff_iff]
 simp only [decide_eq_true_eq]
 unfold sgn
 split
 ·omega
 ·split<;>omega
theorem gcd_le {x y:Int} (hy:y≠0):0 < Int.gcd x y∧Int.gcd x y≤y.natAbs:=⟨Int.gcd_pos_of_ne_zero_right _ hy,Nat.gcd_le_right _ (by omega)⟩
theorem make_z {A B:Array Value} {x y:Int} (hA:IsI A x) (hB:IsI B y):Pure Tryz.prog 42 [SV.c (.agg A),SV.c (.agg B)] (resQ (mkQ x y)):=by
 refine sx_pure tt_ok mixed at42 _ _ rfl rfl fun w=>?_
 refine ⟨hA.size,hB.size,.inl ⟨_,sign_z hB,fun h=>?_,fun h=>.inl ⟨_,gcd_z hA hB,eA_fits _,.inl ⟨_,sign_z hB,fun h2=>?_,fun h2=>?_⟩⟩⟩⟩
 ·rw [sgn_zero] at h
  have h:=of_decide_eq_true h
  refine ⟨ti33.zero,rfl,(RQ.of 0 0).A_fits,?_,trivial⟩
  rw [mkQ,if_pos h];rfl
 ·rw [sgn_zero] at h
  have h:=of_decide_eq_false h
  rw [sgn_neg] at h2
  have h2:=of_decide_eq_true h2
  obtain ⟨g1,g2⟩:=gcd_le (x:=x) h
  have gl:((Int.gcd x y:Nat):Int).natAbs < BB ^ 32:=by have:=hB.lt;omega
  have eg : -((Int.gcd x y:Nat):Int)=sgn y*Int.gcd x y:=by unfold sgn;rw [if_pos h2];omega
  have hn:=neg_z (isI_e gl)
  have gl2:(-((Int.gcd x y:Nat):Int)).natAbs < BB ^ 32:=by rw [Int.natAbs_neg];exact gl
  have gn : -((Int.gcd x y:Nat):Int)≠0:=by omega
  rw [mkQ,if_neg h,← eg]
  refine .inl ⟨_,hn,eA_fits _,?_⟩
  have w1:=whole_z hA (isI_e gl2) gn
  have w2:=whole_z hB (isI_e gl2) gn
  have hin:(RQ.of (x / -((Int.gcd x y:Nat):Int)) (y / -((Int.gcd x y:Nat):Int))).In:=⟨Nat.lt_of_le_of_lt (Int.natAbs_ediv_le_natAbs x _) hA.lt,Nat.lt_of_le_of_lt (Int.natAbs_ediv_le_natAbs y _) hB.lt⟩
  have hf:=fits_raw hin
  refine .inl ⟨_,w1,.inl ⟨_,w2,_,fill_ratio (eA_size _) (eA_size _) rfl rfl,(RQ.of (x / -((Int.gcd x y:Nat):Int)) (y / -((Int.gcd x y:Nat):Int))).A_fits,by kernel_rfl,.inl ⟨_,hf,fun h5=>?_,fun h5=>?_⟩⟩⟩
  ·have h5:decide (bl (x / -((Int.gcd x y:Nat):Int)).natAbs≤480∧bl (y / -((Int.gcd x y:Nat):Int)).natAbs≤480)=false:=bnt h5
   have h5:=of_decide_eq_false h5
   refine ⟨ti33.zero,rfl,(RQ.of 0 0).A_fits,?_,trivial⟩
   rw [if_neg h5];rfl
  ·have h5:decide (bl (x / -((Int.gcd x y:Nat):Int)).natAbs≤480∧bl (y / -((Int.gcd x y:Nat):Int)).natAbs≤480)=true:=bnf h5
   have h5:=of_decide_eq_true h5
   refine ⟨(RQ.of (x / -((Int.gcd x y:Nat):Int)) (y / -((Int.gcd x y:Nat):Int))).A_fits,?_,trivial⟩
   rw [if_pos h5];rfl
 ·rw [sgn_zero] at h
  have h:=of_decide_eq_false h
  rw [sgn_neg] at h2
  have h2:=of_decide_eq_false h2
  obtain ⟨g1,g2⟩:=gcd_le (x:=x) h
  have gl:((Int.gcd x y:Nat):Int).natAbs < BB ^ 32:=by have:=hB.lt;omega
  have eg:((Int.gcd x y:Nat):Int)=sgn y*Int.gcd x y:=by unfold sgn;rw [if_neg h2,if_neg h];omega
  have gn:((Int.gcd x y:Nat):Int)≠0:=by omega
  rw [mkQ,if_neg h,← eg]
  have w1:=whole_z hA (isI_e gl) gn
  have w2:=whole_z hB (isI_e gl) gn
  have hin:(RQ.of (x / ((Int.gcd x y:Nat):Int)) (y / ((Int.gcd x y:Nat):Int))).In:=⟨Nat.lt_of_le_of_lt (Int.natAbs_ediv_le_natAbs x _) hA.lt,Nat.lt_of_le_of_lt (Int.natAbs_ediv_le_natAbs y _) hB.lt⟩
  have hf:=fits_raw hin
  refine .inl ⟨_,w1,.inl ⟨_,w2,_,fill_ratio (eA_size _) (eA_size _) rfl rfl,(RQ.of (x / ((Int.gcd x y:Nat):Int)) (y / ((Int.gcd x y:Nat):Int))).A_fits,by kernel_rfl,.inl ⟨_,hf,fun h5=>?_,fun h5=>?_⟩⟩⟩
  ·have h5:decide (bl (x / ((Int.gcd x y:Nat):Int)).natAbs≤480∧bl (y / ((Int.gcd x y:Nat):Int)).natAbs≤480)=false:=bnt h5
   have h5:=of_decide_eq_false h5
   refine ⟨ti33.zero,rfl,(RQ.of 0 0).A_fits,?_,trivial⟩
   rw [if_neg h5];rfl
  ·have h5:decide (bl (x / ((Int.gcd x y:Nat):Int)).natAbs≤480∧bl (y / ((Int.gcd x y:Nat):Int)).natAbs≤480)=true:=bnf h5
   have h5:=of_decide_eq_true h5
   refine ⟨(RQ.of (x / ((Int.gcd x y:Nat):Int)) (y / ((Int.gcd x y:Nat):Int))).A_fits,?_,trivial⟩
   rw [if_pos h5];rfl

def e480:Nat:=480
def e960:Nat:=960
def e309:Nat:=309
def e1024:Nat:=1024
theorem hp480:2 ^ e480 < BB ^ 32:=by decide +kernel
theorem hp960:2 ^ e960 < BB ^ 32:=by decide +kernel
theorem hp961:2 ^ e960+2 ^ e960 < BB ^ 32:=by decide +kernel
theorem mkQ_in (x y:Int):(mkQ x y).1.In:=by
 have hp:2 ^ e480 < BB ^ 32:=hp480
 have key:∀ z:Int,bl z.natAbs≤480→z.natAbs < BB ^ 32:=fun z h=>Nat.lt_trans (Nat.lt_of_lt_of_le (bl_bits _).1 (Nat.pow_le_pow_right (j:=e480) (by omega) h)) hp
 have hz:(RQ.of 0 0).In:=⟨zero_lt,zero_lt⟩
 unfold mkQ
 split
 ·exact hz
 ·split
  ·rename_i h;exact ⟨key _ h.1,key _ h.2⟩
  ·exact hz
theorem i64_lt {n:Int} (h1 : -9223372036854775808≤n) (h2:n≤9223372036854775807):n.natAbs < BB ^ 32:=Nat.lt_of_lt_of_le (by omega:n.natAbs < 18446744073709551616) two64
theorem of_z {n d:Int} (h1 : -9223372036854775808≤n) (h2:n≤9223372036854775807) (h3 : -9223372036854775808≤d) (h4:d≤9223372036854775807):Pure Tryz.prog 325 [SV.c (.int .i64 n),SV.c (.int .i64 d)] (resQ (mkQ n d)):=by
 refine sx_pure tt_ok mixed at325 _ _ rfl rfl fun w=>?_
 refine .inl ⟨_,fromInt_z n h1 h2,.inl ⟨_,fromInt_z d h3 h4,.inl ⟨_,make_z (isI_e (i64_lt h1 h2)) (isI_e (i64_lt h3 h4)),RQ.A_fits _,rfl,trivial⟩⟩⟩
theorem whole1_z {n:Int} (h1 : -9223372036854775808≤n) (h2:n≤9223372036854775807):Pure Tryz.prog 52 [SV.c (.int .i64 n)] (.agg (RQ.of n 1).A):=by
 refine sx_pure tt_ok mixed at52 _ _ rfl rfl fun w=>?_
 refine .inl ⟨_,fromInt_z n h1 h2,.inl ⟨_,fromInt_z 1 (by omega) (by omega),_,fill_ratio (eA_size _) (eA_size _) rfl rfl,(RQ.of n 1).A_fits,rfl,trivial⟩⟩
theorem bits_mul {x y:Int} (hx:bl x.natAbs≤480) (hy:bl y.natAbs≤480):(x*y).natAbs < 2 ^ e960:=by
 have h1:x.natAbs < 2 ^ e480:=Nat.lt_of_lt_of_le (bl_bits _).1 (Nat.pow_le_pow_right (by omega) hx)
 have h2:y.natAbs < 2 ^ e480:=Nat.lt_of_lt_of_le (bl_bits _).1 (Nat.pow_le_pow_right (by omega) hy)
 rw [Int.natAbs_mul,show e960=e480+e480 from rfl,Nat.pow_add]
 exact Nat.mul_lt_mul'' h1 h2
theorem mul1_z {r s:RQ} (hr:r.In) (hs:s.In) (h1:(r.p*s.p).natAbs < BB ^ 32) (h2:(r.q*s.q).natAbs < BB ^ 32):Pure Tryz.prog 165 [SV.c (.agg r.A),SV.c (.agg s.A)] (.tuple #[.agg (eA (r.p*s.p)),.agg (eA (r.q*s.q))]):=by
 refine sx_pure tt_ok mixed at165 _ _ rfl rfl fun w=>?_
 refine ⟨r.A_size,s.A_size,by decide,_,r.cat_l,by decide,_,s.cat_l,.inl ⟨_,product_z hr.num hs.num h1,by decide,_,r.cat_r,by decide,_,s.cat_r,.inl ⟨_,product_z hr.den hs.den h2,eA_fits _,eA_fits _,by kernel_rfl,rfl,trivial⟩⟩⟩
theorem calc_z {r s:RQ} (hr:r.In) (hs:s.In) {g:FuncId} {x y:Int} (hg:r.ok=true→s.ok=true→Pure Tryz.prog g [SV.c (.agg r.A),SV.c (.agg s.A)] (.tuple #[.agg (eA x),.agg (eA y)])∧x.natAbs < BB ^ 32∧y.natAbs < BB ^ 32) :
    Pure Tryz.prog 164 [SV.c (.agg r.A),SV.c (.agg s.A),SV.c (.func (.func g) #[] #[])] (resQ (if r.ok && s.ok then mkQ x y else (.of 0 0,20))):=by
 refine sx_pure tt_ok mixed at164 _ _ rfl rfl fun w=>?_
 refine ⟨r.A_size,s.A_size,.inl ⟨_,valid_raw hr,fun h1=>.inl ⟨_,valid_raw hs,fun h2=>?_,fun h2=>?_⟩,fun h1=>?_⟩⟩
 ·have h2:=bnt h2
  refine ⟨ti33.zero,rfl,(RQ.of 0 0).A_fits,?_,trivial⟩
  rw [h2,Bool.and_false,if_neg Bool.false_ne_true];rfl
 ·have h1:=of_bnf h1
  have h2:=bnf h2
  obtain ⟨h3,h4,h5⟩:=hg h1 h2
  refine .inl ⟨_,h3,.inl ⟨_,make_z (isI_e h4) (isI_e h5),RQ.A_fits _,?_,trivial⟩⟩
  rw [h1,h2,Bool.and_true,if_pos rfl];rfl
 ·have h1:=bnt h1
  refine ⟨fun _=>⟨ti33.zero,rfl,(RQ.of 0 0).A_fits,?_,trivial⟩,nofun⟩
  rw [h1,Bool.false_and,if_neg Bool.false_ne_true];rfl
def mulQ (r s:RQ):RQ×Int:=if r.ok && s.ok then mkQ (r.p*s.p) (r.q*s.q) else (.of 0 0,20)
theorem RQ.ok_bits {r:RQ} (h:r.ok=true):bl r.p.natAbs≤480∧bl r.q.natAbs≤480∧0 < r.q∧Int.gcd r.p r.q=1∧r=.of r.p r.q:=by
 have h:=of_decide_eq_true h
 obtain ⟨h1,h2,h3,h4,h5,h6⟩:=h
 obtain ⟨a,N,b,D⟩:=r
 simp only [RQ.p,RQ.q,RQ.of] at *
 subst h4
 rw [zN_abs,zN_abs,gcd_zN]
 refine ⟨h1,h2,by simp [zN];omega,h6,?_⟩
 congr 1
 ·cases a
  ·simp [zN]
  ·simp [zN];have:=h3 rfl;omega
theorem mul_lt' {x y:Int} (hx:bl x.natAbs≤480) (hy:bl y.natAbs≤480):(x*y).natAbs < BB ^ 32:=Nat.lt_trans (bits_mul hx hy) hp960
theorem mulR_z {r s:RQ} (hr:r.In) (hs:s.In):Pure Tryz.prog 111 [SV.c (.agg r.A),SV.c (.agg s.A)] (resQ (mulQ r s)):=by
 refine sx_pure tt_ok mixed at111 _ _ rfl rfl fun w=>?_
 have h:=calc_z (g:=165) (x:=r.p*s.p) (y:=r.q*s.q) hr hs fun h1 h2=>by
  have k1:=RQ.ok_bits h1
  have k2:=RQ.ok_bits h2
  have m1:=mul_lt' k1.1 k2.1
  have m2:=mul_lt' k1.2.1 k2.2.1
  exact ⟨mul1_z hr hs m1 m2,m1,m2⟩
 exact ⟨r.A_size,s.A_size,.inl ⟨_,h,RQ.A_fits _,rfl,trivial⟩⟩
theorem combine_new (m:Bool) (E:Env) (hE:E.P=Tryz.prog) (d:Key):Own E 272 [SV.c (.bool m)] [] (SV.clo 284 [d]) [(d,Blk.row 4 1 #[.bool m])]:=by
 refine sx_new tt_ok mixed at272 E hE [SV.c (.bool m)] 2 284 d 1 4 1 #[.bool m] rfl rfl rfl fun w=>?_
 exact ⟨rfl,rfl,rfl⟩
def sg (m:Bool) (y:Int):Int:=if m then -y else y
theorem comb1_z {r s:RQ} (hr:r.In) (hs:s.In) (m:Bool) (h1:(r.p*s.q).natAbs < BB ^ 32) (h2:(s.p*r.q).natAbs < BB ^ 32) (h3:(r.q*s.q).natAbs < BB ^ 32) (h4:(r.p*s.q+sg m (s.p*r.q)).natAbs < BB ^ 32) (E:Env) (hE:E.P=Tryz.prog) (d:Key) :
    Own E 284 [SV.c (.agg r.A),SV.c (.agg s.A),SV.ptr d 0] [(d,Blk.row 4 1 #[.bool m])] (SV.c (.tuple #[.agg (eA (r.p*s.q+sg m (s.p*r.q))),.agg (eA (r.q*s.q))])) [(d,Blk.row 4 1 #[.bool m])]:=by
 refine sx_own1 tt_ok mixed at284 E hE d (4,1,#[.bool m],#[.bool m]) [SV.c (.agg r.A),SV.c (.agg s.A),SV.ptr 1000 0] _ rfl rfl fun w b hO=>?_
 refine ⟨r.A_size,s.A_size,by decide,_,s.cat_l,by decide,_,r.cat_r,.inl ⟨_,product_z hs.num hr.den h2,eA_fits _,_,rfl,fun hm=>?_,fun hm=>?_⟩⟩
 ·have hm:m=true:=hm
  subst hm
  have ha:=add_z (isI_e h1) (isI_e (z:=sg true (s.p*r.q)) (by show (-(s.p*r.q)).natAbs < _;rw [Int.natAbs_neg];exact h2))
  rw [fitR,if_pos h4] at ha
  have hn:Pure Tryz.prog 94 [SV.c (.agg (eA (s.p*r.q)))] (.agg (eA (sg true (s.p*r.q)))):=neg_z (isI_e h2)
  exact .inl ⟨_,hn,eA_fits _,by decide,_,r.cat_l,by decide,_,s.cat_r,.inl ⟨_,product_z hr.num hs.den h1,.inl ⟨_,ha,eA_fits _,by kernel_rfl,by decide,_,r.cat_r,by decide,_,s.cat_r,.inl ⟨_,product_z hr.den hs.den h3,eA_fits _,eA_fits _,by kernel_rfl,rfl,rfl,trivial⟩⟩⟩⟩
 ·have hm:m=false:=hm
  subst hm
  have ha:=add_z (isI_e h1) (isI_e (z:=sg false (s.p*r.q)) h2)
  rw [fitR,if_pos h4] at ha
  exact ⟨by decide,_,r.cat_l,by decide,_,s.cat_r,.inl ⟨_,product_z hr.num hs.den h1,.inl ⟨_,ha,eA_fits _,by kernel_rfl,by decide,_,r.cat_r,by decide,_,s.cat_r,.inl ⟨_,product_z hr.den hs.den h3,eA_fits _,eA_fits _,by kernel_rfl,rfl,rfl,trivial⟩⟩⟩⟩
theorem calcC_z {r s:RQ} (hr:r.In) (hs:s.In) {g:FuncId} {x y:Int} {ty:TypeId} {n0:Nat} {C:Array Value} (hg:∀ E:Env,E.P=Tryz.prog→∀ d,r.ok=true→s.ok=true→Own E g [SV.c (.agg r.A),SV.c (.agg s.A),SV.ptr d 0] [(d,Blk.row ty n0 C)] (SV.c (.tuple #[.agg (eA x),.agg (eA y)])) [(d,Blk.row ty n0 C)]) (hx:r.ok=true→s.ok=true→x.natAbs < BB ^ 32) (hy:r.ok=true→s.ok=true→y.natAbs < BB ^ 32) (E:Env) (hE:E.P=Tryz.prog) (d:Key) :
    Own E 164 [SV.c (.agg r.A),SV.c (.agg s.A),SV.clo g [d]] [(d,Blk.row ty n0 C)] (SV.c (resQ (if r.ok && s.ok then mkQ x y else (.of 0 0,20)))) [(d,Blk.row ty n0 C)]:=by
 have hd:[SV.c (.agg r.A),SV.c (.agg s.A),SV.clo g [d]]=[SV.c (.agg r.A),SV.c (.agg s.A),SV.clo g [1000]].map (renS [⟨1000,d,ty,n0,C,C⟩]):=rfl
 rw [hd]
 refine sx_own1 tt_ok mixed at164 E hE d (ty,n0,C,C) [SV.c (.agg r.A),SV.c (.agg s.A),SV.clo g [1000]] _ rfl rfl fun w b hO=>?_
 refine ⟨r.A_size,s.A_size,.inl ⟨_,valid_raw hr,fun h1=>.inl ⟨_,valid_raw hs,fun h2=>?_,fun h2=>?_⟩,fun h1=>?_⟩⟩
 ·have h2:=bnt h2
  refine ⟨ti33.zero,rfl,(RQ.of 0 0).A_fits,?_,rfl,trivial⟩
  rw [h2,Bool.and_false,if_neg Bool.false_ne_true];rfl
 ·have h1:=of_bnf h1
  have h2:=bnf h2
  have h4:=hx h1 h2
  have h5:=hy h1 h2
  refine .inr ⟨_,_,_,hg _ rfl _ h1 h2,⟨rfl,trivial⟩,rfl,.inl ⟨_,make_z (isI_e h4) (isI_e h5),RQ.A_fits _,?_,rfl,trivial⟩⟩
  rw [h1,h2,Bool.and_true,if_pos rfl];rfl
 ·have h1:=bnt h1
  refine ⟨fun _=>⟨ti33.zero,rfl,(RQ.of 0 0).A_fits,?_,rfl,trivial⟩,nofun⟩
  rw [h1,Bool.false_and,if_neg Bool.false_ne_true];rfl
def sumQ (m:Bool) (r s:RQ):RQ×Int:=if r.ok && s.ok then mkQ (r.p*s.q+sg m (s.p*r.q)) (r.q*s.q) else (.of 0 0,20)
theorem sum_lt {r s:RQ} (h1:r.ok=true) (h2:s.ok=true) (m:Bool):(r.p*s.q).natAbs < BB ^ 32∧(s.p*r.q).natAbs < BB ^ 32∧(r.q*s.q).natAbs < BB ^ 32∧(r.p*s.q+sg m (s.p*r.q)).natAbs < BB ^ 32:=by
 have k1:=RQ.ok_bits h1
 have k2:=RQ.ok_bits h2
 refine ⟨mul_lt' k1.1 k2.2.1,mul_lt' k2.1 k1.2.1,mul_lt' k1.2.1 k2.2.1,?_⟩
 have e1:=bits_mul k1.1 k2.2.1
 have e2:=bits_mul k2.1 k1.2.1
 have e3:(sg m (s.p*r.q)).natAbs=(s.p*r.q).natAbs:=by cases m<;>simp [sg]
 refine Nat.lt_trans ?_ hp961
 have:=Int.natAbs_add_le (r.p*s.q) (sg m (s.p*r.q))
 omega
theorem sumC_z {r s:RQ} (hr:r.In) (hs:s.In) (m:Bool) (E:Env) (hE:E.P=Tryz.prog) (d:Key) :
    Own E 164 [SV.c (.agg r.A),SV.c (.agg s.A),SV.clo 284 [d]] [(d,Blk.row 4 1 #[.bool m])] (SV.c (resQ (sumQ m r s))) [(d,Blk.row 4 1 #[.bool m])] :=
 calcC_z hr hs (fun E hE d h1 h2=>comb1_z hr hs m (sum_lt h1 h2 m).1 (sum_lt h1 h2 m).2.1 (sum_lt h1 h2 m).2.2.1 (sum_lt h1 h2 m).2.2.2 E hE d) (fun h1 h2=>(sum_lt h1 h2 m).2.2.2) (fun h1 h2=>(sum_lt h1 h2 m).2.2.1) E hE d
theorem sumQ_in (m:Bool) (r s:RQ):(sumQ m r s).1.In:=by
 unfold sumQ;split
 ·exact mkQ_in _ _
 ·exact ⟨zero_lt,zero_lt⟩
theorem mulQ_in (r s:RQ):(mulQ r s).1.In:=by
 unfold mulQ;split
 ·exact mkQ_in _ _
 ·exact ⟨zero_lt,zero_lt⟩
theorem subR_z {r s:RQ} (hr:r.In) (hs:s.In):Pure Tryz.prog 260 [SV.c (.agg r.A),SV.c (.agg s.A)] (resQ (sumQ true r s)):=by
 refine sx_pure tt_ok mixed at260 _ _ rfl rfl fun w=>?_
 refine ⟨r.A_size,s.A_size,.inr ⟨_,_,_,combine_new true _ rfl 500,trivial,rfl,.inr ⟨_,_,_,sumC_z hr hs true _ rfl _,⟨rfl,trivial⟩,rfl,RQ.A_fits _,by kernel_rfl,rfl,trivial⟩⟩⟩
theorem signR_z {r:RQ} (hr:r.In):Pure Tryz.prog 130 [SV.c (.agg r.A)] (.tuple #[.int .i64 (if r.ok then sgn r.p else 0),.int .i64 (if r.ok then 0 else 20)]):=by
 refine sx_pure tt_ok mixed at130 _ _ rfl rfl fun w=>?_
 refine ⟨r.A_size,.inl ⟨_,valid_raw hr,fun h=>?_,fun h=>⟨by decide,_,r.cat_l,.inl ⟨_,sign_z hr.num,?_,trivial⟩⟩⟩⟩
 ·have h:=bnt h
  refine ⟨?_,trivial⟩
  rw [h];rfl
 ·have h:=bnf h
  rw [h];rfl
theorem cmpR_z {r s:RQ} (hr:r.In) (hs:s.In):Pure Tryz.prog 73 [SV.c (.agg r.A),SV.c (.agg s.A)] (.tuple #[.int .i64 (if r.ok && s.ok then cmpI (r.p*s.q) (s.p*r.q) else 0),.int .i64 (if r.ok && s.ok then 0 else 20)]):=by
 refine sx_pure tt_ok mixed at73 _ _ rfl rfl fun w=>?_
 refine ⟨r.A_size,s.A_size,.inl ⟨_,valid_raw hr,fun h1=>.inl ⟨_,valid_raw hs,fun h2=>?_,fun h2=>?_⟩,fun h1=>?_⟩⟩
 ·have h2:=bnt h2
  refine ⟨?_,trivial⟩
  rw [h2,Bool.and_false];rfl
 ·have h1:=of_bnf h1
  have h2:=bnf h2
  obtain ⟨k1,k2,k3,k4⟩:=sum_lt h1 h2 false
  refine ⟨by decide,_,r.cat_l,by decide,_,s.cat_r,.inl ⟨_,product_z hr.num hs.den k1,by decide,_,s.cat_l,by decide,_,r.cat_r,.inl ⟨_,product_z hs.num hr.den k2,.inl ⟨_,cmp_z (isI_e k1) (isI_e k2),by kernel_rfl,?_,trivial⟩⟩⟩⟩
  rw [h1,h2];rfl
 ·have h1:=bnt h1
  refine ⟨fun _=>⟨?_,trivial⟩,nofun⟩
  rw [h1];rfl
def tp (n:Nat):Nat:=10 ^ n
theorem tp_le {n k:Nat} (h:n≤k):tp n≤tp k:=Nat.pow_le_pow_right (by omega) h
theorem tp_pos (n:Nat):0 < tp n:=Nat.pow_pos (by omega)
theorem tp_succ (n:Nat):tp (n+1)=tp n*10:=Nat.pow_succ ..
theorem tp18:tp 18=1000000000000000000:=rfl
theorem tp9:tp 9=1000000000:=rfl
theorem power_z {n:Nat} (h:n≤18):Pure Tryz.prog 195 [SV.c (.int .i64 n)] (.int .i64 ((tp n:Nat):Int)):=by
 refine sx_pure tt_ok mixed at195 _ _ rfl rfl fun w=>?_
 refine ⟨fun q f m=>∃ i:Nat,q=n - i∧i≤n∧f=[(3,SV.c (.int .i64 ((tp i:Nat):Int))),(4,SV.c (.int .i64 n)),(5,SV.c (.int .i64 i))]∧m=[],n,⟨_,_,⟨0,rfl,Nat.zero_le _,rfl,rfl⟩,⟨rfl,rfl,rfl,trivial⟩,trivial,rfl⟩,?_⟩
 rintro q f m ⟨i,rfl,hi,rfl,rfl⟩
 refine ⟨fun h1=>?_,fun h1=>?_⟩
 ·have h1:(i:Int) < n:=of_decide_eq_true h1
  have hp:tp (i+1)≤tp 18:=tp_le (by omega)
  refine ⟨n - (i+1),_,_,by omega,⟨i+1,rfl,by omega,rfl,rfl⟩,⟨c_int ?_,rfl,c_int (by rw [i64_in (by omega)];rfl),trivial⟩,trivial,rfl⟩
  rw [tp_succ,tp18] at hp
  rw [tp_succ]
  rw [i64_in (by omega)]
  omega
 ·have h1:¬ ((i:Int) < n):=of_decide_eq_false h1
  obtain rfl:i=n:=by omega
  exact ⟨rfl,trivial⟩
theorem check_z {r:RQ} (hr:r.In) (n:Int):Pure Tryz.prog 148 [SV.c (.agg r.A),SV.c (.int .i64 n)] (.int .i64 (if !r.ok then 20 else if n < 0∨n > 9 then 30 else 0)):=by
 refine sx_pure tt_ok mixed at148 _ _ rfl rfl fun w=>?_
 refine ⟨r.A_size,.inl ⟨_,valid_raw hr,fun h1=>?_,fun h1=>⟨fun h2=>?_,fun h2=>?_⟩⟩⟩
 ·have h1:=bnt h1
  refine ⟨iv ?_,trivial⟩
  rw [h1];rfl
 ·have h1:=bnf h1
  have h2:=of_decide_eq_false h2
  refine ⟨fun h3=>⟨iv ?_,trivial⟩,fun h3=>⟨iv ?_,trivial⟩⟩
  ·have h3:=of_decide_eq_true h3
   rw [h1,if_neg (by decide),if_pos (.inr h3)]
  ·have h3:=of_decide_eq_false h3
   rw [h1,if_neg (by decide),if_neg (by omega)]
 ·have h1:=bnf h1
  have h2:=of_decide_eq_true h2
  refine ⟨fun _=>⟨iv ?_,trivial⟩,nofun⟩
  rw [h1,if_neg (by decide),if_pos (.inl h2)]
theorem scale_lt {x:Int} {n:Nat} (hx:bl x.natAbs≤480) (hn:n≤9):(x*((tp n:Nat):Int)).natAbs < BB ^ 32:=by
 have h2:bl (((tp n:Nat):Int)).natAbs≤480:=by
  rw [Int.natAbs_natCast]
  have:=tp_le hn
  rw [tp9] at this
  refine Nat.le_trans (bl_le (k:=30) ?_) (by omega)
  omega
 exact mul_lt' hx h2
theorem scaled_z {r:RQ} (hr:r.In) (hk:r.ok=true) {n:Nat} (hn:n≤9):Pure Tryz.prog 149 [SV.c (.agg r.A),SV.c (.int .i64 n)] (.tuple #[.agg (eA (r.p*((tp n:Nat):Int) / r.q)),.agg (eA (r.p*((tp n:Nat):Int) % r.q))]):=by
 refine sx_pure tt_ok mixed at149 _ _ rfl rfl fun w=>?_
 obtain ⟨k1,k2,k3,k4,k5⟩:=RQ.ok_bits hk
 have hp:=tp_le hn
 rw [tp9] at hp
 have hl:=scale_lt k1 hn
 have hm:=mul_z hr.num (isI_e (z:=((tp n:Nat):Int)) (i64_lt (by omega) (by omega)))
 rw [fitR,if_pos hl] at hm
 refine ⟨r.A_size,by decide,_,r.cat_l,.inl ⟨_,power_z (by omega),.inl ⟨_,fromInt_z _ (by omega) (by omega),.inl ⟨_,hm,eA_fits _,by kernel_rfl,by decide,_,r.cat_r,.inl ⟨_,divmod_z (isI_e hl) hr.den (by omega),eA_fits _,eA_fits _,eA_fits _,eA_fits _,by kernel_rfl,rfl,trivial⟩⟩⟩⟩⟩

theorem runs_fnil {E:Env} {t:TypeId} {x y:Operand} {a:Array TypeId} {b:Array TypeId} {c:Bool} (hu:E.P.underlying t=some (.func a b c)) {f:Fn} {p q:Array Value}:Runs E (do eqGuard .eql t x y (.func f p q) .nilFunc;binOp .eql t (.func f p q) .nilFunc) (.bool false):=fun w _=>by
 have h1:(eqGuard .eql t x y (.func f p q) .nilFunc).run E.P w=.ok () w:=by simp [eqGuard]
 have h2:(Op.equal t (.func f p q) .nilFunc).run E.P w=.ok false w:=by
  show (Op.equalIn (9999+1) t _ _).run E.P w=_
  rw [Op.equalIn]
  simp only [Sem.run_bind,run_underlying hu,Result.andThen_ok,Sem.run_pure]
 have h3:binOp .eql t (.func f p q) .nilFunc=(do pure (.bool (← Op.equal t (.func f p q) .nilFunc))):=rfl
 rw [Sem.run_bind,h1,h3]
 simp [h2]
theorem runs_nilnil {E:Env} {t:TypeId} {x y:Operand} {a:Array TypeId} {b:Array TypeId} {c:Bool} (hu:E.P.underlying t=some (.func a b c)):Runs E (do eqGuard .eql t x y .nilFunc .nilFunc;binOp .eql t .nilFunc .nilFunc) (.bool true):=fun w _=>by
 have h1:(eqGuard .eql t x y .nilFunc .nilFunc).run E.P w=.ok () w:=by simp [eqGuard]
 have h2:(Op.equal t .nilFunc .nilFunc).run E.P w=.ok true w:=by
  show (Op.equalIn (9999+1) t _ _).run E.P w=_
  rw [Op.equalIn]
  simp only [Sem.run_bind,run_underlying hu,Result.andThen_ok,Sem.run_pure]
 have h3:binOp .eql t .nilFunc .nilFunc=(do pure (.bool (← Op.equal t .nilFunc .nilFunc))):=rfl
 rw [Sem.run_bind,h1,h3]
 simp [h2]
def btA (low half:Int) (neg:Bool):Array Value:=eA low++#[.int .i64 half,.bool neg]
theorem btA_fits (low half:Int) (neg:Bool):Fits (btA low half neg) 35:=⟨by simp [btA,eA_size],by rw [btA,Array.all_append,(eA_fits low).one];simp [Value.oneCell']⟩
theorem btA_half {low half:Int} {neg:Bool}:(btA low half neg)[33]? = some (.int .i64 half):=by
 rw [btA,Array.getElem?_append_right (by rw [eA_size];omega),eA_size];rfl
theorem btA_neg {low half:Int} {neg:Bool}:(btA low half neg)[34]? = some (.bool neg):=by
 rw [btA,Array.getElem?_append_right (by rw [eA_size];omega),eA_size];rfl
theorem btA_low {low half:Int} {neg:Bool}:(btA low half neg)[1]? = some (.int .u32 (dg low.natAbs 0:Nat)):=by
 rw [btA,Array.getElem?_append_left (by rw [eA_size];omega),eA,iA,Array.getElem?_append_right (by simp)]
 exact mA_get (by omega)
theorem fill_bt {low half:Int} {neg:Bool} {Z:Array Value} (hZ:Z.size=35) {pl:List (Nat×Nat)} (hpl:pl=[(0,33),(33,1),(34,1)]):Instr.fill (fun k=>pl[k]?) Z [(0,.agg (eA low)),(1,.int .i64 half),(2,.bool neg)]=some (btA low half neg):=by
 subst hpl
 have:=fill_all (pl:=fun k=>[(0,33),(33,1),(34,1)][k]?) (vs:=[.agg (eA low),.int .i64 half,.bool neg]) (Z:=Z) ⟨by simp [Value.cells,eA_size],by simp [Value.cells,eA_size],by simp [Value.cells,eA_size],trivial⟩ (by simp [catV,Value.cells,eA_size,hZ])
 rw [show catV [.agg (eA low),.int .i64 half,.bool neg]=btA low half neg by simp [catV,Value.cells,btA]] at this
 exact this
def upM (mode:Int) (neg:Bool) (half:Int) (odd:Bool):Bool :=
 if mode=1 then neg else if mode=2 then !neg else if mode=3 then false else if mode=4 then true else if mode=5 then (if half=0 then !neg else decide (half > 0)) else (if half=0 then odd else decide (half > 0))
theorem down_z (low half:Int) (neg:Bool):Pure Tryz.prog 196 [SV.c (.agg (btA low half neg))] (.bool neg):=by
 refine sx_pure tt_ok mixed at196 _ _ rfl rfl fun w=>?_
 exact ⟨(btA_fits low half neg).size,_,btA_neg,rfl,trivial⟩
theorem up_z (low half:Int) (neg:Bool):Pure Tryz.prog 197 [SV.c (.agg (btA low half neg))] (.bool !neg):=by
 refine sx_pure tt_ok mixed at197 _ _ rfl rfl fun w=>?_
 exact ⟨(btA_fits low half neg).size,_,btA_neg,rfl,trivial⟩
theorem floor_z (low half:Int) (neg:Bool):Pure Tryz.prog 198 [SV.c (.agg (btA low half neg))] (.bool false):=by
 refine sx_pure tt_ok mixed at198 _ _ rfl rfl fun w=>?_
 exact ⟨(btA_fits low half neg).size,rfl,trivial⟩
theorem ceil_z (low half:Int) (neg:Bool):Pure Tryz.prog 199 [SV.c (.agg (btA low half neg))] (.bool true):=by
 refine sx_pure tt_ok mixed at199 _ _ rfl rfl fun w=>?_
 exact ⟨(btA_fits low half neg).size,rfl,trivial⟩
theorem halfUp_z (low half:Int) (neg:Bool):Pure Tryz.prog 200 [SV.c (.agg (btA low half neg))] (.bool (if half=0 then !neg else decide (half > 0))):=by
 refine sx_pure tt_ok mixed at200 _ _ rfl rfl fun w=>?_
 refine ⟨(btA_fits low half neg).size,_,btA_half,fun h=>.inl ⟨_,up_z low half neg,bv ?_,trivial⟩,fun h=>⟨_,btA_half,bv ?_,trivial⟩⟩
 ·rw [if_pos (by simpa using h)]
 ·rw [if_neg (by simpa using h)]
theorem dg0 (N:Nat):dg N 0=N % 4294967296:=by simp [dg,BB_eq]
theorem halfEven_z (low half:Int) (neg:Bool):Pure Tryz.prog 201 [SV.c (.agg (btA low half neg))] (.bool (if half=0 then decide (low % 2=1) else decide (half > 0))):=by
 refine sx_pure tt_ok mixed at201 _ _ rfl rfl fun w=>?_
 refine ⟨(btA_fits low half neg).size,_,btA_half,fun h=>⟨by decide,by decide,_,btA_low,by decide,bv ?_,trivial⟩,fun h=>⟨_,btA_half,bv ?_,trivial⟩⟩
 ·rw [if_pos (by simpa using h),dg0,Bool.eq_iff_iff]
  simp only [beq_iff_eq,decide_eq_true_eq]
  rw [Int.tmod_eq_emod_of_nonneg (by omega)]
  omega
 ·rw [if_neg (by simpa using h)]
def modeF (mode:Int) (v:Value):Value :=
 if mode=1 then .func (.func 196) #[v] #[] else if mode=2 then .func (.func 197) #[v] #[] else if mode=3 then .func (.func 198) #[v] #[] else if mode=4 then .func (.func 199) #[v] #[] else if mode=5 then .func (.func 200) #[v] #[] else if mode=6 then .func (.func 201) #[v] #[] else .nilFunc
theorem mode_z (low half:Int) (neg:Bool) (mode:Int):Pure Tryz.prog 151 [SV.c (.agg (btA low half neg)),SV.c (.int .i64 mode)] (modeF mode (.agg (btA low half neg))):=by
 refine sx_pure tt_ok mixed at151 _ _ rfl rfl fun w=>?_
 unfold modeF
 refine ⟨(btA_fits low half neg).size,fun h=>⟨?_,trivial⟩,fun h=>⟨fun h2=>⟨?_,trivial⟩,fun h2=>⟨fun h3=>⟨?_,trivial⟩,fun h3=>⟨fun h4=>⟨?_,trivial⟩,fun h4=>⟨fun h5=>⟨?_,trivial⟩,fun h5=>⟨fun h6=>⟨?_,trivial⟩,fun h6=>⟨?_,trivial⟩⟩⟩⟩⟩⟩⟩
 all_goals simp only [beq_iff_eq,beq_eq_false_iff_ne,ne_eq] at *
 ·rw [if_pos h];rfl
 ·rw [if_neg h,if_pos h2];rfl
 ·rw [if_neg h,if_neg h2,if_pos h3];rfl
 ·rw [if_neg h,if_neg h2,if_neg h3,if_pos h4];rfl
 ·rw [if_neg h,if_neg h2,if_neg h3,if_neg h4,if_pos h5];rfl
 ·rw [if_neg h,if_neg h2,if_neg h3,if_neg h4,if_neg h5,if_pos h6];rfl
 ·rw [if_neg h,if_neg h2,if_neg h3,if_neg h4,if_neg h5,if_neg h6];rfl
theorem mode_bad (low half:Int) (neg:Bool) {mode:Int} (h:mode < 1∨mode > 6):Pure Tryz.prog 151 [SV.c (.agg (btA low half neg)),SV.c (.int .i64 mode)] .nilFunc:=by
 have:=mode_z low half neg mode
 unfold modeF at this
 rwa [if_neg (by omega),if_neg (by omega),if_neg (by omega),if_neg (by omega),if_neg (by omega),if_neg (by omega)] at this
theorem mode_good (low half:Int) (neg:Bool) {mode:Int} (h:¬ (mode < 1∨mode > 6)):∃ g,Pure Tryz.prog 151 [SV.c (.agg (btA low half neg)),SV.c (.int .i64 mode)] (.func (.func g) #[.agg (btA low half neg)] #[])∧Pure Tryz.prog g [SV.c (.agg (btA low half neg))] (.bool (upM mode neg half (decide (low % 2=1)))):=by
 have:=mode_z low half neg mode
 unfold modeF at this
 unfold upM
 by_cases h1:mode=1
 ·rw [if_pos h1] at this ⊢;exact ⟨_,this,down_z _ _ _⟩
 rw [if_neg h1] at this ⊢
 by_cases h2:mode=2
 ·rw [if_pos h2] at this ⊢;exact ⟨_,this,up_z _ _ _⟩
 rw [if_neg h2] at this ⊢
 by_cases h3:mode=3
 ·rw [if_pos h3] at this ⊢;exact ⟨_,this,floor_z _ _ _⟩
 rw [if_neg h3] at this ⊢
 by_cases h4:mode=4
 ·rw [if_pos h4] at this ⊢;exact ⟨_,this,ceil_z _ _ _⟩
 rw [if_neg h4] at this ⊢
 by_cases h5:mode=5
 ·rw [if_pos h5] at this ⊢;exact ⟨_,this,halfUp_z _ _ _⟩
 rw [if_neg h5] at this ⊢
 rw [if_pos (show mode=6 by omega)] at this
 exact ⟨_,this,halfEven_z _ _ _⟩
def rndZ (mode x y:Int):Int:=if x % y=0 then x / y else if upM mode (decide (x < 0)) (cmpI (x % y+x % y) y) (decide (x / y % 2=1)) then x / y+1 else x / y
def rndQ (r:RQ) (n mode:Int):Int×Int:=if !r.ok then (0,20) else if n < 0∨n > 9 then (0,30) else if mode < 1∨mode > 6 then (0,31) else (rndZ mode (r.p*(tp n.toNat:Nat)) r.q,0)
def resZ (x:Int×Int):Value:=.tuple #[.agg (eA x.1),.int .i64 x.2]
theorem scale_lt2 {x:Int} {n:Nat} (hx:bl x.natAbs≤480) (hn:n≤9):(x*((tp n:Nat):Int)).natAbs < 2 ^ e960:=by
 have h2:bl (((tp n:Nat):Int)).natAbs≤480:=by
  rw [Int.natAbs_natCast]
  have:=tp_le hn
  rw [tp9] at this
  refine Nat.le_trans (bl_le (k:=30) ?_) (by omega)
  omega
 exact bits_mul hx h2
theorem sign_scaled {x:Int} {n:Nat}:decide (x*((tp n:Nat):Int) < 0)=decide (x < 0):=by
 have:=tp_pos n
 rw [Bool.eq_iff_iff]
 simp only [decide_eq_true_eq]
 constructor
 ·intro h
  rcases Int.lt_or_le x 0 with h1 | h1
  ·exact h1
  ·have:=Int.mul_nonneg h1 (show (0:Int)≤(tp n:Nat) by omega);omega
 ·intro h
  exact Int.mul_neg_of_neg_of_pos h (by omega)
theorem round_z {r:RQ} (hr:r.In) (n mode:Int):Pure Tryz.prog 98 [SV.c (.agg r.A),SV.c (.int .i64 n),SV.c (.int .i64 mode)] (resZ (rndQ r n mode)):=by
 refine sx_pure tt_ok mixed at98 _ _ rfl rfl fun w=>?_
 have hc:=check_z hr n
 rcases Decidable.em (r.ok=true) with hk | hk
 case inr =>
  have hk:r.ok=false:=by simpa using hk
  rw [hk,Bool.not_false,if_pos rfl] at hc
  refine ⟨r.A_size,.inl ⟨_,hc,fun _=>?_,nofun⟩⟩
  refine ⟨ti31.zero,rfl,eA_fits 0,?_,trivial⟩
  rw [rndQ,hk,Bool.not_false,if_pos rfl];rfl
 rw [hk] at hc
 rcases Decidable.em (n < 0∨n > 9) with hn | hn
 ·rw [Bool.not_true,if_neg Bool.false_ne_true,if_pos hn] at hc
  refine ⟨r.A_size,.inl ⟨_,hc,fun _=>?_,nofun⟩⟩
  refine ⟨ti31.zero,rfl,eA_fits 0,?_,trivial⟩
  rw [rndQ,hk,Bool.not_true,if_neg Bool.false_ne_true,if_pos hn];rfl
 rw [Bool.not_true,if_neg Bool.false_ne_true,if_neg hn] at hc
 obtain ⟨k,rfl⟩:∃ k:Nat,n=k:=⟨n.toNat,by omega⟩
 have hk9:k≤9:=by omega
 obtain ⟨k1,k2,k3,k4,k5⟩:=RQ.ok_bits hk
 have hs:=scaled_z hr hk hk9
 have hl:=scale_lt2 k1 hk9
 have hrl:(r.p*((tp k:Nat):Int) % r.q).natAbs < 2 ^ e480:=by
  have h1:=Int.emod_lt_of_pos (r.p*((tp k:Nat):Int)) k3
  have h2:=Int.emod_nonneg (r.p*((tp k:Nat):Int)) (show r.q≠0 by omega)
  have h3:r.q.natAbs < 2 ^ e480:=Nat.lt_of_lt_of_le (bl_bits _).1 (Nat.pow_le_pow_right (by omega) k2)
  omega
 have hlow:(r.p*((tp k:Nat):Int) / r.q).natAbs < 2 ^ e960:=Nat.lt_of_le_of_lt (Int.natAbs_ediv_le_natAbs _ _) hl
 have p1:=hp480
 have p2:=hp960
 have p3:=hp961
 have pp:2 ^ e480+2 ^ e480≤2 ^ e960:=by decide +kernel
 have p4:1≤2 ^ e960:=Nat.pow_pos (by omega)
 rw [rndQ,hk,Bool.not_true,if_neg Bool.false_ne_true,if_neg hn,Int.toNat_natCast]
 unfold rndZ
 have eneg:=sign_scaled (x:=r.p) (n:=k)
 generalize hlowE:r.p*((tp k:Nat):Int) / r.q=low at *
 generalize hrestE:r.p*((tp k:Nat):Int) % r.q=rest at *
 have ht:=add_z (isI_e (z:=rest) (by omega)) (isI_e (z:=rest) (by omega))
 rw [fitR,if_pos (by omega)] at ht
 have hcm:=cmp_z (isI_e (z:=rest+rest) (by omega)) hr.den
 have hsn:=sign_z hr.num
 rcases Decidable.em (mode < 1∨mode > 6) with hm | hm
 ·have hmode:=mode_bad low (cmpI (rest+rest) r.q) (decide (sgn r.p < 0)) hm
  refine ⟨r.A_size,.inl ⟨_,hc,nofun,fun _=>.inl ⟨_,hs,eA_fits _,eA_fits _,.inl ⟨_,ht,eA_fits _,by decide,_,r.cat_r,.inl ⟨_,hcm,by decide,_,r.cat_l,.inl ⟨_,hsn,_,fill_bt rfl rfl,.inl ⟨_,hmode,by kernel_rfl,_,runs_nilnil Tryz.underlying46,fun _=>?_,nofun⟩⟩⟩⟩⟩⟩⟩
  refine ⟨ti31.zero,rfl,eA_fits 0,?_,trivial⟩
  rw [if_pos hm];rfl
 ·obtain ⟨g,hmode,hup⟩:=mode_good low (cmpI (rest+rest) r.q) (decide (sgn r.p < 0)) hm
  rw [if_neg hm]
  refine ⟨r.A_size,.inl ⟨_,hc,nofun,fun _=>.inl ⟨_,hs,eA_fits _,eA_fits _,.inl ⟨_,ht,eA_fits _,by decide,_,r.cat_r,.inl ⟨_,hcm,by decide,_,r.cat_l,.inl ⟨_,hsn,_,fill_bt rfl rfl,.inl ⟨_,hmode,by kernel_rfl,_,runs_fnil Tryz.underlying46,nofun,fun _=>.inl ⟨_,sign_z (isI_e (z:=rest) (by omega)),fun h1=>?_,fun h1=>?_⟩⟩⟩⟩⟩⟩⟩⟩
  ·rw [sgn_zero] at h1
   have h1:=of_decide_eq_false h1
   rw [if_neg h1]
   refine .inl ⟨_,hup,fun h2=>?_,fun h2=>?_⟩
   ·have h2:=bnt h2
    refine ⟨eA_fits _,?_,trivial⟩
    rw [sgn_neg,← eneg] at h2
    rw [h2,if_neg Bool.false_ne_true];rfl
   ·have h2:=bnf h2
    have ha:=add_z (isI_e (z:=low) (by omega)) (isI_e (z:=1) (by omega))
    rw [fitR,if_pos (by omega)] at ha
    refine .inl ⟨_,fromInt_z 1 (by omega) (by omega),.inl ⟨_,ha,eA_fits _,by kernel_rfl,eA_fits _,?_,trivial⟩⟩
    rw [sgn_neg,← eneg] at h2
    rw [h2,if_pos rfl];rfl
  ·rw [sgn_zero] at h1
   have h1:rest=0:=of_decide_eq_true h1
   refine ⟨fun _=>⟨eA_fits _,?_,trivial⟩,nofun⟩
   rw [if_pos h1];rfl
def rndI (x:Int×Int):Int×Int:=if x.2≠0 then (0,x.2) else if x.1 < -1000000000000000∨x.1 > 1000000000000000 then (0,33) else (x.1,0)
def resI (x:Int×Int):Value:=.tuple #[.int .i64 x.1,.int .i64 x.2]
theorem rndZ_lt {r:RQ} (hk:r.ok=true) {n:Nat} (hn:n≤9) (mode:Int):(rndZ mode (r.p*(tp n:Nat)) r.q).natAbs < BB ^ 32:=by
 obtain ⟨k1,k2,k3,k4,k5⟩:=RQ.ok_bits hk
 have hl:=scale_lt2 k1 hn
 have hlow:(r.p*((tp n:Nat):Int) / r.q).natAbs < 2 ^ e960:=Nat.lt_of_le_of_lt (Int.natAbs_ediv_le_natAbs _ _) hl
 have p3:=hp961
 have p4:1≤2 ^ e960:=Nat.pow_pos (by omega)
 unfold rndZ
 split
 ·omega
 ·split<;>omega
theorem rndQ_lt (r:RQ) (n mode:Int):(rndQ r n mode).1.natAbs < BB ^ 32:=by
 unfold rndQ
 split
 ·exact zero_lt
 ·split
  ·exact zero_lt
  ·split
   ·exact zero_lt
   ·rename_i h1 h2 h3
    exact rndZ_lt (by simpa using h1) (by omega) mode
theorem roundInt_z {r:RQ} (hr:r.In) (n mode:Int):Pure Tryz.prog 45 [SV.c (.agg r.A),SV.c (.int .i64 n),SV.c (.int .i64 mode)] (resI (rndI (rndQ r n mode))):=by
 refine sx_pure tt_ok mixed at45 _ _ rfl rfl fun w=>?_
 have hx:=round_z hr n mode
 have hlt:=rndQ_lt r n mode
 generalize rndQ r n mode=x at *
 obtain ⟨x,e⟩:=x
 have ht:=toInt_z (isI_e hlt)
 have hx:Pure Tryz.prog 98 [SV.c (.agg r.A),SV.c (.int .i64 n),SV.c (.int .i64 mode)] (.tuple #[.agg (eA x),.int .i64 e]):=hx
 have ht:Pure Tryz.prog 99 [SV.c (.agg (eA x))] (toIntR x):=ht
 refine ⟨r.A_size,.inl ⟨_,hx,eA_fits _,fun h=>?_,fun h=>?_⟩⟩
 ·have h:e≠0:=by simpa using h
  refine ⟨?_,trivial⟩
  rw [rndI,if_pos h];rfl
 ·have h:¬ (e≠0):=by simpa using h
  rw [rndI,if_neg h]
  by_cases hz : -9223372036854775808≤x∧x≤9223372036854775807
  ·rw [toIntR,if_pos hz] at ht
   refine .inl ⟨_,ht,fun _=>⟨fun h1=>⟨fun h2=>?_,fun h2=>?_⟩,fun h1=>⟨fun _=>?_,nofun⟩⟩,nofun⟩
   ·have h1:=of_decide_eq_false h1
    have h2:=of_decide_eq_true h2
    refine ⟨?_,trivial⟩
    rw [if_pos (.inr h2)];rfl
   ·have h1:=of_decide_eq_false h1
    have h2:=of_decide_eq_false h2
    refine ⟨?_,trivial⟩
    rw [if_neg (by omega)];rfl
   ·have h1:=of_decide_eq_true h1
    refine ⟨?_,trivial⟩
    rw [if_pos (.inl h1)];rfl
  ·rw [toIntR,if_neg hz] at ht
   refine .inl ⟨_,ht,nofun,fun _=>⟨nofun,fun _=>⟨fun _=>⟨?_,trivial⟩,nofun⟩⟩⟩
   rw [if_pos (show (x,e).1 < -1000000000000000∨(x,e).1 > 1000000000000000 by show x < _∨x > _;omega)];rfl
end Go.Proofs.YtofllflnmmjijaaGreatDoor
