/- walks: signs and magnitudes. walks: whole numbers, first par; no condition. -/
import Derived.Laws.StructEq
import Derived.Test.YtklehfchdoikeaaGreatDoorP10
set_option maxRecDepth 100000
set_option maxHeartbeats 4000000
namespace Go.Proofs.YtklehfchdoikeaaGreatDoor
open Go Go.RowKit Go.SX
section
open Go.Op
theorem xG {P:Program} (f:Nat->Sem Bool) (g:Nat->Bool) (w:World):∀ (l:List Nat),(∀ i,i∈l->(f i).run P w=.ok (g i) w) ->
    (forIn l ((none:Option Bool),()) (fun i _=>do
     let b <- f i
     if (!b)=true then pure (ForInStep.done (some false,())) else pure (ForInStep.yield (none,())))).run P w
     = .ok (if l.all g then (none,()) else (some false,())) w
 | [],_=>by simp
 | i :: l,h=>by
  rw [List.forIn_cons]
  have h1:=h i (by simp)
  have ih:=xG f g w l (fun j hj=>h j (by simp [hj]))
  cases hg:g i
  ·rw [hg] at h1
   simp [h1,hg]
  ·rw [hg] at h1
   simp only [Sem.run_bind,h1,Result.andThen_ok,Bool.not_true,Bool.false_eq_true,if_false,Sem.run_pure,List.all_cons,hg,Bool.true_and]
   exact ih
theorem pt {P:Program} {w:World} {e:TypeId} {k:IntKind} (he:P.underlying e=some (.int k)) {xs:Array Value} {off:Nat} {v:Value} (hx:xs[off]? = some v):(part e xs off).run P w=.ok v w:=by
 have ha:(isAgg e).run P w=.ok false w:=by
  unfold isAgg
  rw [Sem.run_bind,run_underlying he w]
  rfl
 simp [part,ha,hx]
theorem qy {P:Program} (w:World) (d:Nat) (t e:TypeId) (n:Nat) (k:IntKind) (i:TypeInfo) (xs ys:Array Value) (x y:Nat->Int) (ht:P.underlying t=some (.array n e)) (he:P.underlying e=some (.int k)) (hi:P.info? e=some i) (hs:i.size=1)
    (hx:∀ j,j < n->xs[j]? = some (.int k (x j))) (hy:∀ j,j < n->ys[j]? = some (.int k (y j))) :
 (Op.equalIn (d+1+1) t (.agg xs) (.agg ys)).run P w=.ok ((List.range n).all fun j=>x j == y j) w:=by
 rw [Op.equalIn]
 simp only [Sem.run_bind,run_underlying ht,Result.andThen_ok]
 have h1:(sizeOf e).run P w=.ok 1 w:=by simp [sizeOf,typeInfo,hi,hs]
 rw [h1]
 simp only [Result.andThen_ok]
 rw [Std.Legacy.Range.forIn_eq_forIn_range']
 have h2:=xG (P:=P) (fun j=>do
   let a <- part e xs (j*1)
   let b <- part e ys (j*1)
   equalIn (d+1) e a b) (fun j=>x j == y j) w (List.range n) (fun j hj=>by
  have hj:j < n:=by simpa using hj
  simp only [Nat.mul_one,Sem.run_bind,pt he (hx j hj),pt he (hy j hj),Result.andThen_ok]
  exact run_equalIn_int w d e k k _ _ he)
 simp only [bind_assoc] at h2
 have e3:List.range' ([:n]:Std.Legacy.Range).start ([:n]:Std.Legacy.Range).size ([:n]:Std.Legacy.Range).step=List.range n:=by simp [List.range_eq_range',Std.Legacy.Range.size]
 rw [e3,h2]
 simp only [Result.andThen_ok]
 cases (List.range n).all fun j=>x j == y j<;>simp

end


theorem ut {P:Program} {op:BinOp} {t:TypeId} {x y:Operand} {A B:Array Value} (h:P.eqGuardType P.depth t=false) (w:World):(eqGuard op t x y (.agg A) (.agg B)).run P w=.ok () w:=by
 unfold eqGuard
 cases op<;>simp [program,Sem.run,h]
theorem xw {E:Env} {t:TypeId} {x y:Operand} {A B:Array Value} {b:Bool} (hg:E.P.eqGuardType E.P.depth t=false) (h:∀ w,(Op.equalIn 10000 t (.agg A) (.agg B)).run E.P w=.ok b w):bH E (do eqGuard .neq t x y (.agg A) (.agg B);binOp .neq t (.agg A) (.agg B)) (.bool (!b)):=fun w _=>by
 rw [Sem.run_bind,ut hg]
 simp only [Result.andThen_ok]
 have:binOp .neq t (.agg A) (.agg B)=(do pure (.bool (!(<- Op.equal t (.agg A) (.agg B))))):=rfl
 rw [this,Sem.run_bind]
 have h2:(Op.equal t (.agg A) (.agg B)).run E.P w=.ok b w:=h w
 rw [h2]
 simp
theorem pr {E:Env} {t:TypeId} {x y:Operand} {A B:Array Value} {b:Bool} (hg:E.P.eqGuardType E.P.depth t=false) (h:∀ w,(Op.equalIn 10000 t (.agg A) (.agg B)).run E.P w=.ok b w):bH E (do eqGuard .eql t x y (.agg A) (.agg B);binOp .eql t (.agg A) (.agg B)) (.bool b):=fun w _=>by
 rw [Sem.run_bind,ut hg]
 simp only [Result.andThen_ok]
 have:binOp .eql t (.agg A) (.agg B)=(do pure (.bool (<- Op.equal t (.agg A) (.agg B)))):=rfl
 rw [this,Sem.run_bind]
 have h2:(Op.equal t (.agg A) (.agg B)).run E.P w=.ok b w:=h w
 rw [h2]
 simp
theorem uK:Tryz.prog.eqGuardType Tryz.prog.depth 201=false:=by kernel_rfl
theorem AP {d:Nat} {N M:Nat} (hN:N < BB ^ 32) (hM:M < BB ^ 32) (t:TypeId) (ht:Tryz.prog.underlying t=some (.array 32 28)) (w:World):(Op.equalIn (d+1+1) t (.agg (mA N)) (.agg (mA M))).run Tryz.prog w=.ok (decide (N=M)) w:=by
 obtain ⟨i,hi,hs⟩:∃ i,Tryz.prog.info? 28=some i/\i.size=1:=Option.map_eq_some_iff.1 (Ot:TIok _ _ _).size
 rw [qy w d t 28 32 .u32 i (mA N) (mA M) (fun j=>dg N j) (fun j=>dg M j) ht Tryz.underlying28 hi hs (fun j hj=>bh hj) (fun j hj=>bh hj)]
 congr 1
 rw [Bool.eq_iff_iff]
 simp only [List.all_eq_true,List.mem_range,decide_eq_true_eq,beq_iff_eq]
 constructor
 ·intro h
  exact If hN hM fun i hi=>by have:=h i hi;omega
 ·intro h;subst h;intros;rfl
theorem lG {E:Env} (hE:E.P=Tryz.prog) {N M:Nat} (hN:N < BB ^ 32) (hM:M < BB ^ 32) {x y:Operand}:bH E (do eqGuard .neq 201 x y (.agg (mA N)) (.agg (mA M));binOp .neq 201 (.agg (mA N)) (.agg (mA M))) (.bool (!decide (N=M))) :=
 xw (by rw [hE];exact uK) fun w=>by rw [hE];exact AP hN hM _ Tryz.underlying201 w
theorem wB {E:Env} (hE:E.P=Tryz.prog) {N M:Nat} (hN:N < BB ^ 32) (hM:M < BB ^ 32) {x y:Operand}:bH E (do eqGuard .eql 201 x y (.agg (mA N)) (.agg (mA M));binOp .eql 201 (.agg (mA N)) (.agg (mA M))) (.bool (decide (N=M))) :=
 pr (by rw [hE];exact uK) fun w=>by rw [hE];exact AP hN hM _ Tryz.underlying201 w
theorem bJ:0 < BB ^ 32:=bi 32
theorem fB:Array.replicate 32 (Value.int .u32 0)=mA 0:=rfl
theorem dQ {α:Type} {a b:α} (h:a=b):some a=some b:=by rw [h]
def Ac (pl:Nat->Option (Nat×Nat)):Nat->Nat->List Value->Prop
 | _,_,[]=>True
 | k,o,v :: r=>pl k=some (o,v.cells.size)/\Ac pl (k+1) (o+v.cells.size) r
def ir:List Value->Array Value
 | []=>#[]
 | v :: r=>v.cells++ir r
def pI:Nat->List Value->List (Nat×Value)
 | _,[]=>[]
 | k,v :: r=>(k,v) :: pI (k+1) r
theorem pW:∀ (l:List Value) (off:Nat) (A:Array Value) (i:Nat),(l.zipIdx i).foldl (fun cs (c,j)=>cs.setIfInBounds (off+j) c) A=aM A (off+i) l
 | [],_,_,_=>rfl
 | v :: r,off,A,i=>by
  simp only [List.zipIdx_cons,List.foldl_cons,aM]
  rw [pW r off _ (i+1)];rfl
theorem sr (P0 V R:Array Value) (hR:V.size<=R.size):aM (P0++R) P0.size V.toList=P0++V++R.extract V.size R.size:=by
 apply Array.ext_getElem?
 intro j
 rw [ct]
 by_cases h1:j < P0.size
 ·rw [if_pos (.inl h1),Array.getElem?_append_left h1,Array.append_assoc,Array.getElem?_append_left h1]
 ·by_cases h2:P0.size+V.size<=j
  ·rw [if_pos (.inr (by simpa using h2)),Array.getElem?_append_right (by omega),Array.getElem?_append_right (by simp;omega),Array.getElem?_extract]
   simp only [Array.size_append]
   split
   ·congr 1;omega
   ·rw [Array.getElem?_eq_none (by omega)]
  ·rw [if_neg (by simp;omega),if_pos (by simp;omega),Array.getElem?_append_left (by simp;omega),Array.getElem?_append_right (by omega)]
   simp
theorem yK (pl:Nat->Option (Nat×Nat)):∀ (vs:List Value) (k:Nat) (P0 R:Array Value),Ac pl k P0.size vs->R.size=(ir vs).size->Instr.fill pl (P0++R) (pI k vs)=some (P0++ir vs)
 | [],k,P0,R,_,hR=>by
  have:R=#[]:=by apply Array.eq_empty_of_size_eq_zero;simpa [ir] using hR
  subst this;rfl
 | v :: r,k,P0,R,⟨h1,h2⟩,hR=>by
  simp only [pI,Instr.fill,h1]
  simp only [ir,Array.size_append] at hR
  have hc:¬ (v.cells.size≠v.cells.size || P0.size+v.cells.size > (P0++R).size)=true:=by simp;omega
  rw [if_neg hc]
  have e:(v.cells.zipIdx.foldl (fun cs (c,j)=>cs.setIfInBounds (P0.size+j) c) (P0++R))=P0++v.cells++R.extract v.cells.size R.size:=by
   have h3:=pW v.cells.toList P0.size (P0++R) 0
   rw [Nat.add_zero] at h3
   rw [<- sr P0 v.cells R (by omega),<- h3,<- Array.foldl_toList,Array.toList_zipIdx]
  rw [e]
  have:=yK pl r (k+1) (P0++v.cells) (R.extract v.cells.size R.size) (by simpa using h2) (by simp;omega)
  rw [this,Array.append_assoc];rfl
theorem ld {pl:Nat->Option (Nat×Nat)} {vs:List Value} {Z:Array Value} (h1:Ac pl 0 0 vs) (h2:Z.size=(ir vs).size):Instr.fill pl Z (pI 0 vs)=some (ir vs):=by
 have:=yK pl vs 0 #[] Z h1 h2
 simpa using this
def iA (neg:Bool) (N:Nat):Array Value:=#[.bool neg]++mA N
theorem bp (neg:Bool) (N:Nat):(iA neg N).size=33:=by simp [iA,bU]
theorem dD (neg:Bool) (N:Nat):Fits (iA neg N) 33:=⟨bp _ _,by
 rw [iA,Array.all_append,(aE N).one];simp [Value.oneCell']⟩
theorem dA {neg:Bool} {N:Nat}:(iA neg N)[0]? = some (.bool neg):=(Array.getElem?_append_left (by simp)).trans rfl
theorem cE {neg:Bool} {N:Nat}:(iA neg N).extract 1 33=mA N:=by
 rw [iA,Array.extract_append]
 have:=bU N
 simp [this]
theorem pZ {neg:Bool} {N:Nat} {pl:List (Nat×Nat)} (hpl:pl=[(0,1),(1,32)]) {Z:Array Value} (hZ:Z.size=33):Instr.fill (fun k=>pl[k]?) Z [(0,.bool neg),(1,.agg (mA N))]=some (iA neg N):=by
 subst hpl
 have:=ld (pl:=fun k=>[(0,1),(1,32)][k]?) (vs:=[.bool neg,.agg (mA N)]) (Z:=Z) ⟨rfl,by simp [Value.cells,bU],trivial⟩ (by simp [ir,Value.cells,bU,hZ])
 rw [show ir [.bool neg,.agg (mA N)]=iA neg N by simp [ir,Value.cells,iA]] at this
 exact this
theorem zP (neg:Bool) (N:Nat) (hN:N < BB ^ 32):ay Tryz.prog 213 [SV.c (.agg (iA neg N))] (.tuple #[.bool (neg && !decide (N=0)),.agg (mA N)]):=by
 refine al ai ak Rc _ _ rfl rfl fun w=>?_
 refine ⟨bp _ _,by decide,_,cE,aE N,_,dA,fun h=>?_,fun h=>?_⟩
 ·subst h
  exact ⟨mA 0,dQ fB,_,lG rfl hN bJ,aE _,by kernel_rfl,rfl,trivial⟩
 ·have h:neg=false:=h
  subst h
  exact ⟨aE _,by kernel_rfl,rfl,trivial⟩
theorem DQ (neg:Bool) (N:Nat) (hN:N < BB ^ 32):ay Tryz.prog 167 [SV.c (.bool neg),SV.c (.agg (mA N))] (.agg (iA (neg && !decide (N=0)) N)):=by
 refine al ai ak RM _ _ rfl rfl fun w=>?_
 refine ⟨bU _,fun h=>?_,fun h=>?_⟩
 ·subst h
  exact ⟨mA 0,dQ fB,_,lG rfl hN bJ,_,pZ rfl rfl,dD _ _,by kernel_rfl,rfl,trivial⟩
 ·have h:neg=false:=h
  subst h
  exact ⟨_,pZ rfl rfl,dD _ _,by kernel_rfl,rfl,trivial⟩
end Go.Proofs.YtklehfchdoikeaaGreatDoor
namespace Go.Proofs.YtklehfchdoikeaaGreatDoor
open Go Go.RowKit Go.SX
def zN (neg:Bool) (N:Nat):Int:=if neg then -(N:Int) else N
theorem bt (neg:Bool) (N:Nat):(zN neg N).natAbs=N:=by cases neg<;>simp [zN]
theorem zu (neg:Bool) (N:Nat):(neg && !decide (N=0))=decide (zN neg N < 0):=by
 cases neg
 ·simp [zN]
 ·rw [Bool.eq_iff_iff];simp [zN];omega
def eA (z:Int):Array Value:=iA (decide (z < 0)) z.natAbs
structure IsI (A:Array Value) (z:Int):Prop where
 ex:∃ neg N,N < BB ^ 32/\A=iA neg N/\z=zN neg N
theorem IsI.size {A:Array Value} {z:Int} (h:IsI A z):A.size=33:=by
 obtain ⟨neg,N,-,rfl,-⟩:=h.ex;exact bp _ _
theorem IsI.fits {A:Array Value} {z:Int} (h:IsI A z):Fits A 33:=by
 obtain ⟨neg,N,-,rfl,-⟩:=h.ex;exact dD _ _
theorem IsI.lt {A:Array Value} {z:Int} (h:IsI A z):z.natAbs < BB ^ 32:=by
 obtain ⟨neg,N,hN,-,rfl⟩:=h.ex;rw [bt];exact hN
theorem aI {z:Int} (h:z.natAbs < BB ^ 32):IsI (eA z) z:=⟨_,_,h,rfl,by
 unfold zN
 by_cases e:z < 0
 ·rw [if_pos (by simpa using e)];omega
 ·rw [if_neg (by simpa using e)];omega⟩
theorem am (z:Int):Fits (eA z) 33:=dD _ _
theorem bL (z:Int):(eA z).size=33:=bp _ _
theorem cZ {A:Array Value} {z:Int} (h:IsI A z):ay Tryz.prog 213 [SV.c (.agg A)] (.tuple #[.bool (decide (z < 0)),.agg (mA z.natAbs)]):=by
 obtain ⟨neg,N,hN,rfl,rfl⟩:=h.ex
 have:=zP neg N hN
 rw [zu] at this
 rw [bt];exact this
theorem jD (neg:Bool) (N:Nat) (hN:N < BB ^ 32):ay Tryz.prog 167 [SV.c (.bool neg),SV.c (.agg (mA N))] (.agg (eA (zN neg N))):=by
 have:=DQ neg N hN
 rw [zu] at this
 unfold eA;rw [bt];exact this
theorem rl {z:Int}:decide (z.natAbs=0)=decide (z=0):=by rw [Bool.eq_iff_iff];simp
def sgn (z:Int):Int:=if z < 0 then -1 else if z=0 then 0 else 1
theorem iI {A:Array Value} {z:Int} (h:IsI A z):ay Tryz.prog 162 [SV.c (.agg A)] (.int .i64 (sgn z)):=by
 refine al ai ak RV _ _ rfl rfl fun w=>?_
 refine ⟨h.size,.inl ⟨_,cZ h,aE _,fun h1=>?_,fun h1=>?_⟩⟩
 ·have:=af h1
  exact ⟨iv (by simp only [sgn,if_pos this]),trivial⟩
 ·have h1:=ag h1
  refine ⟨mA 0,dQ fB,_,wB rfl h.lt bJ,fun h2=>?_,fun h2=>?_⟩
  ·rw [rl] at h2
   have:=af h2
   exact ⟨iv (by simp only [sgn,if_neg h1,if_pos this]),trivial⟩
  ·rw [rl] at h2
   have:=ag h2
   exact ⟨iv (by simp only [sgn,if_neg h1,if_neg this]),trivial⟩
theorem LL {A:Array Value} {z:Int} (h:IsI A z):ay Tryz.prog 164 [SV.c (.agg A)] (.agg (eA (-z))):=by
 refine al ai ak RR _ _ rfl rfl fun w=>?_
 have e:zN (!decide (z < 0)) z.natAbs=-z:=by
  unfold zN
  by_cases hz:z < 0
  ·simp [hz];omega
  ·simp [hz];omega
 exact ⟨h.size,.inl ⟨_,cZ h,aE _,.inl ⟨_,jD _ _ h.lt,by rw [e];exact am _,by rw [e];rfl,trivial⟩⟩⟩
def eK (x y:Int):Int:=if x < y then -1 else if y < x then 1 else 0
theorem FX (z:Int) : -1<=sgn z/\sgn z<=1:=by unfold sgn;split<;>(try split)<;>omega
theorem rQ {x y:Int} (h:sgn x≠sgn y):eK x y=if sgn x < sgn y then -1 else 1:=by
 unfold eK;unfold sgn at *
 repeat' split
 all_goals first | omega | (exfalso;apply h;repeat' split
                            all_goals omega)
theorem CI {x y:Int} (h:sgn x=sgn y):eK x y=sgn x*jK x.natAbs y.natAbs:=by
 unfold eK jK;unfold sgn at *
 (repeat' split at h)<;>(repeat' split)<;>omega
theorem CD (a b:Nat):jK a b=-1\/jK a b=0\/jK a b=1:=by unfold jK;split<;>(try split)<;>simp
theorem L7 {A B:Array Value} {x y:Int} (hA:IsI A x) (hB:IsI B y):ay Tryz.prog 184 [SV.c (.agg A),SV.c (.agg B)] (.int .i64 (eK x y)):=by
 refine al ai ak Rs _ _ rfl rfl fun w=>?_
 refine ⟨hA.size,hB.size,.inl ⟨_,iI hA,.inl ⟨_,iI hB,by kernel_rfl,fun h=>⟨fun h2=>?_,fun h2=>?_⟩,fun h=>.inl ⟨_,cZ hA,aE _,.inl ⟨_,cZ hB,aE _,.inr ⟨_,_,_,li hA.lt hB.lt _ rfl _ _ (by decide),⟨rfl,rfl,trivial⟩,rfl,?_⟩⟩⟩⟩⟩⟩
 ·have hne:sgn x≠sgn y:=by simpa using h
  exact ⟨iv (by rw [rQ hne,if_pos (af h2)]),trivial⟩
 ·have hne:sgn x≠sgn y:=by simpa using h
  exact ⟨iv (by rw [rQ hne,if_neg (ag h2)]),trivial⟩
 ·have he:sgn x=sgn y:=by simpa using h
  refine ⟨iv ?_,trivial⟩
  rw [CI he]
  have:=FX x
  rcases CD x.natAbs y.natAbs with h1 | h1 | h1<;>rw [h1]<;>exact i64_in (by omega)
def bl (n:Nat):Nat:=if n=0 then 0 else n.log2+1
theorem cO (n:Nat):IsBits n (bl n):=by
 unfold bl
 by_cases h:n=0
 ·rw [if_pos h,h];exact ye
 ·rw [if_neg h];exact ⟨Nat.lt_log2_self,fun _=>by simpa using Nat.log2_self_le h⟩
theorem Ma {n k:Nat} (h:IsBits n k):bl n=k:=IsBits.unique (cO n) h
theorem lm {n s:Nat} (h:2 ^ s<=n):bl n=s+bl (n / 2 ^ s):=by
 obtain ⟨h1,h2⟩:=cO (n / 2 ^ s)
 have hp:0 < 2 ^ s:=Nat.pow_pos (by omega)
 have hq:0 < n / 2 ^ s:=Nat.div_pos h hp
 generalize hk:bl (n / 2 ^ s)=k at *
 have hk0:0 < k:=by
  rcases Nat.eq_zero_or_pos k with e | e
  ·rw [e] at h1;simp at h1;omega
  ·exact e
 refine Ma ⟨?_,fun _=>?_⟩
 ·rw [Nat.pow_add,Nat.mul_comm];exact (Nat.div_lt_iff_lt_mul hp).1 h1
 ·rw [show s+k - 1=s+(k - 1) by omega,Nat.pow_add,Nat.mul_comm];exact (Nat.le_div_iff_mul_le hp).1 (h2 hk0)
theorem jU {n k:Nat} (h:n < 2 ^ k):bl n<=k:=by
 obtain ⟨h1,h2⟩:=cO n
 rcases Nat.lt_or_ge k (bl n) with hlt | hge
 ·have:=h2 (by omega)
  have h3:2 ^ k<=2 ^ (bl n - 1):=Nat.pow_le_pow_right (by omega) (by omega)
  omega
 ·exact hge
theorem runs_index {E:Env} {t:TypeId} (hu:E.P.underlying t=some .string) {s:ByteArray} {k:IntKind} {n:Int} {b:UInt8} (h0:0<=n) (hb:s.data[n.toNat]? = some b):bH E (Instr.index t (.string s) (.int k n)) (.int .u8 (b.toNat:Int)):=fun w _=>by
 have hs:s[n.toNat]? = some b:=by
  have hlt:=(Array.getElem?_eq_some_iff.1 hb).1
  obtain ⟨_,hv⟩:=Array.getElem?_eq_some_iff.1 hb
  rw [getElem?_pos s n.toNat hlt]
  exact congrArg some hv
 simp only [Instr.index,asIntOf,Sem.run_bind,Sem.run_pure,Result.andThen_ok,run_underlying hu,if_pos h0,hs]
def Lw (s:ByteArray):Bool:=(List.range 256).all fun n=>match s.data[n]? with
 | some b=>b.toNat == bl n
 | none=>false
theorem ME {s:ByteArray} (h:Lw s=true) {n:Nat} (hn:n < 256):∃ b,s.data[n]? = some b/\b.toNat=bl n:=by
 have:=List.all_eq_true.1 h n (by simpa using hn)
 split at this
 ·rename_i b hb;exact ⟨b,hb,by simpa using this⟩
 ·cases this
theorem po {E:Env} {t:TypeId} (hu:E.P.underlying t=some .string) {s:ByteArray} (hs:Lw s=true) {k:IntKind} {e:Int} (n:Nat) (he:e=n) (hn:n < 256):bH E (Instr.index t (.string s) (.int k e)) (.int .u8 (bl n:Int)):=by
 obtain ⟨b,hb,h2⟩:=ME hs hn
 subst he
 rw [<- h2]
 exact runs_index hu (by omega) hb
theorem K8 {n:Nat} (h:n < 256):bl n<=8:=jU (k:=8) h
theorem lr (x:Int):IntKind.u8.wrap x=x % 256:=by simp [IntKind.wrap,IntKind.bits,IntKind.signed]
theorem iJ (y s:Nat):((y:Int)).fdiv (2 ^ s)=((y / 2 ^ s:Nat):Int):=by rw [rG];simp
theorem sY (x:Nat) (hx:x < BB):ay Tryz.prog 269 [SV.c (.int .u32 x)] (.int .i64 (bl x)):=by
 rw [aR] at hx
 refine al ai ak Ql _ _ rfl rfl fun w=>?_
 have e16:((x:Int)).fdiv (2 ^ min (Int.toNat 16) IntKind.u32.bits)=((x / 65536:Nat):Int):=iJ x 16
 have e8:∀ y:Nat,((y:Int)).fdiv (2 ^ min (Int.toNat 8) IntKind.u32.bits)=((y / 256:Nat):Int):=fun y=>iJ y 8
 refine ⟨fun h=>⟨by decide,fun h2=>?_,fun h2=>?_⟩,fun h=>⟨fun h2=>?_,fun h2=>?_⟩⟩
 ·have h1:65536<=x:=by have:=af h;omega
  have h3:256<=x / 65536:=by rw [e16] at h2;have:=af h2;omega
  have hb:=K8 (n:=x / 65536 / 256) (by omega)
  refine ⟨by decide,_,po Tryz.underlying9 (by kernel_rfl) (x / 65536 / 256) (by rw [e16,e8,lr];omega) (by omega),iv ?_,trivial⟩
  rw [lm (s:=16) h1,lm (s:=8) h3]
  simp only [i64_in (x:=((16:Int)+8)) (by omega),i64_in (x:=(bl (x / 65536 / 256):Int)) (by omega)]
  rw [i64_in (by omega)]
  show _=((16+(8+bl (x / 65536 / 256)):Nat):Int)
  omega
 ·have h1:65536<=x:=by have:=af h;omega
  have h3:x / 65536 < 256:=by rw [e16] at h2;have:=ag h2;omega
  have hb:=K8 h3
  refine ⟨_,po Tryz.underlying9 (by kernel_rfl) (x / 65536) (by rw [e16,lr];omega) (by omega),iv ?_,trivial⟩
  rw [lm (s:=16) h1]
  simp only [i64_in (x:=(bl (x / 65536):Int)) (by omega)]
  rw [i64_in (by omega)]
  show _=((16+bl (x / 65536):Nat):Int)
  omega
 ·have h1:x < 65536:=by have:=ag h;omega
  have h3:256<=x:=by have:=af h2;omega
  have hb:=K8 (n:=x / 256) (by omega)
  refine ⟨by decide,_,po Tryz.underlying9 (by kernel_rfl) (x / 256) (by rw [e8,lr];omega) (by omega),iv ?_,trivial⟩
  rw [lm (s:=8) h3]
  simp only [i64_in (x:=((0:Int)+8)) (by omega),i64_in (x:=(bl (x / 256):Int)) (by omega)]
  rw [i64_in (by omega)]
  show _=((8+bl (x / 256):Nat):Int)
  omega
 ·have h1:x < 256:=by have:=ag h2;omega
  have hb:=K8 h1
  refine ⟨_,po Tryz.underlying9 (by kernel_rfl) x (by rw [lr];omega) (by omega),iv ?_,trivial⟩
  simp only [i64_in (x:=(bl x:Int)) (by omega)]
  rw [i64_in (by omega)]
  omega
theorem tK {N n:Nat} (hu:IsUsed N n) (h0:0 < n):bl N=32*(n - 1)+bl (dg N (n - 1))/\0 < bl (dg N (n - 1)):=by
 have hd:dg N (n - 1)≠0:=by
  intro h
  have:=qQ (i:=n - 1) (by rw [show n - 1+1=n by omega];exact hu.1) h
  have:=hu.2 h0
  omega
 have hk:0 < bl (dg N (n - 1)):=by unfold bl;rw [if_neg hd];omega
 exact ⟨Ma (Ar (by rw [show n - 1+1=n by omega];exact hu.1) hk (cO _)),hk⟩
theorem zn {N:Nat} (hN:N < BB ^ 32) (E:Env) (hE:E.P=Tryz.prog) (d:Key):Own E 221 [SV.ptr d 0] [(d,Blk.row 201 32 (mA N))] (SV.c (.int .i64 (bl N))) [(d,Blk.row 201 32 (mA N))]:=by
 obtain ⟨n,hn,hu⟩:=dr hN
 refine pd ai ak Q3 E hE d (201,32,mA N,mA N) [SV.ptr 1000 0] _ rfl rfl fun w b hO=>?_
 refine .inr ⟨_,_,_,iV hu hN _ rfl _,⟨rfl,trivial⟩,rfl,fun h=>?_,fun h=>?_⟩
 ·have h0:n=0:=by have:(n:Int)=0:=by simpa using h
                  omega
  subst h0
  have:N=0:=by have:=hu.1;simp at this;omega
  subst this
  exact ⟨rfl,rfl,trivial⟩
 ·have h0:0 < n:=by
    rcases Nat.eq_zero_or_pos n with e | e
    ·subst e;simp at h
    ·exact e
  have e1:IntKind.i64.wrap ((n:Int) - 1)=((n - 1:Nat):Int):=by rw [i64_in (by omega)];omega
  have hg:(mA N)[(IntKind.i64.wrap ((n:Int) - 1)).toNat]? = some (.int .u32 ((dg N (n - 1):Nat):Int)):=by rw [e1];exact bh (by omega)
  obtain ⟨hb,hb0⟩:=tK hu h0
  have hb2:bl (dg N (n - 1))<=32:=jU (aL _ _)
  refine ⟨by rw [e1];omega,by rw [e1];show ((n - 1:Nat):Int) < 32;omega,_,hg,.inl ⟨_,sY _ (aL _ _),iv ?_,rfl,trivial⟩⟩
  rw [e1,hb,i64_in (x:=(32:Int)*((n - 1:Nat):Int)) (by omega),i64_in (by omega)]
  omega
theorem CT {A:Array Value} {z:Int} (h:IsI A z):ay Tryz.prog 212 [SV.c (.agg A)] (.int .i64 (bl z.natAbs)):=by
 refine al ai ak Rd _ _ rfl rfl fun w=>?_
 exact ⟨h.size,.inl ⟨_,cZ h,aE _,.inr ⟨_,_,_,zn h.lt _ rfl _,⟨rfl,trivial⟩,rfl,rfl,trivial⟩⟩⟩
theorem Hc (n:Nat):Array.replicate n (Value.int .u32 0)=lA (fun _=>0) n:=by
 apply Array.ext_getElem?
 intro i
 by_cases h:i < n
 ·rw [bG _ h];simp [h]
 ·rw [Array.getElem?_eq_none (by simp;omega),Array.getElem?_eq_none (by simp [fC];omega)]
theorem Ie {N i:Nat} (h:N < 18446744073709551616) (hi:2<=i):dg N i=0:=ce (n:=2) (by rw [show BB ^ 2=18446744073709551616 from by decide];exact h) hi
theorem wz {N:Nat} (hN:N < 18446744073709551616) {a b:Int} (ha:a=(N:Int) % 4294967296) (hb:b=(N:Int) / 4294967296):Instr.fill (fun k=>some (k*1,1)) (Array.replicate 32 (Value.int .u32 0)) [(0,.int .u32 a),(1,.int .u32 b)]=some (mA N):=by
 have e:Instr.fill (fun k=>some (k*1,1)) (Array.replicate 32 (Value.int .u32 0)) [(0,.int .u32 a),(1,.int .u32 b)]=some (((Array.replicate 32 (Value.int .u32 0)).setIfInBounds 0 (.int .u32 a)).setIfInBounds 1 (.int .u32 b)):=rfl
 have e0:a=((dg N 0:Nat):Int):=by rw [ha];simp [dg,aR]
 have e1:b=((dg N 1:Nat):Int):=by rw [hb];simp only [dg,aR,Nat.pow_one];omega
 rw [e,e0,e1,Hc,kY,kY]
 refine dQ (aN fun i hi=>?_)
 by_cases h1:i=1
 ·simp [h1]
 ·by_cases h0:i=0
  ·simp [h0]
  ·rw [if_neg h1,if_neg h0,Ie hN (by omega)]
theorem jP:18446744073709551616<=BB ^ 32:=by rw [show 18446744073709551616=BB ^ 2 from by decide];exact Nat.pow_le_pow_right bI (by omega)
theorem Mo (n:Int):zN (decide (n < 0)) n.natAbs=n:=by
 unfold zN
 by_cases h:n < 0
 ·simp [h];omega
 ·simp [h];omega
theorem eD (n:Int) (h1 : -9223372036854775808<=n) (h2:n<=9223372036854775807):ay Tryz.prog 103 [SV.c (.int .i64 n)] (.agg (eA n)):=by
 refine al ai ak ST _ _ rfl rfl fun w=>?_
 have hN:n.natAbs < 18446744073709551616:=by omega
 have key:ay Tryz.prog 167 [SV.c (.bool (decide (n < 0))),SV.c (.agg (mA n.natAbs))] (.agg (eA n)):=by
  have:=jD (decide (n < 0)) n.natAbs (Nat.lt_of_lt_of_le hN jP)
  rwa [Mo] at this
 refine ⟨fun h=>?_,fun h=>?_⟩
 ·have hn:=af h
  have e:IntKind.u64.wrap (0 - IntKind.u64.wrap n)=((n.natAbs:Nat):Int):=by simp only [dL];omega
  refine ⟨by decide,mA n.natAbs,wz hN (by rw [e,bM]) (by rw [e,iJ,bM];show ((n.natAbs / 4294967296:Nat):Int) % _=_;omega),.inl ⟨_,key,am _,rfl,trivial⟩⟩
 ·have hn:=ag h
  have e:IntKind.u64.wrap n=((n.natAbs:Nat):Int):=by simp only [dL];omega
  refine ⟨by decide,mA n.natAbs,wz hN (by rw [e,bM]) (by rw [e,iJ,bM];show ((n.natAbs / 4294967296:Nat):Int) % _=_;omega),.inl ⟨_,key,am _,rfl,trivial⟩⟩
def eI (z:Int):Value:=if z.natAbs < BB ^ 32 then .tuple #[.agg (eA z),.int .i64 0] else .tuple #[.agg (eA 0),.int .i64 10]
theorem BC:eW.zero=eA 0:=rfl
theorem sQ {a b:Bool} (h:(a != b)=true):a=!b:=by cases a<;>cases b<;>simp_all
theorem rT {x y:Int} (h:decide (x < 0)=!decide (y < 0)):(x.natAbs < y.natAbs->zN (decide (y < 0)) (y.natAbs - x.natAbs)=x+y)/\(¬ x.natAbs < y.natAbs->zN (decide (x < 0)) (x.natAbs - y.natAbs)=x+y):=by
 unfold zN
 by_cases hx:x < 0<;>by_cases hy:y < 0<;>simp [hx,hy] at h ⊢<;>omega
theorem jn {x y:Int} (h:decide (x < 0)=decide (y < 0)):(x+y).natAbs=x.natAbs+y.natAbs/\zN (decide (x < 0)) (x.natAbs+y.natAbs)=x+y:=by
 unfold zN
 by_cases hx:x < 0<;>by_cases hy:y < 0<;>simp [hx,hy] at h ⊢<;>omega
theorem lj (a b:Nat):decide (jK a b < 0)=decide (a < b):=by
 unfold jK
 by_cases h:a < b
 ·simp [h]
 ·by_cases h2:b < a<;>simp [h,h2]
theorem CX {A B:Array Value} {x y:Int} (hA:IsI A x) (hB:IsI B y):ay Tryz.prog 219 [SV.c (.agg A),SV.c (.agg B)] (eI (x+y)):=by
 refine al ai ak Q6 _ _ rfl rfl fun w=>?_
 have hx:=hA.lt
 have hy:=hB.lt
 refine ⟨hA.size,hB.size,.inl ⟨_,cZ hA,aE _,.inl ⟨_,cZ hB,aE _,fun h=>.inr ⟨_,_,_,li hx hy _ rfl _ _ (by decide),⟨rfl,rfl,trivial⟩,rfl,fun h2=>?_,fun h2=>?_⟩,fun h=>.inr ⟨_,_,_,xN hx hy _ rfl _ _ (by decide),⟨rfl,rfl,trivial⟩,rfl,aE _,fun h2=>?_,fun h2=>?_⟩⟩⟩⟩
 ·rw [lj] at h2
  have hlt:=af h2
  have e:=(rT (sQ h)).1 hlt
  refine .inr ⟨_,_,_,qN hy (Nat.le_of_lt hlt) _ rfl _ _ (by decide),⟨rfl,rfl,trivial⟩,rfl,.inl ⟨_,jD _ _ (Nat.lt_of_le_of_lt (Nat.sub_le _ _) hy),am _,?_,trivial⟩⟩
  have hb:(x+y).natAbs < BB ^ 32:=by rw [<- e,bt];exact Nat.lt_of_le_of_lt (Nat.sub_le _ _) hy
  rw [e,eI,if_pos hb];rfl
 ·rw [lj] at h2
  have hlt:=ag h2
  have e:=(rT (sQ h)).2 hlt
  refine .inr ⟨_,_,_,qN hx (Nat.le_of_not_lt hlt) _ rfl _ _ (by decide),⟨rfl,rfl,trivial⟩,rfl,.inl ⟨_,jD _ _ (Nat.lt_of_le_of_lt (Nat.sub_le _ _) hx),am _,?_,trivial⟩⟩
  have hb:(x+y).natAbs < BB ^ 32:=by rw [<- e,bt];exact Nat.lt_of_le_of_lt (Nat.sub_le _ _) hx
  rw [e,eI,if_pos hb];rfl
 ·have h2:¬ (x.natAbs+y.natAbs < BB ^ 32):=by simpa using h2
  have h1:decide (x < 0)=decide (y < 0):=by simpa using h
  refine ⟨eA 0,dQ rfl,am _,?_,trivial⟩
  rw [eI,if_neg (by rw [(jn h1).1];exact h2)];rfl
 ·have h2:x.natAbs+y.natAbs < BB ^ 32:=by simpa using h2
  have h1:decide (x < 0)=decide (y < 0):=by simpa using h
  have e:=(jn h1).2
  rw [Nat.mod_eq_of_lt h2]
  refine .inl ⟨_,jD _ _ h2,am _,?_,trivial⟩
  rw [e,eI,if_pos (by rw [(jn h1).1];exact h2)];rfl
theorem ci {x:Int} (h:0<=x/\x < 18446744073709551616):IntKind.u64.wrap x=x:=by rw [dL];omega
theorem eU {x:Int} (h:0<=x/\x < 4294967296):IntKind.u32.wrap x=x:=by rw [bM];omega
theorem LN {a b c d:Nat} (ha:a < BB) (hb:b < BB) (hc:c < BB) (hd:d < BB) :
    IntKind.u64.wrap (IntKind.u64.wrap (IntKind.u64.wrap (IntKind.u64.wrap (a:Int)*IntKind.u64.wrap (b:Int))+IntKind.u64.wrap (c:Int))+(d:Int))=((a*b+c+d:Nat):Int):=by
 have h:=qM ha hb hc hd
 rw [aR] at *
 have e:((a:Int)*b)=((a*b:Nat):Int):=by simp
 rw [ci (x:=(a:Int)) (by omega),ci (x:=(b:Int)) (by omega),ci (x:=(c:Int)) (by omega),e]
 generalize a*b=p at *
 rw [ci (x:=(p:Int)) (by omega),ci (x:=(p:Int)+c) (by omega),ci (by omega)]
 omega
theorem cw {G:Nat->Nat} {n i v:Nat} {x y:Int} (hx:x=(i:Nat)) (hy:y=(v:Nat)):(lA G n).setIfInBounds x.toNat (.int .u32 y)=lA (fun k=>if k=i then v else G k) n:=by
 subst hx;subst hy;exact kY G n i v
theorem BH (x:Nat):((x:Int)).fdiv (2 ^ 32)=((x / BB:Nat):Int):=by rw [iJ x 32];rfl
theorem sZ (F:Nat->Nat) {n off k:Nat} (h:off+k<=n):(lA F n).extract off (off+k)=lA (fun i=>F (off+i)) k:=by
 apply Array.ext_getElem?
 intro i
 rw [Array.getElem?_extract]
 by_cases hi:i < k
 ·rw [bG _ hi,if_pos (by rw [fC];omega),bG F (by omega)]
 ·rw [if_neg (by rw [fC];omega),Array.getElem?_eq_none (by rw [fC];omega)]
theorem Dd {N M:Nat} (hN:N < BB ^ 32) (hM:M < BB ^ 32) (E:Env) (hE:E.P=Tryz.prog) (d e:Key) (hde:d≠e):Own E 216 [SV.ptr d 0,SV.ptr e 0] [(d,Blk.row 201 32 (mA N)),(e,Blk.row 201 32 (mA M))] (SV.c (.tuple #[.agg (mA ((N*M) % BB ^ 32)),.bool (decide (N*M < BB ^ 32))])) [(d,Blk.row 201 32 (mA N)),(e,Blk.row 201 32 (mA M))]:=by
 obtain ⟨n,hn,hu⟩:=dr hN
 obtain ⟨m,hm,hv⟩:=dr hM
 refine rE ai ak Q9 E hE d e hde (201,32,mA N,mA N) (201,32,mA M,mA M) [SV.ptr 1000 0,SV.ptr 1001 0] _ rfl rfl fun w b b' hO=>?_
 refine .inr ⟨_,_,_,iV hu hN _ rfl _,⟨rfl,trivial⟩,rfl,.inr ⟨_,_,_,iV hv hM _ rfl _,⟨rfl,trivial⟩,rfl,?_⟩⟩
 refine ⟨fun q f mm=>∃ (i:Nat) (F:Nat->Nat),q=n - i/\i<=n/\MulO N M m i F/\f=[(0,SV.ptr 1000 0),(1,SV.ptr 1001 0),(4,SV.ptr 4 0),(5,SV.c (.bool false)),(6,SV.ptr 6 0),(8,SV.c (.int .i64 m)),(17,SV.c (.int .i64 n)),(18,SV.c (.int .i64 i))]/\mm=[(1000,Blk.row 201 32 (mA N)),(1001,Blk.row 201 32 (mA M)),(4,Blk.row 201 32 (lA (fun _=>0) 32)),(6,Blk.row 219 64 (lA F 64))],n,⟨_,_,⟨0,fun _=>0,rfl,Nat.zero_le _,MulO.start N M m,rfl,rfl⟩,⟨rfl,rfl,rfl,rfl,rfl,rfl,rfl,rfl,trivial⟩,⟨rfl,rfl,rfl,rfl,trivial⟩,rfl⟩,?_⟩
 rintro q f mm ⟨i,F,rfl,hi,hF,rfl,rfl⟩
 refine ⟨fun h=>?_,fun h=>?_⟩
 ·have hin:i < n:=by have:=af h;omega
  refine ⟨fun q f mm=>∃ (j c:Nat) (G:Nat->Nat),q=m - j/\j<=m/\MulI N M m i j F G c/\f=[(0,SV.ptr 1000 0),(1,SV.ptr 1001 0),(4,SV.ptr 4 0),(5,SV.c (.bool false)),(6,SV.ptr 6 0),(8,SV.c (.int .i64 m)),(17,SV.c (.int .i64 n)),(18,SV.c (.int .i64 i)),(9,SV.c (.int .i64 i)),(10,SV.c (.int .u64 c)),(21,SV.c (.int .i64 m)),(22,SV.c (.int .i64 j))]/\mm=[(1000,Blk.row 201 32 (mA N)),(1001,Blk.row 201 32 (mA M)),(4,Blk.row 201 32 (lA (fun _=>0) 32)),(6,Blk.row 219 64 (lA G 64))],m,⟨_,_,⟨0,0,F,rfl,Nat.zero_le _,hF.row,rfl,rfl⟩,⟨rfl,rfl,rfl,rfl,rfl,rfl,rfl,rfl,rfl,rfl,rfl,rfl,trivial⟩,⟨rfl,rfl,rfl,rfl,trivial⟩,rfl⟩,?_⟩
  rintro q f mm ⟨j,c,G,rfl,hj,hG,rfl,rfl⟩
  refine ⟨fun h2=>?_,fun h2=>?_⟩
  ·have hjm:j < m:=by have:=af h2;omega
   have e1:IntKind.i64.wrap ((i:Int)+j)=((i+j:Nat):Int):=by rw [i64_in (by omega)];omega
   have gN:=bh (N:=N) (show i < 32 by omega)
   have gM:=bh (N:=M) (show j < 32 by omega)
   have gC:(lA G 64)[(IntKind.i64.wrap ((i:Int)+j)).toNat]? = some (.int .u32 (G (i+j):Nat)):=by rw [e1];exact bG G (by omega)
   have eM:=LN (aL N i) (aL M j) (hG.lt (i+j)) hG.carry
   have hlt:=qM (aL N i) (aL M j) (hG.lt (i+j)) hG.carry
   refine ⟨by omega,by show (i:Int) < 32;omega,_,gN,by omega,by show (j:Int) < 32;omega,_,gM,by rw [e1];omega,by rw [e1];show ((i+j:Nat):Int) < 64;omega,_,gC,by kernel_rfl,by decide,by rw [e1];omega,by rw [e1];show ((i+j:Nat):Int) < 64;omega,by rw [e1];show i+j < 64;omega,rfl,_,cw e1 (v:=(dg N i*dg M j+G (i+j)+c) % BB) (by rw [eM,bM,aR];rfl),?_⟩
   refine ⟨m - (j+1),_,_,by omega,⟨j+1,_,_,rfl,by omega,hG.step,rfl,rfl⟩,⟨rfl,rfl,rfl,rfl,rfl,rfl,rfl,rfl,rfl,?_,rfl,ar (by rw [i64_in (by omega)];rfl),trivial⟩,⟨rfl,rfl,rfl,rfl,trivial⟩,rfl⟩
   exact ar (by rw [eM];exact BH _)
  ·have:j=m:=by have:=ag h2;omega
   subst this
   have e1:IntKind.i64.wrap ((i:Int)+j)=((i+j:Nat):Int):=by rw [i64_in (by omega)];omega
   have hcc:=hG.carry
   rw [aR] at hcc
   refine ⟨by rw [e1];omega,by rw [e1];show ((i+j:Nat):Int) < 64;omega,by rw [e1];show i+j < 64;omega,rfl,_,cw e1 (v:=c) (eU (by omega)),?_⟩
   exact ⟨n - (i+1),_,_,by omega,⟨i+1,_,rfl,by omega,hG.done hF hv.1,rfl,rfl⟩,⟨rfl,rfl,rfl,rfl,rfl,rfl,rfl,ar (by rw [i64_in (by omega)];rfl),trivial⟩,⟨rfl,rfl,rfl,rfl,trivial⟩,rfl⟩
 ·have:i=n:=by have:=ag h;omega
  subst this
  obtain ⟨h1,h2,h3⟩:=BZ hF.lt (hF.full hu.1 (by omega))
  have e1:(lA F 64).extract 0 (0+32)=mA ((N*M) % BB ^ 32):=by
   rw [sZ F (by omega)]
   exact aN fun k hk=>by rw [Nat.zero_add];exact h1 k hk
  have e2:(lA F 64).extract 32 (32+32)=mA ((N*M) / BB ^ 32):=by
   rw [sZ F (by omega)]
   exact aN fun k hk=>h2 k hk
  refine ⟨by decide,by decide,by decide,by decide,by decide,by decide,_,e1,by decide,by decide,by decide,by decide,by decide,by decide,_,e2,mA 0,dQ fB,_,wB rfl h3 bJ,aE _,by kernel_rfl,kL rfl (bv ?_),rfl,rfl,trivial⟩
  rw [Bool.eq_iff_iff]
  simp only [decide_eq_true_eq]
  exact Nat.div_eq_zero_iff_lt (bi 32)
theorem Mn (x y:Int):zN (decide (x < 0) != decide (y < 0)) (x.natAbs*y.natAbs)=x*y:=by
 unfold zN
 rw [Int.natCast_mul]
 by_cases hx:x < 0<;>by_cases hy:y < 0
 ·have h1:(x.natAbs:Int)=-x:=by omega
  have h2:(y.natAbs:Int)=-y:=by omega
  simp [hx,hy,h1,h2,Int.neg_mul,Int.mul_neg]
 ·have h1:(x.natAbs:Int)=-x:=by omega
  have h2:(y.natAbs:Int)=y:=by omega
  simp [hx,hy,h1,h2,Int.neg_mul]
 ·have h1:(x.natAbs:Int)=x:=by omega
  have h2:(y.natAbs:Int)=-y:=by omega
  simp [hx,hy,h1,h2,Int.mul_neg]
 ·have h1:(x.natAbs:Int)=x:=by omega
  have h2:(y.natAbs:Int)=y:=by omega
  simp [hx,hy,h1,h2]
theorem GI {A B:Array Value} {x y:Int} (hA:IsI A x) (hB:IsI B y):ay Tryz.prog 166 [SV.c (.agg A),SV.c (.agg B)] (eI (x*y)):=by
 refine al ai ak RO _ _ rfl rfl fun w=>?_
 have hx:=hA.lt
 have hy:=hB.lt
 have hab:(x*y).natAbs=x.natAbs*y.natAbs:=Int.natAbs_mul x y
 refine ⟨hA.size,hB.size,.inl ⟨_,cZ hA,aE _,.inl ⟨_,cZ hB,aE _,.inr ⟨_,_,_,Dd hx hy _ rfl _ _ (by decide),⟨rfl,rfl,trivial⟩,rfl,aE _,fun h2=>?_,fun h2=>?_⟩⟩⟩⟩
 ·have h2:¬ (x.natAbs*y.natAbs < BB ^ 32):=by simpa using h2
  exact ⟨eW.zero,rfl,by rw [BC];exact am _,by rw [eI,if_neg (by rw [hab];exact h2),<- BC];rfl,trivial⟩
 ·have h2:x.natAbs*y.natAbs < BB ^ 32:=by simpa using h2
  have hm:ay Tryz.prog 167 [SV.c (.bool (decide (x < 0) != decide (y < 0))),SV.c (.agg (mA (x.natAbs*y.natAbs % BB ^ 32)))] (.agg (eA (x*y))):=by
   rw [Nat.mod_eq_of_lt h2,<- Mn];exact jD _ _ h2
  exact .inl ⟨_,hm,am _,by rw [eI,if_pos (by rw [hab];exact h2)];rfl,trivial⟩
theorem TP {A B:Nat} (hA:A < 18446744073709551616) (hB:B < 18446744073709551616):IntKind.u64.wrap (((BitVec.ofInt IntKind.u64.bits (A:Int) ||| BitVec.ofInt IntKind.u64.bits (B:Int)).toNat:Nat):Int)=((A ||| B:Nat):Int):=by
 have h:A ||| B < 18446744073709551616:=Nat.or_lt_two_pow (n:=64) hA hB
 rw [BitVec.toNat_or,BitVec.ofInt_natCast,BitVec.ofInt_natCast,BitVec.toNat_ofNat,BitVec.toNat_ofNat]
 show IntKind.u64.wrap (((A % 18446744073709551616 ||| B % 18446744073709551616:Nat)):Int)=_
 rw [Nat.mod_eq_of_lt hA,Nat.mod_eq_of_lt hB,ci (by omega)]
theorem DC {A B:Nat} (hA:A < 4294967296) (hB:B < 4294967296):IntKind.u32.wrap (((BitVec.ofInt IntKind.u32.bits (A:Int) ||| BitVec.ofInt IntKind.u32.bits (B:Int)).toNat:Nat):Int)=((A ||| B:Nat):Int):=by
 have h:A ||| B < 4294967296:=Nat.or_lt_two_pow (n:=32) hA hB
 rw [BitVec.toNat_or,BitVec.ofInt_natCast,BitVec.ofInt_natCast,BitVec.toNat_ofNat,BitVec.toNat_ofNat]
 show IntKind.u32.wrap (((A % 4294967296 ||| B % 4294967296:Nat)):Int)=_
 rw [Nat.mod_eq_of_lt hA,Nat.mod_eq_of_lt hB,eU (by omega)]
theorem D0 {h l:Nat} {x y:Int} (hh:h < BB) (hl:l < BB) (hx:x=IntKind.u64.wrap (IntKind.u64.wrap (h:Int)*2 ^ min (Int.toNat 32) IntKind.u64.bits)) (hy:y=IntKind.u64.wrap (l:Int)) :
    IntKind.u64.wrap (((BitVec.ofInt IntKind.u64.bits x ||| BitVec.ofInt IntKind.u64.bits y).toNat:Nat):Int)=((h*BB+l:Nat):Int):=by
 rw [aR] at *
 have e1:x=((h*4294967296:Nat):Int):=by
  rw [hx,ci (x:=(h:Int)) (by omega)]
  show IntKind.u64.wrap ((h:Int)*4294967296)=_
  rw [ci (by omega)];omega
 have e2:y=(l:Int):=by rw [hy,ci (by omega)]
 rw [e1,e2,TP (by omega) (by omega),show 4294967296=2 ^ 32 from rfl,JW hl]
theorem AV (x y z:Nat) (hx:x < z) (hy:y < BB) (hz:z < BB):ay Tryz.prog 290 [SV.c (.int .u32 x),SV.c (.int .u32 y),SV.c (.int .u32 z)] (.tuple #[.int .u32 ((x*BB+y) / z:Nat),.int .u32 ((x*BB+y) % z:Nat)]):=by
 refine al ai ak Qf _ _ rfl rfl fun w=>?_
 have hxb:x < BB:=by omega
 have hq:(x*BB+y) / z < BB:=by
  rw [Nat.div_lt_iff_lt_mul (by omega)]
  have:(x+1)*BB<=z*BB:=Nat.mul_le_mul_right _ hx
  rw [Nat.mul_comm BB];rw [Nat.add_mul,Nat.one_mul] at this;omega
 have hr:(x*BB+y) % z < z:=Nat.mod_lt _ (by omega)
 have hlt:x*BB+y < BB*BB:=by
  have:(x+1)*BB<=BB*BB:=Nat.mul_le_mul_right _ hxb
  rw [Nat.add_mul,Nat.one_mul] at this;omega
 have key:=D0 hxb hy rfl rfl
 have e3:IntKind.u64.wrap (z:Int)=z:=by rw [aR] at hz;exact ci (by omega)
 refine ⟨fun h1=>⟨fun h2=>?_,fun h2=>?_⟩,fun h1=>?_⟩
 ·exfalso
  have:=af h2
  omega
 ·have hz0:IntKind.u64.wrap (z:Int)≠0:=by rw [e3];omega
  refine ⟨by decide,hz0,hz0,by kernel_rfl,kL (iv ?_) (iv ?_),trivial⟩
  ·rw [key,e3,<- Int.ofNat_tdiv]
   clear key e3 hr
   generalize (x*BB+y) / z=q at *
   rw [aR] at hq
   rw [ci (by omega),eU (by omega)]
  ·rw [key,e3,<- Int.ofNat_tmod,eU (by clear key e3;rw [aR] at *;omega)]
 ·exfalso
  have:(z:Int)=0:=by simpa using h1
  omega
theorem us {N x:Nat} (hN:N < BB ^ 32) (hx:x < BB) (hx0:0 < x) (E:Env) (hE:E.P=Tryz.prog) (d:Key):Own E 256 [SV.ptr d 0,SV.c (.int .u32 x)] [(d,Blk.row 201 32 (mA N))] (SV.c (.int .u32 (N % x:Nat))) [(d,Blk.row 201 32 (mA (N / x)))]:=by
 obtain ⟨n,hn,hu⟩:=dr hN
 refine pd ai ak Qy E hE d (201,32,mA N,mA (N / x)) [SV.ptr 1000 0,SV.c (.int .u32 x)] _ rfl rfl fun w b hO=>?_
 refine .inr ⟨_,_,_,iV hu hN _ rfl _,⟨rfl,trivial⟩,rfl,?_⟩
 have e0:IntKind.i64.wrap ((n:Int) - 1)=(n:Int) - 1:=i64_in (by omega)
 refine ⟨fun k f m=>k<=n/\f=[(0,SV.ptr 1000 0),(1,SV.c (.int .u32 x)),(4,SV.c (.int .u32 0)),(5,SV.c (.int .u32 (N / BB ^ k % x:Nat))),(6,SV.c (.int .i64 ((k:Int) - 1)))]/\m=[(1000,Blk.row 201 32 (lA (fun j=>if j < k then dg N j else dg (N / x) j) 32))],n,⟨_,_,⟨Nat.le_refl _,rfl,rfl⟩,⟨rfl,rfl,rfl,ar ?_,ar e0,trivial⟩,⟨bk ?_,trivial⟩,rfl⟩,?_⟩
 ·rw [Nat.div_eq_of_lt hu.1,Nat.zero_mod];rfl
 ·refine aN fun i hi=>?_
  by_cases h:i < n
  ·rw [if_pos h]
  ·rw [if_neg h,ce hu.1 (by omega),Es hu.1 (by omega)]
 rintro k f m ⟨hk,rfl,rfl⟩
 refine ⟨fun h=>?_,fun h=>?_⟩
 ·have h1:(k:Int) - 1 >= 0:=af h
  obtain ⟨j,rfl⟩:∃ j,k=j+1:=⟨k - 1,by omega⟩
  have ej:((j+1:Nat):Int) - 1=(j:Nat):=by omega
  have hg:(lA (fun i=>if i < j+1 then dg N i else dg (N / x) i) 32)[(((j+1:Nat):Int) - 1).toNat]? = some (.int .u32 (dg N j:Nat)):=by
   rw [ej,Int.toNat_natCast,bG _ (by omega),if_pos (by omega)]
  have hr:N / BB ^ (j+1) % x < x:=Nat.mod_lt _ hx0
  refine ⟨h1,by show ((j+1:Nat):Int) - 1 < 32;omega,_,hg,.inl ⟨_,AV _ _ x hr (aL N j) hx,h1,by show ((j+1:Nat):Int) - 1 < 32;omega,by show (((j+1:Nat):Int) - 1).toNat < 32;omega,rfl,_,cw ej rfl,by kernel_rfl,?_⟩⟩
  refine ⟨j,_,_,by omega,⟨by omega,rfl,rfl⟩,⟨rfl,rfl,rfl,ar (by rw [BI N x j]),ar (by rw [i64_in (by omega)];omega),trivial⟩,⟨bk (aN fun i hi=>?_),trivial⟩,rfl⟩
  rw [<- BJ N x j hx0]
  by_cases e:i=j
  ·subst e;simp
  ·by_cases e2:i < j
   ·simp [e,e2,show i < j+1 by omega]
   ·simp [e,e2,show ¬ i < j+1 by omega]
 ·have h1:¬ ((k:Int) - 1 >= 0):=ag h
  obtain rfl:k=0:=by omega
  exact ⟨by rw [Nat.pow_zero,Nat.div_one];rfl,bk (aN fun i hi=>by simp),trivial⟩
theorem DR (x:Nat) (hx:x < BB):ay Tryz.prog 257 [SV.c (.int .u32 x)] (.int .i64 ((32 - bl x:Nat):Int)):=by
 refine al ai ak Qx _ _ rfl rfl fun w=>?_
 have h:bl x<=32:=jU (k:=32) hx
 exact .inl ⟨_,sY x hx,iv (by rw [i64_in (by omega)];omega),trivial⟩
theorem TT {M n:Nat} (hu:IsUsed M n) (hn:1<=n):∃ s,32 - bl (dg M (n - 1))=s/\s < 32/\M*2 ^ s < BB ^ n/\2147483648<=dg (M*2 ^ s) (n - 1):=by
 obtain ⟨h1,h2⟩:=tK hu hn
 have h3:bl (dg M (n - 1))<=32:=jU (k:=32) (aL _ _)
 obtain ⟨h4,h5⟩:=cO M
 have h5:=h5 (by omega)
 rw [h1] at h4 h5
 generalize bl (dg M (n - 1))=b at *
 have hV:M*2 ^ (32 - b) < BB ^ n:=by
  rw [oF,show 32*n=(32*(n - 1)+b)+(32 - b) by omega,Nat.pow_add]
  exact Nat.mul_lt_mul_of_pos_right h4 (Nat.pow_pos (by omega))
 refine ⟨32 - b,rfl,by omega,hV,?_⟩
 rw [wG hV hn,Nat.le_div_iff_mul_le (bi _),oF,show 2147483648=2 ^ 31 from rfl,<- Nat.pow_add,show 31+32*(n - 1)=(32*(n - 1)+b - 1)+(32 - b) by omega,Nat.pow_add]
 exact Nat.mul_le_mul_right _ h5
abbrev z0:Nat->Nat:=fun _=>0
abbrev dF (n m s:Nat) (x:bB):bB:=(0,SV.ptr 1000 0) :: (1,SV.ptr 1001 0) :: (4,SV.ptr 4 0) :: (5,SV.ptr 5 0) :: (6,SV.c (.int .i64 n)) :: (7,SV.c (.int .i64 m)) :: (8,SV.c (.int .i64 s)) :: (9,SV.ptr 9 0) :: (10,SV.ptr 10 0) :: x
abbrev dR (N M:Nat) (q r u v:Nat->Nat):aA:=[(1000,Blk.row 201 32 (mA N)),(1001,Blk.row 201 32 (mA M)),(4,Blk.row 201 32 (lA q 32)),(5,Blk.row 201 32 (lA r 32)),(9,Blk.row 270 33 (lA u 33)),(10,Blk.row 201 32 (lA v 32))]
abbrev dM (N M:Nat) (q u v:Nat->Nat):aA:=[(1000,Blk.row 201 32 (mA N)),(1001,Blk.row 201 32 (mA M)),(4,Blk.row 201 32 (lA q 32)),(5,Blk.row 201 32 (lA z0 32)),(9,Blk.row 270 33 (lA u 33)),(10,Blk.row 201 32 (lA v 32))]
theorem pS {G:Nat->Nat} {n i v:Nat} {F:Nat->Nat} {x y:Int} (hx:x=(i:Nat)) (hy:y=(v:Nat)) (h:∀ k,k < n->F k=if k=i then v else G k):(lA G n).setIfInBounds x.toNat (.int .u32 y)=lA F n:=by
 rw [cw hx hy];exact aN fun k hk=>(h k hk).symm
theorem pi (a s:Nat) (hs:s < 32):IntKind.u32.wrap ((a:Int)*2 ^ min (Int.toNat (s:Int)) IntKind.u32.bits)=((a*2 ^ s % 4294967296:Nat):Int):=by
 have e:min (Int.toNat (s:Int)) IntKind.u32.bits=s:=by
  show min (Int.toNat (s:Int)) 32=s
  rw [Int.toNat_natCast];omega
 rw [e,bM]
 have:(a:Int)*2 ^ s=((a*2 ^ s:Nat):Int):=by simp
 rw [this]
 omega
theorem ph (a s:Nat) (hs:s<=32) {x:Int} (hx:x=(s:Nat)):((a:Int)).fdiv (2 ^ min (Int.toNat x) IntKind.u32.bits)=((a / 2 ^ s:Nat):Int):=by
 subst hx
 have e:min (Int.toNat (s:Int)) IntKind.u32.bits=s:=by
  show min (Int.toNat (s:Int)) 32=s
  rw [Int.toNat_natCast];omega
 rw [e];exact iJ a s
theorem LX {h l:Nat} {x y:Int} (hh:h < BB) (hl:l < BB) (hx:x=IntKind.u64.wrap ((h:Int)*2 ^ min (Int.toNat 32) IntKind.u64.bits)) (hy:y=IntKind.u64.wrap (l:Int)) :
    IntKind.u64.wrap (((BitVec.ofInt IntKind.u64.bits x ||| BitVec.ofInt IntKind.u64.bits y).toNat:Nat):Int)=((h*BB+l:Nat):Int):=by
 refine D0 hh hl ?_ hy
 rw [hx,ci (x:=(h:Int)) (by rw [aR] at hh;omega)]
theorem wh {g x:Nat} (hg:g<=4294967295) (hx:x < BB):IntKind.u64.wrap ((g:Int)*x)=((g*x:Nat):Int):=by
 have h1:g*x<=4294967295*4294967295:=Nat.mul_le_mul hg (by rw [aR] at hx;omega)
 have e:((g:Int)*x)=((g*x:Nat):Int):=by simp
 rw [e,ci (by omega)]
theorem tA {N M:Nat} (hN:N < BB ^ 32) (hM:M < BB ^ 32) (hM0:0 < M) (E:Env) (hE:E.P=Tryz.prog) (d e:Key) (hde:d≠e):Own E 214 [SV.ptr d 0,SV.ptr e 0] [(d,Blk.row 201 32 (mA N)),(e,Blk.row 201 32 (mA M))] (SV.c (.tuple #[.agg (mA (N / M)),.agg (mA (N % M))])) [(d,Blk.row 201 32 (mA N)),(e,Blk.row 201 32 (mA M))]:=by
 obtain ⟨n,hn,hu⟩:=dr hM
 obtain ⟨m,hm,hv⟩:=dr hN
 have hn0:1<=n:=by
  rcases Nat.eq_zero_or_pos n with e | e
  ·subst e;have:=hu.1;simp at this;omega
  ·exact e
 refine xe [13,17,22,19,24,34,53,54,60] ai ak Rb E hE d e hde (201,32,mA N,mA N) (201,32,mA M,mA M) [SV.ptr 1000 0,SV.ptr 1001 0] _ rfl rfl fun w b b' hO=>?_
 refine .inr ⟨_,_,_,iV hu hM _ rfl _,⟨rfl,trivial⟩,rfl,.inr ⟨_,_,_,iV hv hN _ rfl _,⟨rfl,trivial⟩,rfl,.inr ⟨_,_,_,li hN hM _ rfl _ _ (by decide),⟨rfl,rfl,trivial⟩,rfl,fun h1=>?_,fun h1=>⟨fun h2=>?_,fun h2=>?_⟩⟩⟩⟩
 ·rw [lj] at h1
  have hlt:=af h1
  rw [Nat.div_eq_of_lt hlt,Nat.mod_eq_of_lt hlt]
  exact ⟨mA 0,dQ fB,aE _,aE _,rfl,rfl,rfl,trivial⟩
 ·have h3:n=1:=by have:(n:Int)=1:=by simpa using h2
                  omega
  subst h3
  have hMB:M < BB:=by simpa using hu.1
  have e0:dg M 0=M:=by simp only [dg,Nat.pow_zero,Nat.div_one];exact Nat.mod_eq_of_lt hMB
  have hg:(mA M)[0]? = some (.int .u32 (M:Nat)):=by rw [bh (by omega),e0]
  refine ⟨aE _,by decide,by decide,_,hg,.inr ⟨_,_,_,us hN hMB hM0 _ rfl _,⟨rfl,trivial⟩,rfl,by decide,by decide,by decide,rfl,mA (N % M),?_,aE _,aE _,by kernel_rfl,rfl,rfl,rfl,trivial⟩⟩
  have hr:N % M < BB:=Nat.lt_trans (Nat.mod_lt _ hM0) hMB
  refine Eq.trans (pS (G:=z0) (n:=32) (i:=0) (v:=N % M) (F:=dg (N % M)) (x:=0) rfl rfl fun k hk=>?_) rfl
  by_cases hk0:k=0
  ·subst hk0;rw [if_pos rfl];simp only [dg,Nat.pow_zero,Nat.div_one];exact Nat.mod_eq_of_lt hr
  ·rw [if_neg hk0];exact ce (n:=1) (by simpa using hr) (by omega)
 ·have hNM:M<=N:=by
    have:=ag h1
    unfold jK at this
    by_cases h:N < M
    ·simp [h] at this
    ·omega
  have hn2:2<=n:=by
   have:n≠1:=by intro h;subst h;simp at h2
   omega
  have hnm:n<=m:=by
   have h5:=hu.2 (by omega)
   have h6:BB ^ (n - 1) < BB ^ m:=by have:=hv.1;omega
   have:=(Nat.pow_lt_pow_iff_right NZ).1 h6
   omega
  obtain ⟨s,hs,hs32,hV,htop⟩:=TT hu hn0
  obtain ⟨V,hVd⟩:∃ V,M*2 ^ s=V:=⟨_,rfl⟩
  obtain ⟨U,hUd⟩:∃ U,N*2 ^ s=U:=⟨_,rfl⟩
  rw [hVd] at hV htop
  have e1:IntKind.i64.wrap ((n:Int) - 1)=((n - 1:Nat):Int):=by rw [i64_in (by omega)];omega
  have hg:(mA M)[(IntKind.i64.wrap ((n:Int) - 1)).toNat]? = some (.int .u32 (dg M (n - 1):Nat)):=by rw [e1];exact bh (by omega)
  have hlz:=DR _ (aL M (n - 1))
  rw [hs] at hlz
  have vd:∀ k,k < n->dg V k=(dg M k*2 ^ s) % 4294967296 ||| (if 0 < k/\0 < s then dg M (k - 1) / 2 ^ (32 - s) else 0):=fun k _=>by rw [<- hVd];exact AX M s k hs32
  have es:IntKind.i64.wrap ((32:Int) - (s:Nat))=((32 - s:Nat):Int):=by rw [i64_in (by omega)];omega
  refine ⟨by rw [e1];omega,by rw [e1];show ((n - 1:Nat):Int) < 32;omega,_,hg,.inl ⟨_,hlz,?_⟩⟩
  refine ⟨fun f mm=>f=dF n m s []/\mm=dM N M z0 z0 (dg V),?_,?_⟩
  · -- the divisor is shifted
   refine ⟨fun k f mm=>k<=n/\f=dF n m s [(11,SV.c (.int .i64 ((k:Int) - 1)))]/\mm=dM N M z0 z0 (fun i=>if i < k then 0 else dg V i),n,⟨_,_,⟨Nat.le_refl _,rfl,rfl⟩,⟨rfl,rfl,rfl,rfl,rfl,rfl,rfl,rfl,rfl,ar (i64_in (by omega)),trivial⟩,⟨rfl,rfl,rfl,rfl,rfl,bk ?_,trivial⟩,rfl⟩,?_⟩
   ·refine (show lA z0 32=_ from aN fun i hi=>?_)
    by_cases h:i < n
    ·rw [if_pos h]
    ·rw [if_neg h,ce hV (by omega)]
   rintro k f mm ⟨hk,rfl,rfl⟩
   refine ⟨fun h=>?_,fun h=>?_⟩
   ·have h1:(k:Int) - 1 >= 0:=af h
    obtain ⟨j,rfl⟩:∃ j,k=j+1:=⟨k - 1,by omega⟩
    have ej:((j+1:Nat):Int) - 1=(j:Nat):=by omega
    have h32:((j+1:Nat):Int) - 1 < 32:=by omega
    have h33:(((j+1:Nat):Int) - 1).toNat < 32:=by omega
    have hg:(mA M)[(((j+1:Nat):Int) - 1).toNat]? = some (.int .u32 (dg M j:Nat)):=by rw [ej,Int.toNat_natCast];exact bh (by omega)
    have hA:=cw (G:=fun i=>if i < j+1 then 0 else dg V i) (n:=32) ej (pi (dg M j) s hs32)
    refine ⟨fun f mm=>f=dF n m s [(11,SV.c (.int .i64 (j:Nat)))]/\mm=dM N M z0 z0 (fun i=>if i < j then 0 else dg V i),⟨h1,h32,_,hg,by omega,h1,h32,h33,rfl,_,hA,?_⟩,?_⟩
    ·have hlast:∀ F:Nat->Nat,(¬ (0 < j/\0 < s))->lA (fun k=>if k=j then dg M j*2 ^ s % 4294967296 else if k < j+1 then 0 else dg V k) 32=lA (fun i=>if i < j then 0 else dg V i) 32:=fun _ hno=>aN fun i hi=>by
       by_cases e:i=j
       ·subst e;rw [if_pos rfl,if_neg (by omega),vd i (by omega),if_neg hno,Nat.or_zero]
       ·by_cases e2:i < j
        ·rw [if_neg e,if_pos (by omega),if_pos e2]
        ·rw [if_neg e,if_neg (by omega),if_neg e2]
     refine ⟨fun h4=>⟨fun h5=>?_,fun h5=>?_⟩,fun h4=>⟨nofun,fun _=>?_⟩⟩
     ·have h4:((j+1:Nat):Int) - 1 > 0:=af h4
      have h5:(s:Int) > 0:=af h5
      have e2:IntKind.i64.wrap (((j+1:Nat):Int) - 1 - 1)=((j - 1:Nat):Int):=by rw [i64_in (by omega)];omega
      have g1:(lA (fun k=>if k=j then dg M j*2 ^ s % 4294967296 else if k < j+1 then 0 else dg V k) 32)[(((j+1:Nat):Int) - 1).toNat]? = some (.int .u32 (dg M j*2 ^ s % 4294967296:Nat)):=by rw [ej,Int.toNat_natCast,bG _ (by omega),if_pos rfl]
      have g2:(mA M)[(IntKind.i64.wrap (((j+1:Nat):Int) - 1 - 1)).toNat]? = some (.int .u32 (dg M (j - 1):Nat)):=by rw [e2,Int.toNat_natCast];exact bh (by omega)
      have hd:dg M (j - 1) / 2 ^ (32 - s) < 4294967296:=Nat.lt_of_le_of_lt (Nat.div_le_self _ _) (aL _ _)
      refine ⟨h1,h32,_,g1,by rw [e2];omega,by rw [e2];show ((j - 1:Nat):Int) < 32;omega,_,g2,by rw [es];omega,h1,h32,h33,rfl,_,pS ej (v:=dg V j) (F:=fun i=>if i < j then 0 else dg V i) ?_ ?_,by kernel_rfl,_,_,⟨rfl,rfl⟩,⟨rfl,rfl,rfl,rfl,rfl,rfl,rfl,rfl,rfl,ar ej,trivial⟩,⟨rfl,rfl,rfl,rfl,rfl,rfl,trivial⟩,rfl⟩
      ·rw [ph _ (32 - s) (by omega) es,DC (by omega) hd,vd j (by omega),if_pos (by omega)]
      ·intro k hk
       by_cases e:k=j
       ·subst e;rw [if_neg (by omega),if_pos rfl]
       ·by_cases e3:k < j
        ·rw [if_pos e3,if_neg e,if_neg e,if_pos (by omega)]
        ·rw [if_neg e3,if_neg e,if_neg e,if_neg (by omega)]
     ·have h5:¬ (s:Int) > 0:=ag h5
      exact ⟨_,_,⟨rfl,rfl⟩,⟨rfl,rfl,rfl,rfl,rfl,rfl,rfl,rfl,rfl,ar ej,trivial⟩,⟨rfl,rfl,rfl,rfl,rfl,bk (hlast z0 (by omega)),trivial⟩,rfl⟩
     ·have h4:¬ ((j+1:Nat):Int) - 1 > 0:=by
        exact ag h4
      exact ⟨_,_,⟨rfl,rfl⟩,⟨rfl,rfl,rfl,rfl,rfl,rfl,rfl,rfl,rfl,ar ej,trivial⟩,⟨rfl,rfl,rfl,rfl,rfl,bk (hlast z0 (by omega)),trivial⟩,rfl⟩
    ·rintro f mm ⟨rfl,rfl⟩
     exact ⟨j,_,_,by omega,⟨by omega,rfl,rfl⟩,⟨rfl,rfl,rfl,rfl,rfl,rfl,rfl,rfl,rfl,ar (i64_in (by omega)),trivial⟩,⟨rfl,rfl,rfl,rfl,rfl,rfl,trivial⟩,rfl⟩
   ·have h1:¬ ((k:Int) - 1 >= 0):=ag h
    obtain rfl:k=0:=by omega
    exact ⟨_,_,⟨rfl,rfl⟩,⟨rfl,rfl,rfl,rfl,rfl,rfl,rfl,rfl,rfl,trivial⟩,⟨rfl,rfl,rfl,rfl,rfl,bk (aN fun i hi=>by simp),trivial⟩,rfl⟩
  rintro f mm ⟨rfl,rfl⟩
  have hUm:U < BB ^ (m+1):=by
   rw [<- hUd,Nat.pow_succ]
   exact Nat.lt_of_lt_of_le (Nat.mul_lt_mul_of_pos_right hv.1 (Nat.pow_pos (by omega))) (Nat.mul_le_mul_left _ (by rw [show BB=2 ^ 32 from rfl];exact Nat.pow_le_pow_right (by omega) (by omega)))
  have ud:∀ k,dg U k=(dg N k*2 ^ s) % 4294967296 ||| (if 0 < k/\0 < s then dg N (k - 1) / 2 ^ (32 - s) else 0):=fun k=>by rw [<- hUd];exact AX N s k hs32
  refine ⟨fun f mm=>f=dF n m s []/\mm=dM N M z0 (dg U) (dg V),?_,?_⟩
  · -- the dividend is shifted
   refine ⟨fun k f mm=>k<=m+1/\f=dF n m s [(12,SV.c (.int .i64 ((k:Int) - 1)))]/\mm=dM N M z0 (fun i=>if i < k then 0 else dg U i) (dg V),m+1,⟨_,_,⟨Nat.le_refl _,rfl,rfl⟩,⟨rfl,rfl,rfl,rfl,rfl,rfl,rfl,rfl,rfl,ar (by omega),trivial⟩,⟨rfl,rfl,rfl,rfl,bk ?_,rfl,trivial⟩,rfl⟩,?_⟩
   ·refine (show lA z0 33=_ from aN fun i hi=>?_)
    by_cases h:i < m+1
    ·rw [if_pos h]
    ·rw [if_neg h,ce hUm (by omega)]
   rintro k f mm ⟨hk,rfl,rfl⟩
   refine ⟨fun h=>?_,fun h=>?_⟩
   ·have h1:(k:Int) - 1 >= 0:=af h
    obtain ⟨j,rfl⟩:∃ j,k=j+1:=⟨k - 1,by omega⟩
    have ej:((j+1:Nat):Int) - 1=(j:Nat):=by omega
    have h32:((j+1:Nat):Int) - 1 < 33:=by omega
    have h33:(((j+1:Nat):Int) - 1).toNat < 33:=by omega
    refine ⟨fun f mm=>f=dF n m s [(12,SV.c (.int .i64 (j:Nat)))]/\mm=dM N M z0 (fun i=>if i < j then 0 else dg U i) (dg V),?_,?_⟩
    ·refine ⟨fun f mm=>f=dF n m s [(12,SV.c (.int .i64 (j:Nat)))]/\mm=dM N M z0 (fun k=>if k=j then dg N j*2 ^ s % 4294967296 else if k < j+1 then 0 else dg U k) (dg V),⟨fun h4=>?_,fun h4=>?_⟩,?_⟩
     ·have h4:((j+1:Nat):Int) - 1 < m:=af h4
      have hg:(mA N)[(((j+1:Nat):Int) - 1).toNat]? = some (.int .u32 (dg N j:Nat)):=by rw [ej,Int.toNat_natCast];exact bh (by omega)
      have hA:=cw (G:=fun i=>if i < j+1 then 0 else dg U i) (n:=33) ej (pi (dg N j) s hs32)
      exact ⟨h1,by show ((j+1:Nat):Int) - 1 < 32;omega,_,hg,by omega,h1,h32,h33,rfl,_,hA,_,_,⟨rfl,rfl⟩,⟨rfl,rfl,rfl,rfl,rfl,rfl,rfl,rfl,rfl,ar ej,trivial⟩,⟨rfl,rfl,rfl,rfl,rfl,rfl,trivial⟩,rfl⟩
     ·have h4:¬ (((j+1:Nat):Int) - 1 < m):=ag h4
      have hjm:j=m:=by omega
      refine ⟨_,_,⟨rfl,rfl⟩,⟨rfl,rfl,rfl,rfl,rfl,rfl,rfl,rfl,rfl,ar ej,trivial⟩,⟨rfl,rfl,rfl,rfl,bk (aN fun i hi=>?_),rfl,trivial⟩,rfl⟩
      by_cases e:i=j
      ·rw [if_pos e,if_pos (by omega),hjm,ce hv.1 (Nat.le_refl _),Nat.zero_mul,Nat.zero_mod]
      ·rw [if_neg e]
     rintro f mm ⟨rfl,rfl⟩
     have hlast:(¬ (0 < j/\0 < s))->lA (fun k=>if k=j then dg N j*2 ^ s % 4294967296 else if k < j+1 then 0 else dg U k) 33=lA (fun i=>if i < j then 0 else dg U i) 33:=fun hno=>aN fun i hi=>by
      by_cases e:i=j
      ·subst e;rw [if_pos rfl,if_neg (by omega),ud i,if_neg hno,Nat.or_zero]
      ·by_cases e2:i < j
       ·rw [if_neg e,if_pos (by omega),if_pos e2]
       ·rw [if_neg e,if_neg (by omega),if_neg e2]
     have j33:(j:Int) < 33:=by omega
     refine ⟨fun h4=>⟨fun h5=>?_,fun h5=>?_⟩,fun h4=>⟨nofun,fun _=>?_⟩⟩
     ·have h4:(j:Int) > 0:=af h4
      have h5:(s:Int) > 0:=af h5
      have e2:IntKind.i64.wrap ((j:Int) - 1)=((j - 1:Nat):Int):=by rw [i64_in (by omega)];omega
      have g1:(lA (fun k=>if k=j then dg N j*2 ^ s % 4294967296 else if k < j+1 then 0 else dg U k) 33)[j]? = some (.int .u32 (dg N j*2 ^ s % 4294967296:Nat)):=by rw [bG _ (by omega),if_pos rfl]
      have g2:(mA N)[(IntKind.i64.wrap ((j:Int) - 1)).toNat]? = some (.int .u32 (dg N (j - 1):Nat)):=by rw [e2,Int.toNat_natCast];exact bh (by omega)
      have hd:dg N (j - 1) / 2 ^ (32 - s) < 4294967296:=Nat.lt_of_le_of_lt (Nat.div_le_self _ _) (aL _ _)
      refine ⟨by omega,j33,_,g1,by rw [e2];omega,by rw [e2];show ((j - 1:Nat):Int) < 32;omega,_,g2,by rw [es];omega,by omega,j33,by show j < 33;omega,rfl,_,pS (i:=j) (x:=(j:Int)) rfl (v:=dg U j) (F:=fun i=>if i < j then 0 else dg U i) ?_ ?_,by kernel_rfl,_,_,⟨rfl,rfl⟩,⟨rfl,rfl,rfl,rfl,rfl,rfl,rfl,rfl,rfl,rfl,trivial⟩,⟨rfl,rfl,rfl,rfl,rfl,rfl,trivial⟩,rfl⟩
      ·rw [ph _ (32 - s) (by omega) es,DC (by omega) hd,ud j,if_pos (by omega)]
      ·intro k hk
       by_cases e:k=j
       ·subst e;rw [if_neg (by omega),if_pos rfl]
       ·by_cases e3:k < j
        ·rw [if_pos e3,if_neg e,if_neg e,if_pos (by omega)]
        ·rw [if_neg e3,if_neg e,if_neg e,if_neg (by omega)]
     ·have h5:¬ (s:Int) > 0:=ag h5
      exact ⟨_,_,⟨rfl,rfl⟩,⟨rfl,rfl,rfl,rfl,rfl,rfl,rfl,rfl,rfl,rfl,trivial⟩,⟨rfl,rfl,rfl,rfl,bk (hlast (by omega)),rfl,trivial⟩,rfl⟩
     ·have h4:¬ (j:Int) > 0:=ag h4
      exact ⟨_,_,⟨rfl,rfl⟩,⟨rfl,rfl,rfl,rfl,rfl,rfl,rfl,rfl,rfl,rfl,trivial⟩,⟨rfl,rfl,rfl,rfl,bk (hlast (by omega)),rfl,trivial⟩,rfl⟩
    ·rintro f mm ⟨rfl,rfl⟩
     exact ⟨j,_,_,by omega,⟨by omega,rfl,rfl⟩,⟨rfl,rfl,rfl,rfl,rfl,rfl,rfl,rfl,rfl,ar (i64_in (by omega)),trivial⟩,⟨rfl,rfl,rfl,rfl,rfl,rfl,trivial⟩,rfl⟩
   ·have h1:¬ ((k:Int) - 1 >= 0):=ag h
    obtain rfl:k=0:=by omega
    exact ⟨_,_,⟨rfl,rfl⟩,⟨rfl,rfl,rfl,rfl,rfl,rfl,rfl,rfl,rfl,trivial⟩,⟨rfl,rfl,rfl,rfl,bk (aN fun i hi=>by simp),rfl,trivial⟩,rfl⟩
  rintro f mm ⟨rfl,rfl⟩
  have e2n:IntKind.i64.wrap ((n:Int) - 2)=((n - 2:Nat):Int):=by rw [i64_in (by omega)];omega
  have v1:(lA (dg V) 32)[(IntKind.i64.wrap ((n:Int) - 1)).toNat]? = some (.int .u32 (dg V (n - 1):Nat)):=by rw [e1,Int.toNat_natCast];exact bG _ (by omega)
  have v2:(lA (dg V) 32)[(IntKind.i64.wrap ((n:Int) - 2)).toNat]? = some (.int .u32 (dg V (n - 2):Nat)):=by rw [e2n,Int.toNat_natCast];exact bG _ (by omega)
  have w32:∀ x i,IntKind.u64.wrap ((dg x i:Nat):Int)=(dg x i:Nat):=fun x i=>ci (by have:=aL x i;rw [aR] at this;omega)
  have eq0:U / V=N / M:=by rw [<- hUd,<- hVd];exact Dn
  have er0:U % V=(N % M)*2 ^ s:=by rw [<- hUd,<- hVd];exact Dm
  have hV0:0 < V:=by rw [<- hVd];exact Nat.mul_pos hM0 (Nat.pow_pos (by omega))
  refine ⟨by rw [e1];omega,by rw [e1];show ((n - 1:Nat):Int) < 32;omega,_,v1,by rw [e2n];omega,by rw [e2n];show ((n - 2:Nat):Int) < 32;omega,_,v2,by kernel_rfl,?_⟩
  refine ⟨fun f mm=>f=dF n m s []/\mm=dM N M (dg (N / M)) (dg (wN U V 0)) (dg V),?_,?_⟩
  · -- the quotient, limb by limb
   obtain ⟨H,hH⟩:∃ H,dg V (n - 1)=H:=⟨_,rfl⟩
   obtain ⟨X,hX⟩:∃ X,dg V (n - 2)=X:=⟨_,rfl⟩
   have hHB:H < BB:=by rw [<- hH];exact aL _ _
   have hXB:X < BB:=by rw [<- hX];exact aL _ _
   have hNk:N < BB ^ (m - n+1)*M:=by
    have h5:=hu.2 (by omega)
    have h6:BB ^ m=BB ^ (m - n+1)*BB ^ (n - 1):=by rw [<- Nat.pow_add];congr 1;omega
    have h7:=Nat.mul_le_mul_left (BB ^ (m - n+1)) h5
    have:=hv.1
    omega
   have hUk:U < BB ^ (m - n+1)*V:=by
    rw [<- hUd,<- hVd,<- Nat.mul_assoc];exact Nat.mul_lt_mul_of_pos_right hNk (Nat.pow_pos (by omega))
   refine ⟨fun k f mm=>k<=m - n+1/\f=dF n m s [(13,SV.c (.int .u64 H)),(14,SV.c (.int .u64 X)),(15,SV.c (.int .i64 ((k:Int) - 1)))]/\mm=dM N M (fun i=>if k<=i then dg (N / M) i else 0) (dg (wN U V k)) (dg V),m - n+1,⟨_,_,⟨Nat.le_refl _,rfl,rfl⟩,⟨rfl,rfl,rfl,rfl,rfl,rfl,rfl,rfl,rfl,ar (by rw [w32,hH]),ar (by rw [w32,hX]),ar (by rw [i64_in (by omega)];omega),trivial⟩,⟨rfl,rfl,bk ?_,rfl,bk ?_,rfl,trivial⟩,rfl⟩,?_⟩
   ·refine (show lA z0 32=_ from aN fun i hi=>?_)
    by_cases h:m - n+1<=i
    ·rw [if_pos h]
     exact (ce ((Nat.div_lt_iff_lt_mul hM0).2 hNk) h).symm
    ·rw [if_neg h]
   ·rw [Fc (by rw [Nat.div_lt_iff_lt_mul (bi _),Nat.mul_comm];exact hUk)]
   rintro k f mm ⟨hk,rfl,rfl⟩
   refine ⟨fun h=>?_,fun h=>?_⟩
   ·have h1:(k:Int) - 1 >= 0:=af h
    obtain ⟨j,rfl⟩:∃ j,k=j+1:=⟨k - 1,by omega⟩
    have ej:((j+1:Nat):Int) - 1=(j:Nat):=by omega
    obtain ⟨T,hT⟩:∃ T,tN U V j=T:=⟨_,rfl⟩
    have hTV:T < V*BB:=by rw [<- hT];exact FI hV0 j
    have i1:IntKind.i64.wrap (((j+1:Nat):Int) - 1+n)=((j+n:Nat):Int):=by rw [i64_in (by omega)];omega
    have i2:IntKind.i64.wrap (IntKind.i64.wrap (((j+1:Nat):Int) - 1+n) - 1)=((j+(n - 1):Nat):Int):=by rw [i1,i64_in (by omega)];omega
    have i3:IntKind.i64.wrap (IntKind.i64.wrap (((j+1:Nat):Int) - 1+n) - 2)=((j+(n - 2):Nat):Int):=by rw [i1,i64_in (by omega)];omega
    have uw:∀ i,j+i < 33->(lA (dg (wN U V (j+1))) 33)[j+i]? = some (.int .u32 (dg T i:Nat)):=fun i hi=>by rw [bG _ hi,Fb,hT]
    have g1:(lA (dg (wN U V (j+1))) 33)[(IntKind.i64.wrap (((j+1:Nat):Int) - 1+n)).toNat]? = some (.int .u32 (dg T n:Nat)):=by rw [i1,Int.toNat_natCast];exact uw n (by omega)
    have g2:(lA (dg (wN U V (j+1))) 33)[(IntKind.i64.wrap (IntKind.i64.wrap (((j+1:Nat):Int) - 1+n) - 1)).toNat]? = some (.int .u32 (dg T (n - 1):Nat)):=by rw [i2,Int.toNat_natCast];exact uw _ (by omega)
    have g3:(lA (dg (wN U V (j+1))) 33)[(IntKind.i64.wrap (IntKind.i64.wrap (((j+1:Nat):Int) - 1+n) - 2)).toNat]? = some (.int .u32 (dg T (n - 2):Nat)):=by rw [i3,Int.toNat_natCast];exact uw _ (by omega)
    have hx:=D0 (aL T n) (aL T (n - 1)) rfl rfl
    have hgi:=HC hTV hV hn2 htop
    rw [hH] at hgi
    have hH0:(H:Int)≠0:=by rw [<- hH];omega
    have hHb:H < 4294967296:=by rw [<- aR];exact hHB
    refine ⟨by rw [i1];omega,by rw [i1];show ((j+n:Nat):Int) < 33;omega,_,g1,by decide,by rw [i2];omega,by rw [i2];show ((j+(n - 1):Nat):Int) < 33;omega,_,g2,by kernel_rfl,hH0,hH0,by kernel_rfl,?_⟩
    refine ⟨fun f mm=>∃ g:Nat,g<=4294967295/\T < (g+1)*V/\g*V<=T+V/\f=dF n m s [(13,SV.c (.int .u64 H)),(14,SV.c (.int .u64 X)),(15,SV.c (.int .i64 (j:Nat))),(17,SV.c (.int .u64 g))]/\mm=dM N M (fun i=>if j+1<=i then dg (N / M) i else 0) (dg (wN U V (j+1))) (dg V),?_,?_⟩
    ·refine ⟨fun q f mm=>∃ (rest:Nat),Gue T V n q rest/\rest < BB/\f=dF n m s [(13,SV.c (.int .u64 H)),(14,SV.c (.int .u64 X)),(15,SV.c (.int .i64 (((j+1:Nat):Int) - 1))),(17,SV.c (.int .u64 q)),(18,SV.c (.int .u64 rest))]/\mm=dM N M (fun i=>if j+1<=i then dg (N / M) i else 0) (dg (wN U V (j+1))) (dg V),_,⟨_,_,⟨_,hgi,Nat.lt_trans (Nat.mod_lt _ (by omega)) hHB,rfl,rfl⟩,⟨rfl,rfl,rfl,rfl,rfl,rfl,rfl,rfl,rfl,rfl,rfl,rfl,ar ?_,ar ?_,trivial⟩,⟨rfl,rfl,rfl,rfl,rfl,rfl,trivial⟩,rfl⟩,?_⟩
     ·rw [hx,<- Int.ofNat_tdiv,ci]
      have h5:=hgi.le
      generalize (dg T n*BB+dg T (n - 1)) / H=q at *
      rw [aR] at h5;omega
     ·rw [hx,<- Int.ofNat_tmod]
     rintro g f mm ⟨rest,hg,hr,rfl,rfl⟩
     have hgle:=hg.le
     rw [aR] at hgle
     have hr':rest < 4294967296:=by rw [<- aR];exact hr
     have er:IntKind.u64.wrap ((rest:Int)+H)=((rest+H:Nat):Int):=by rw [ci (by omega)];omega
     have down:T < g*V->((g:Int) - 1=((g - 1:Nat):Int))/\IntKind.u64.wrap ((g:Int) - 1)=((g - 1:Nat):Int)/\Gue T V n (g - 1) (rest+H)/\1<=g:=fun h5=>by
      obtain ⟨h6,h7⟩:=HE hg h5
      rw [hH] at h7
      exact ⟨by omega,by rw [ci (by omega)];omega,h7,h6⟩
     have wide:Gue T V n (g - 1) (rest+H)->4294967295 < rest+H->g - 1<=4294967295/\(g - 1)*V<=T+V:=fun h5 h6=>by
      obtain ⟨h7,h8⟩:=Hz hTV hV hn2 h5 h6
      exact ⟨h7,HA hTV hV hn2 htop h5 h7 h8⟩
     refine ⟨fun hc=>⟨by decide,by rw [i3];omega,by rw [i3];show ((j+(n - 2):Nat):Int) < 33;omega,_,g3,fun h5=>?_,fun h5=>?_⟩,fun hc=>⟨fun _=>?_,nofun⟩⟩
     ·have hg1:g<=4294967295:=by have:=ag hc;omega
      have e4:=wh hg1 hXB
      have e5:=LX hr (aL T (n - 2)) rfl rfl
      rw [e4,e5] at h5
      have h5:rest*BB+dg T (n - 2) < g*X:=by have:=af h5;omega
      obtain ⟨-,eg,hg',hg0⟩:=down (yn hTV hV hn2 hg (.inr (by rw [hX];exact h5)))
      refine ⟨fun h6=>?_,fun h6=>?_⟩
      ·rw [er] at h6
       have h6:4294967295 < rest+H:=by have:=af h6;omega
       obtain ⟨h7,h8⟩:=wide hg' h6
       exact ⟨_,_,⟨g - 1,h7,hg'.up,h8,rfl,rfl⟩,⟨rfl,rfl,rfl,rfl,rfl,rfl,rfl,rfl,rfl,rfl,rfl,ar ej,ar eg,trivial⟩,⟨rfl,rfl,rfl,rfl,rfl,rfl,trivial⟩,rfl⟩
      ·rw [er] at h6
       have h6:¬ 4294967295 < rest+H:=by have:=ag h6;omega
       exact ⟨g - 1,_,_,by omega,⟨rest+H,hg',by rw [aR];omega,rfl,rfl⟩,⟨rfl,rfl,rfl,rfl,rfl,rfl,rfl,rfl,rfl,rfl,rfl,rfl,ar eg,ar er,trivial⟩,⟨rfl,rfl,rfl,rfl,rfl,rfl,trivial⟩,rfl⟩
     ·have hg1:g<=4294967295:=by have:=ag hc;omega
      have e4:=wh hg1 hXB
      have e5:=LX hr (aL T (n - 2)) rfl rfl
      rw [e4,e5] at h5
      have h5:g*X<=rest*BB+dg T (n - 2):=by have:=ag h5;omega
      exact ⟨_,_,⟨g,hg1,hg.up,HA hTV hV hn2 htop hg hg1 (by rw [hX];exact h5),rfl,rfl⟩,⟨rfl,rfl,rfl,rfl,rfl,rfl,rfl,rfl,rfl,rfl,rfl,ar ej,rfl,trivial⟩,⟨rfl,rfl,rfl,rfl,rfl,rfl,trivial⟩,rfl⟩
     ·have hg1:4294967295 < g:=by
        have h9:decide ((g:Int) > 4294967295)=true:=hc
        have:=af h9;omega
      obtain ⟨-,eg,hg',hg0⟩:=down (yn hTV hV hn2 hg (.inl hg1))
      refine ⟨fun h6=>?_,fun h6=>?_⟩
      ·rw [er] at h6
       have h6:4294967295 < rest+H:=by have:=af h6;omega
       obtain ⟨h7,h8⟩:=wide hg' h6
       exact ⟨_,_,⟨g - 1,h7,hg'.up,h8,rfl,rfl⟩,⟨rfl,rfl,rfl,rfl,rfl,rfl,rfl,rfl,rfl,rfl,rfl,ar ej,ar eg,trivial⟩,⟨rfl,rfl,rfl,rfl,rfl,rfl,trivial⟩,rfl⟩
      ·rw [er] at h6
       have h6:¬ 4294967295 < rest+H:=by have:=ag h6;omega
       exact ⟨g - 1,_,_,by omega,⟨rest+H,hg',by rw [aR];omega,rfl,rfl⟩,⟨rfl,rfl,rfl,rfl,rfl,rfl,rfl,rfl,rfl,rfl,rfl,rfl,ar eg,ar er,trivial⟩,⟨rfl,rfl,rfl,rfl,rfl,rfl,trivial⟩,rfl⟩
    · -- the multiple is taken away
     rintro f mm ⟨g,hg1,hup,hlo,rfl,rfl⟩
     have hgB:g < BB:=by rw [aR];omega
     have hWlt:∀ k,dg (wN U V (j+1)) k < BB:=fun k=>aL _ _
     have j1:IntKind.i64.wrap ((j:Int)+n)=((j+n:Nat):Int):=by rw [i64_in (by omega)];omega
     refine ⟨fun q f mm=>∃ (i c b:Nat) (F:Nat->Nat),q=n - i/\i<=n/\SubI (dg (wN U V (j+1))) V g j i F c b/\f=dF n m s [(13,SV.c (.int .u64 H)),(14,SV.c (.int .u64 X)),(15,SV.c (.int .i64 (j:Nat))),(17,SV.c (.int .u64 g)),(19,SV.c (.int .u32 b)),(20,SV.c (.int .u64 c)),(195,SV.c (.int .i64 n)),(196,SV.c (.int .i64 i))]/\mm=dM N M (fun i=>if j+1<=i then dg (N / M) i else 0) F (dg V),n,⟨_,_,⟨0,0,0,_,rfl,Nat.zero_le _,SubI.start hWlt V g j,rfl,rfl⟩,⟨rfl,rfl,rfl,rfl,rfl,rfl,rfl,rfl,rfl,rfl,rfl,rfl,rfl,rfl,rfl,rfl,rfl,trivial⟩,⟨rfl,rfl,rfl,rfl,rfl,rfl,trivial⟩,rfl⟩,?_⟩
     rintro q f mm ⟨i,c,b,F,rfl,hi,hF,rfl,rfl⟩
     refine ⟨fun h5=>?_,fun h5=>?_⟩
     ·have hin:i < n:=by have:=af h5;omega
      have k1:IntKind.i64.wrap ((i:Int)+j)=((i+j:Nat):Int):=by rw [i64_in (by omega)];omega
      have gv:(lA (dg V) 32)[i]? = some (.int .u32 (dg V i:Nat)):=bG _ (by omega)
      have gu:(lA F 33)[(IntKind.i64.wrap ((i:Int)+j)).toNat]? = some (.int .u32 (F (i+j):Nat)):=by rw [k1,Int.toNat_natCast];exact bG _ (by omega)
      have hml:=qM hgB (aL V i) bI hF.carry
      have et:IntKind.u64.wrap (IntKind.u64.wrap ((g:Int)*IntKind.u64.wrap ((dg V i:Nat):Int))+c)=((g*dg V i+c:Nat):Int):=by
       rw [w32,wh hg1 (aL V i)]
       rw [aR] at hml
       rw [ci (by omega)];omega
      have hsub:ay Tryz.prog 258 [SV.c (.int .u32 (F (i+j):Nat)),SV.c (.int .u32 (IntKind.u32.wrap (IntKind.u64.wrap (IntKind.u64.wrap ((g:Int)*IntKind.u64.wrap ((dg V i:Nat):Int))+c)))),SV.c (.int .u32 b)] (.tuple #[.int .u32 (((F (i+j)+BB - ((g*dg V i+c) % BB+b)) % BB:Nat)),.int .u32 ((if F (i+j) < (g*dg V i+c) % BB+b then 1 else 0:Nat))]):=by
       rw [et,bM,show ((g*dg V i+c:Nat):Int) % 4294967296=(((g*dg V i+c) % BB:Nat):Int) from rfl]
       exact od _ _ b (hF.lt _) (Nat.mod_lt _ bI) hF.bor
      refine ⟨by omega,by show (i:Int) < 32;omega,_,gv,by decide,by rw [k1];omega,by rw [k1];show ((i+j:Nat):Int) < 33;omega,_,gu,.inl ⟨_,hsub,by rw [k1];omega,by rw [k1];show ((i+j:Nat):Int) < 33;omega,by rw [k1];show i+j < 33;omega,rfl,_,cw k1 rfl,?_⟩⟩
      exact ⟨n - (i+1),_,_,by omega,⟨i+1,_,_,_,rfl,by omega,hF.step hgB,rfl,rfl⟩,⟨rfl,rfl,rfl,rfl,rfl,rfl,rfl,rfl,rfl,rfl,rfl,rfl,rfl,rfl,ar (by rw [et];exact BH _),rfl,ar (by rw [i64_in (by omega)];rfl),trivial⟩,⟨rfl,rfl,rfl,rfl,rfl,rfl,trivial⟩,rfl⟩
     ·have hin:i=n:=by have:=ag h5;omega
      have hF:SubI (dg (wN U V (j+1))) V g j n F c b:=by rw [hin] at hF;exact hF
      have hE:=hF.fin hV
      have hTw:wv (dg (wN U V (j+1))) j (n+1)=T:=by rw [Te hV0 hV,hT]
      have gu:(lA F 33)[(IntKind.i64.wrap ((j:Int)+n)).toNat]? = some (.int .u32 (F (j+n):Nat)):=by rw [j1,Int.toNat_natCast];exact bG _ (by omega)
      have hcB:=hF.carry
      rw [aR] at hcB
      have hsub:ay Tryz.prog 258 [SV.c (.int .u32 (F (j+n):Nat)),SV.c (.int .u32 (IntKind.u32.wrap (c:Int))),SV.c (.int .u32 b)] (.tuple #[.int .u32 (((F (j+n)+BB - (c+b)) % BB:Nat)),.int .u32 ((if F (j+n) < c+b then 1 else 0:Nat))]):=by
       rw [eU (x:=(c:Int)) (by omega)]
       exact od _ _ b (hF.lt _) hF.carry hF.bor
      obtain ⟨D,hD⟩:∃ D,(fun k=>if k=j+n then (F (j+n)+BB - (c+b)) % BB else F k)=D:=⟨_,rfl⟩
      obtain ⟨bb,hbb⟩:∃ bb,(if F (j+n) < c+b then 1 else 0:Nat)=bb:=⟨_,rfl⟩
      rw [hD,hbb] at hE
      rw [hbb] at hsub
      have j33:((j+n:Nat):Int) < 33:=by omega
      have hput:(lA F 33).setIfInBounds (IntKind.i64.wrap ((j:Int)+n)).toNat (.int .u32 (((F (j+n)+BB - (c+b)) % BB:Nat)))=lA D 33:=by rw [<- hD];exact cw j1 rfl
      refine ⟨by rw [j1];omega,by rw [j1];exact j33,_,gu,.inl ⟨_,hsub,by rw [j1];omega,by rw [j1];exact j33,by rw [j1];show j+n < 33;omega,rfl,_,hput,fun f mm=>f=dF n m s [(13,SV.c (.int .u64 H)),(14,SV.c (.int .u64 X)),(15,SV.c (.int .i64 (j:Nat))),(17,SV.c (.int .u64 (T / V:Nat)))]/\T / V < BB/\mm=dM N M (fun i=>if j+1<=i then dg (N / M) i else 0) (dg (wN U V j)) (dg V),⟨fun h6=>?_,fun h6=>?_⟩,?_⟩⟩
      · -- added back
       have hb1:bb=1:=by have:=af h6;have:=hE.bor;omega
       rw [hb1] at hE
       refine ⟨fun q f mm=>∃ (i c:Nat) (G:Nat->Nat),q=n - i/\i<=n/\AddI D V j i G c/\f=dF n m s [(13,SV.c (.int .u64 H)),(14,SV.c (.int .u64 X)),(15,SV.c (.int .i64 (j:Nat))),(17,SV.c (.int .u64 (IntKind.u64.wrap ((g:Int) - 1)))),(23,SV.c (.int .u32 c)),(246,SV.c (.int .i64 n)),(247,SV.c (.int .i64 i))]/\mm=dM N M (fun i=>if j+1<=i then dg (N / M) i else 0) G (dg V),n,⟨_,_,⟨0,0,_,rfl,Nat.zero_le _,AddI.start hE.lt V j,rfl,rfl⟩,⟨rfl,rfl,rfl,rfl,rfl,rfl,rfl,rfl,rfl,rfl,rfl,rfl,rfl,rfl,rfl,rfl,trivial⟩,⟨rfl,rfl,rfl,rfl,rfl,rfl,trivial⟩,rfl⟩,?_⟩
       rintro q f mm ⟨i,c,G,rfl,hi,hG,rfl,rfl⟩
       refine ⟨fun h7=>?_,fun h7=>?_⟩
       ·have hin:i < n:=by have:=af h7;omega
        have k1:IntKind.i64.wrap ((i:Int)+j)=((i+j:Nat):Int):=by rw [i64_in (by omega)];omega
        have gv:(lA (dg V) 32)[i]? = some (.int .u32 (dg V i:Nat)):=bG _ (by omega)
        have gu:(lA G 33)[(IntKind.i64.wrap ((i:Int)+j)).toNat]? = some (.int .u32 (G (i+j):Nat)):=by rw [k1,Int.toNat_natCast];exact bG _ (by omega)
        refine ⟨by rw [k1];omega,by rw [k1];show ((i+j:Nat):Int) < 33;omega,_,gu,by omega,by show (i:Int) < 32;omega,_,gv,.inl ⟨_,tP _ _ c (hG.lt _) (aL V i) hG.carry,by rw [k1];omega,by rw [k1];show ((i+j:Nat):Int) < 33;omega,by rw [k1];show i+j < 33;omega,rfl,_,cw k1 rfl,by kernel_rfl,?_⟩⟩
        exact ⟨n - (i+1),_,_,by omega,⟨i+1,_,_,rfl,by omega,hG.step,rfl,rfl⟩,⟨rfl,rfl,rfl,rfl,rfl,rfl,rfl,rfl,rfl,rfl,rfl,rfl,rfl,rfl,rfl,ar (by rw [i64_in (by omega)];rfl),trivial⟩,⟨rfl,rfl,rfl,rfl,rfl,rfl,trivial⟩,rfl⟩
       ·have hin:i=n:=by have:=ag h7;omega
        have hG:AddI D V j n G c:=by rw [hin] at hG;exact hG
        obtain ⟨q1,q2,q3⟩:=Kz hE hTw hTV hup hlo hV hG
        have gu:(lA G 33)[(IntKind.i64.wrap ((j:Int)+n)).toNat]? = some (.int .u32 (G (j+n):Nat)):=by rw [j1,Int.toNat_natCast];exact bG _ (by omega)
        have hcc:=hG.carry
        have hGl:=hG.lt (j+n)
        rw [aR] at hGl
        refine ⟨by rw [j1];omega,by rw [j1];exact j33,_,gu,by rw [j1];omega,by rw [j1];exact j33,by rw [j1];show j+n < 33;omega,rfl,_,cw (v:=(G (j+n)+c) % BB) j1 (by rw [bM,aR];omega),_,_,⟨rfl,by omega,rfl⟩,⟨rfl,rfl,rfl,rfl,rfl,rfl,rfl,rfl,rfl,rfl,rfl,rfl,ar (by rw [ci (by omega)];omega),trivial⟩,⟨rfl,rfl,rfl,rfl,bk ?_,rfl,trivial⟩,rfl⟩
        have hl:∀ k,(fun k=>if k=j+n then (G (j+n)+c) % BB else G k) k < BB:=fun k=>by
         show (if k=j+n then (G (j+n)+c) % BB else G k) < BB
         split
         ·exact Nat.mod_lt _ bI
         ·exact hG.lt k
        have hfin:=vo (U:=U) (V:=V) (j:=j) (n:=n) (L:=33) (by omega) hl (fun k hk=>?_) (by rw [hT];exact q3) (fun k hk=>?_)
        ·rw [<- hfin]
         exact (aN fun i hi=>tB (fun j _=>hl j) hi).symm
        ·show (if k=j+n then (G (j+n)+c) % BB else G k)=_
         rw [if_neg (by omega),hG.low k hk,hE.low k hk,Lq _ _ _ _ hk]
        ·show (if k=j+n then (G (j+n)+c) % BB else G k)=_
         rw [if_neg (by omega),hG.high k (by omega),hE.high k (by omega),N5 hV0 hV (by omega)]
      ·have hb1:bb=0:=by have:=ag h6;omega
       rw [hb1] at hE
       obtain ⟨q2,q3⟩:=Kx hE hTw hup
       refine ⟨_,_,⟨rfl,by omega,rfl⟩,⟨rfl,rfl,rfl,rfl,rfl,rfl,rfl,rfl,rfl,rfl,rfl,rfl,ar (by rw [q2]),trivial⟩,⟨rfl,rfl,rfl,rfl,bk ?_,rfl,trivial⟩,rfl⟩
       have hfin:=vo (U:=U) (V:=V) (j:=j) (n:=n) (L:=33) (by omega) hE.lt (fun k hk=>by rw [hE.low k hk,Lq _ _ _ _ hk]) (by rw [hT];exact q3) (fun k hk=>by rw [hE.high k hk,N5 hV0 hV hk])
       rw [<- hfin]
       exact (aN fun i hi=>tB (fun j _=>hE.lt j) hi).symm
      rintro f mm ⟨rfl,hqB,rfl⟩
      have hqd:dg (N / M) j=T / V:=by rw [<- eq0,MP hV0,hT]
      rw [aR] at hqB
      refine ⟨by omega,by show (j:Int) < 32;omega,by show j < 32;omega,rfl,_,pS (i:=j) (x:=(j:Int)) (v:=T / V) (F:=fun i=>if j<=i then dg (N / M) i else 0) rfl ?_ ?_,j,_,_,by omega,⟨by omega,rfl,rfl⟩,⟨rfl,rfl,rfl,rfl,rfl,rfl,rfl,rfl,rfl,rfl,rfl,ar (i64_in (by omega)),trivial⟩,⟨rfl,rfl,rfl,rfl,rfl,rfl,trivial⟩,rfl⟩
      ·generalize T / V=q at *
       exact eU (by omega)
      ·intro k hk
       by_cases e:k=j
       ·subst e;rw [if_pos (Nat.le_refl _),if_pos rfl,hqd]
       ·by_cases e3:j<=k
        ·rw [if_pos e3,if_neg e,if_pos (by omega)]
        ·rw [if_neg e3,if_neg e,if_neg (by omega)]
   ·have h1:¬ ((k:Int) - 1 >= 0):=ag h
    obtain rfl:k=0:=by omega
    exact ⟨_,_,⟨rfl,rfl⟩,⟨rfl,rfl,rfl,rfl,rfl,rfl,rfl,rfl,rfl,trivial⟩,⟨rfl,rfl,bk (aN fun i hi=>by simp),rfl,rfl,rfl,trivial⟩,rfl⟩
  rintro f mm ⟨rfl,rfl⟩
  -- the remainder is shifted back
  obtain ⟨R,hR⟩:∃ R,N % M=R:=⟨_,rfl⟩
  obtain ⟨W,hW⟩:∃ W,wN U V 0=W:=⟨_,rfl⟩
  have hWR:W=R*2 ^ s:=by rw [<- hW,I7,er0,hR]
  have hRM:R < M:=by rw [<- hR];exact Nat.mod_lt _ hM0
  have rd:∀ i,dg R i=dg W i / 2 ^ s ||| (if 0 < s then (dg W (i+1)*2 ^ (32 - s)) % 4294967296 else 0):=fun i=>by
   have:=AW W 0 s i hs32
   rw [Nat.mul_zero,Nat.zero_add,hWR,Nat.mul_div_cancel _ (Nat.pow_pos (by omega)),<- hWR] at this
   exact this
  rw [hR,hW]
  refine ⟨fun q f mm=>∃ i:Nat,q=n - i/\i<=n/\f=dF n m s [(280,SV.c (.int .i64 n)),(281,SV.c (.int .i64 i))]/\mm=dR N M (dg (N / M)) (fun k=>if k < i then dg R k else 0) (dg W) (dg V),n,⟨_,_,⟨0,rfl,Nat.zero_le _,rfl,rfl⟩,⟨rfl,rfl,rfl,rfl,rfl,rfl,rfl,rfl,rfl,rfl,rfl,trivial⟩,⟨rfl,rfl,rfl,bk (aN fun i hi=>by simp),rfl,rfl,trivial⟩,rfl⟩,?_⟩
  rintro q f mm ⟨i,rfl,hi,rfl,rfl⟩
  refine ⟨fun h5=>?_,fun h5=>?_⟩
  ·have hin:i < n:=by have:=af h5;omega
   have i33:(i:Int) < 33:=by omega
   have i32:(i:Int) < 32:=by omega
   have gu:(lA (dg W) 33)[i]? = some (.int .u32 (dg W i:Nat)):=bG _ (by omega)
   have hlast:(dg R i=dg W i / 2 ^ s)->lA (fun k=>if k=i then dg W i / 2 ^ s else if k < i then dg R k else 0) 32=lA (fun k=>if k < i+1 then dg R k else 0) 32:=fun e0=>aN fun k hk=>by
    by_cases e:k=i
    ·subst e;rw [if_pos rfl,if_pos (by omega),e0]
    ·by_cases e2:k < i
     ·rw [if_neg e,if_pos e2,if_pos (by omega)]
     ·rw [if_neg e,if_neg e2,if_neg (by omega)]
   refine ⟨fun f mm=>f=dF n m s [(280,SV.c (.int .i64 n)),(281,SV.c (.int .i64 i))]/\mm=dR N M (dg (N / M)) (fun k=>if k < i+1 then dg R k else 0) (dg W) (dg V),⟨by omega,i33,_,gu,by omega,by omega,i32,by show i < 32;omega,rfl,_,cw (i:=i) (x:=(i:Int)) (v:=dg W i / 2 ^ s) rfl (ph _ s (by omega) rfl),fun h6=>?_,fun h6=>?_⟩,?_⟩
   ·have h6:(s:Int) > 0:=af h6
    have k1:IntKind.i64.wrap ((i:Int)+1)=((i+1:Nat):Int):=by rw [i64_in (by omega)];omega
    have gr:(lA (fun k=>if k=i then dg W i / 2 ^ s else if k < i then dg R k else 0) 32)[i]? = some (.int .u32 (dg W i / 2 ^ s:Nat)):=by rw [bG _ (by omega),if_pos rfl]
    have gu2:(lA (dg W) 33)[(IntKind.i64.wrap ((i:Int)+1)).toNat]? = some (.int .u32 (dg W (i+1):Nat)):=by rw [k1,Int.toNat_natCast];exact bG _ (by omega)
    have hd:dg W i / 2 ^ s < 4294967296:=Nat.lt_of_le_of_lt (Nat.div_le_self _ _) (aL _ _)
    have hsh:IntKind.u32.wrap (((dg W (i+1):Nat):Int)*2 ^ min (Int.toNat (IntKind.i64.wrap ((32:Int) - (s:Nat)))) IntKind.u32.bits)=((dg W (i+1)*2 ^ (32 - s) % 4294967296:Nat):Int):=by
     rw [es];exact pi _ _ (by omega)
    refine ⟨by omega,i32,_,gr,by rw [k1];omega,by rw [k1];show ((i+1:Nat):Int) < 33;omega,_,gu2,by rw [es];omega,by omega,i32,by show i < 32;omega,rfl,_,pS (i:=i) (x:=(i:Int)) rfl (v:=dg R i) (F:=fun k=>if k < i+1 then dg R k else 0) ?_ ?_,by kernel_rfl,_,_,⟨rfl,rfl⟩,⟨rfl,rfl,rfl,rfl,rfl,rfl,rfl,rfl,rfl,rfl,rfl,trivial⟩,⟨rfl,rfl,rfl,rfl,rfl,rfl,trivial⟩,rfl⟩
    ·rw [hsh,DC hd (Nat.mod_lt _ (by omega)),rd i,if_pos (by omega)]
    ·intro k hk
     by_cases e:k=i
     ·subst e;rw [if_pos (by omega),if_pos rfl]
     ·by_cases e3:k < i
      ·rw [if_pos (by omega),if_neg e,if_neg e,if_pos e3]
      ·rw [if_neg (by omega),if_neg e,if_neg e,if_neg e3]
   ·have h6:¬ (s:Int) > 0:=ag h6
    exact ⟨_,_,⟨rfl,rfl⟩,⟨rfl,rfl,rfl,rfl,rfl,rfl,rfl,rfl,rfl,rfl,rfl,trivial⟩,⟨rfl,rfl,rfl,bk (hlast (by rw [rd i,if_neg (by omega),Nat.or_zero])),rfl,rfl,trivial⟩,rfl⟩
   ·rintro f mm ⟨rfl,rfl⟩
    exact ⟨n - (i+1),_,_,by omega,⟨i+1,rfl,by omega,rfl,rfl⟩,⟨rfl,rfl,rfl,rfl,rfl,rfl,rfl,rfl,rfl,rfl,ar (by rw [i64_in (by omega)];rfl),trivial⟩,⟨rfl,rfl,rfl,rfl,rfl,rfl,trivial⟩,rfl⟩
  ·have hin:i=n:=by have:=ag h5;omega
   have hRn:lA (fun k=>if k < i then dg R k else 0) 32=mA R:=aN fun k hk=>by
    by_cases e:k < i
    ·rw [if_pos e]
    ·rw [if_neg e];exact (ce (Nat.lt_trans hRM hu.1) (by omega)).symm
   exact ⟨dU _ _,dU _ _,by kernel_rfl,kL rfl (by rw [hRn]),rfl,rfl,trivial⟩
end Go.Proofs.YtklehfchdoikeaaGreatDoor
