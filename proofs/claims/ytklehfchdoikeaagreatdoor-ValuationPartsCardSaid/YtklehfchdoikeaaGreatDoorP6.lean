/- An abstract walk: conditions of code and of functions; no condition. -/
import Derived.Laws.BytesString
import Derived.Test.YtklehfchdoikeaaGreatDoorP5
set_option maxRecDepth 100000
set_option maxHeartbeats 4000000
namespace Go.SX
open Go Go.RowKit
abbrev VK:=SV->List Key->List (Key×Blk)->Prop
def fy (E:VE) (o:Oper) (f:bB) (m:aA) (K:VK):Prop :=
 ∃ v R U,Out E.toEnv o (aB f) (aw m) R v U/\(∀ d B,lk U d=some B->d∈R)/\K v R U
theorem aX:∀ (d:Key) (B:Blk),lk [] d=some B->d∈([]:List Key):=fun d B h=>by simp [lk] at h
theorem jF {R:List Key}:∀ (d:Key) (B:Blk),lk [] d=some B->d∈R:=fun d B h=>by simp [lk] at h
theorem bS {k:Key} {C:Blk}:∀ (d:Key) (B:Blk),lk [(k,C)] d=some B->d∈[k]:=fun d B h=>by
 simp only [lk] at h
 by_cases e:k=d
 ·simp [e]
 ·rw [if_neg e] at h;cases h
section
variable (E:VE) (o:Oper) (f:bB) (m:aA) (K:VK)
def Fu (x:Operand):Prop:=K (evF (aB f) x) [] []
def Fs (c x y:Operand):Prop:=match evF (aB f) c with
 | .inl (.bool true)=>K (evF (aB f) x) [] []
 | .inl (.bool false)=>K (evF (aB f) y) [] []
 | _=>False
def zE (ty:TypeId):Prop:=match o.dst,E.tt ty with
 | some d,some i=>match aw m d,E.pk.any (·.1 == d) with
  | none,false=>K (SV.ptr d 0) [d] [(d,Blk.row ty i.size i.zero)]
  | _,_=>False
 | _,_=>False
def Mt (ty:TypeId) (x:Operand):Prop:=match o.dst,E.tt ty with
 | some d,some i=>match aw m d,E.pk.any (·.1 == d) with
  | none,false=>match evF (aB f) x with
   | .inl v=>match i.row with
    | true=>match v with
     | .agg A=>A.size=i.size/\K (SV.ptr d 0) [d] [(d,Blk.row ty i.size A)]
     | _=>False
    | false=>v.oneCell'=true/\K (SV.ptr d 0) [d] [(d,Blk.row ty 1 #[v])]
   | s=>s.solid/\K (SV.ptr d 0) [d] [(d,Blk.one ty s)]
  | _,_=>False
 | _,_=>False
def Fw (ty:TypeId) (x:Operand):Prop:=match evF (aB f) x with
 | .inr (.inl (d,off))=>match aw m d,E.tt ty with
  | some (.inl (_,n,A)),some i=>match i.row with
   | true=>match i.size == n,off with
    | true,0=>K (SV.c (.agg A)) [d] []
    | true,_+1=>False
    | false,off=>off+i.size<=n/\∃ B,A.extract off (off+i.size)=B/\K (SV.c (.agg B)) [d] []
   | false=>∃ v,A[off]? = some v/\K (SV.c v) [d] []
  | some (.inr (.inl (_,v))),some i=>match off,i.row with
   | 0,false=>K v [d] []
   | _,_=>False
  | _,_=>False
 | .inl u=>∃ r,bH E.toEnv (Instr.loadAt ty u) r/\K (SV.c r) [] []
 | _=>False
def zz (ty:TypeId) (x y:Operand):Prop:=match evF (aB f) x with
 | .inr (.inl (d,off))=>match aw m d,E.tt ty with
  | some (.inl (t0,n,A)),some i=>match i.row with
   | true=>match evF (aB f) y with
    | .inl (.agg B)=>match i.size == n,off with
     | true,0=>Fits B n/\K (SV.c undef) [d] [(d,Blk.row t0 n B)]
     | true,_+1=>False
     | false,off=>off+i.size<=n/\Fits B i.size/\∃ A',aM A off B.toList=A'/\K (SV.c undef) [d] [(d,Blk.row t0 n A')]
    | _=>False
   | false=>match i.size,evF (aB f) y with
    | 1,.inl v=>off < n/\v.oneCell'=true/\∃ A',A.setIfInBounds off v=A'/\K (SV.c undef) [d] [(d,Blk.row t0 n A')]
    | 1,s=>match n,off with
     | 1,0=>s.solid/\K (SV.c undef) [d] [(d,Blk.one t0 s)]
     | _,_=>False
    | _,_=>False
  | some (.inr (.inl (t0,_))),some i=>match off,i.size with
   | 0,1=>(evF (aB f) y).solid/\K (SV.c undef) [d] [(d,Blk.one t0 (evF (aB f) y))]
   | _,_=>False
  | _,_=>False
 | _=>False
def n8 (s:TypeId) (x:Operand) (fld:Nat):Prop:=match evF (aB f) x with
 | .inr (.inl (d,off))=>match E.tt s with
  | some i=>match i.kind,i.fields[fld]? with
   | 1,some (fo,fty)=>match E.tt fty with
    | some j=>match j.size with
     | 0=>False
     | _+1=>K (SV.ptr d (off+fo)) [] []
    | none=>False
   | _,_=>False
  | _=>False
 | .inl u=>∃ r,bH E.toEnv (Instr.fieldAt s u fld) r/\K (SV.c r) [] []
 | _=>False
def nZ (t:TypeId) (x ix:Operand):Prop:=match evF (aB f) x,evF (aB f) ix with
 | .inr (.inl (d,off)),.inl (.int _ n)=>match E.tt t with
  | some i=>match i.kind,E.tt i.elem with
   | 2,some j=>0<=n/\n < i.len/\K (SV.ptr d (aO off n j.size)) [] []
   | _,_=>False
  | _=>False
 | .inr (.inr (.inl (d,off,len,_))),.inl (.int _ n)=>match E.tt t with
  | some i=>match i.kind,E.tt i.elem with
   | 3,some j=>0<=n/\n < len/\K (SV.ptr d (aO off n j.size)) [] []
   | _,_=>False
  | _=>False
 | .inl u,.inl v=>∃ r,bH E.toEnv (Instr.indexAt t u v) r/\K (SV.c r) [] []
 | _,_=>False
def qp (x:Operand):Prop:=match evF (aB f) x with
 | .inr (.inl (d,off))=>K (SV.ptr d off) [] []
 | .inl (.pointer (some a))=>K (SV.c (.pointer (some a))) [] []
 | .inl (.func (.func g) p q)=>K (SV.c (.func (.func g) p q)) [] []
 | _=>False
def se (x:Operand) (i:Nat):Prop:=match evF (aB f) x with
 | .inl (.tuple vs)=>match vs[i]? with
  | some v=>K (SV.c v) [] []
  | none=>False
 | _=>False
def EQ (op:BinOp) (k:IntKind) (a b:Int) (J:Value->Prop):Prop:=match op with
 | .add=>J (.int k (k.wrap (a+b)))
 | .sub=>J (.int k (k.wrap (a - b)))
 | .mul=>J (.int k (k.wrap (a*b)))
 | .quo=>b≠0/\J (.int k (k.wrap (a.tdiv b)))
 | .rem=>b≠0/\J (.int k (a.tmod b))
 | .and=>J (.int k (k.wrap (BitVec.ofInt k.bits a &&& BitVec.ofInt k.bits b).toNat))
 | .or=>J (.int k (k.wrap (BitVec.ofInt k.bits a ||| BitVec.ofInt k.bits b).toNat))
 | .xor=>J (.int k (k.wrap (BitVec.ofInt k.bits a ^^^ BitVec.ofInt k.bits b).toNat))
 | .shl=>0<=b/\J (.int k (k.wrap (a*2 ^ min b.toNat k.bits)))
 | .shr=>0<=b/\J (.int k (a.fdiv (2 ^ min b.toNat k.bits)))
 | .eql=>J (.bool (a == b))
 | .neq=>J (.bool (a != b))
 | .lss=>J (.bool (decide (a < b)))
 | .leq=>J (.bool (decide (a<=b)))
 | .gtr=>J (.bool (decide (a > b)))
 | .geq=>J (.bool (decide (a >= b)))
 | _=>False
def Mu (op:BinOp) (t:TypeId) (x y:Operand):Prop:=match evF (aB f) x,evF (aB f) y with
 | .inl (.int k a),.inl (.int k' b)=>match op with
  | .shl=>EQ .shl k a b fun r=>K (SV.c r) [] []
  | .shr=>EQ .shr k a b fun r=>K (SV.c r) [] []
  | op=>match decide (k=k') with
   | true=>EQ op k a b fun r=>K (SV.c r) [] []
   | false=>False
 | .inl (.bool a),.inl (.bool b)=>match E.tt t with
  | some i=>match i.kind,op with
   | 5,.eql=>K (SV.c (.bool (a == b))) [] []
   | 5,.neq=>K (SV.c (.bool (a != b))) [] []
   | _,_=>False
  | none=>False
 | .inl (.string a),.inl (.string b)=>match op with
  | .eql=>K (SV.c (.bool (a.toList == b.toList))) [] []
  | .neq=>K (SV.c (.bool (!(a.toList == b.toList)))) [] []
  | .add=>a.size+b.size<=9223372036854775807/\K (SV.c (.string (a++b))) [] []
  | op=>∃ r,bH E.toEnv (Op.stringOp op a b) r/\K (SV.c r) [] []
 | .inl u,.inl v=>∃ r,bH E.toEnv (do eqGuard op t x y u v;binOp op t u v) r/\K (SV.c r) [] []
 | _,_=>False
def vUn (op:UnOp) (x:Operand):Prop:=match evF (aB f) x with
 | .inl u=>match Op.unary op u with
  | .pure r=>K (SV.c r) [] []
  | _=>False
 | _=>False
def Io (n:Int) (J:Value->Prop):IntKind->Prop
 | .i8=>J (.int .i8 (IntKind.i8.wrap n))
 | .i16=>J (.int .i16 (IntKind.i16.wrap n))
 | .i32=>J (.int .i32 (IntKind.i32.wrap n))
 | .i64=>J (.int .i64 (IntKind.i64.wrap n))
 | .u8=>J (.int .u8 (IntKind.u8.wrap n))
 | .u16=>J (.int .u16 (IntKind.u16.wrap n))
 | .u32=>J (.int .u32 (IntKind.u32.wrap n))
 | .u64=>J (.int .u64 (IntKind.u64.wrap n))
def K5 (A:Array Value) (off len:Nat) (s:ByteArray):Prop:=s.size=len/\∀ j,j < len->A[off+j]? = some (.int .u8 ((s.data.getD j 0).toNat:Int))
def Fx (src dst:TypeId) (x:Operand):Prop:=match evF (aB f) x with
 | .inr (.inr (.inl (d,off,len,_)))=>match E.tt src,aw m d with
  | some i,some (.inl (_,_,A))=>match i.kind with
   | 3=>E.P.underlying i.elem=some (.int .u8)/\E.P.underlying dst=some .string/\∃ s,K5 A off len s/\K (SV.c (.string s)) [d] []
   | _=>False
  | _,_=>False
 | .inl u=>match E.tt src,E.tt dst,u with
  | some _,some i,.int _ n=>match i.kind with
   | 4=>Io n (fun r=>K (SV.c r) [] []) i.ik
   | _=>∃ r,bH E.toEnv (convert src dst u) r/\K (SV.c r) [] []
  | _,_,u=>∃ r,bH E.toEnv (convert src dst u) r/\K (SV.c r) [] []
 | _=>False
def zC (t:TypeId) (x:Operand) (fld:Nat):Prop:=match evF (aB f) x with
 | .inl u=>∃ r,bH E.toEnv (Instr.field t u fld) r/\K (SV.c r) [] []
 | _=>False
def zB (t:TypeId) (x ix:Operand):Prop:=match evF (aB f) x,evF (aB f) ix with
 | .inl u,.inl v=>∃ r,bH E.toEnv (Instr.index t u v) r/\K (SV.c r) [] []
 | _,_=>False
def iK (f:bB):List (Nat×Operand)->Option (List (Nat×Value))
 | []=>some []
 | (i,x) :: r=>match evF (aB f) x,iK f r with
  | .inl v,some l=>some ((i,v) :: l)
  | _,_=>none
def oo (f:bB):List Operand->Option (List Value)
 | []=>some []
 | x :: r=>match evF (aB f) x,oo f r with
  | .inl v,some l=>some (v :: l)
  | _,_=>none
def pB (tt:TypeId->Option TI):List (Nat×TypeId)->Option (List (Nat×Nat))
 | []=>some []
 | (o,t) :: r=>match tt t,pB tt r with
  | some i,some l=>some ((o,i.size) :: l)
  | _,_=>none
def zD (t:TypeId) (parts:Array (Nat×Operand)):Prop:=match iK f parts.toList,E.tt t with
 | some ps,some i=>match i.kind with
  | 1=>match pB E.tt i.fields with
   | some pl=>∃ A,Instr.fill (fun k=>pl[k]?) i.zero ps=some A/\K (SV.c (.agg A)) [] []
   | none=>False
  | 2=>match E.tt i.elem with
   | some j=>∃ A,Instr.fill (fun k=>some (k*j.size,j.size)) i.zero ps=some A/\K (SV.c (.agg A)) [] []
   | none=>False
  | _=>False
 | _,_=>False
def Gk (f:bB):List Operand->Option (List Key)
 | []=>some []
 | x :: r=>match evF (aB f) x,Gk f r with
  | .inr (.inl (d,0)),some l=>some (d :: l)
  | _,_=>none
def qq (fn:Fn) (first captured:Array Operand):Prop:=match fn,oo f first.toList,oo f captured.toList with
 | .func g,some p,some q=>K (SV.c (.func (.func g) p.toArray q.toArray)) [] []
 | .func g,some [],none=>match Gk f captured.toList with
  | some ds=>K (SV.clo g ds) [] []
  | none=>False
 | _,_,_=>False
def LK (pre post:aA):Bool:=post.all fun p=>(aw pre p.1).isSome || ((aw m p.1).isNone && !(E.pk.any (·.1 == p.1)))
def FV:SV->Option (Key×Nat×Nat×Nat)
 | .inr (.inr (.inl p))=>some p
 | _=>none
def Ft (b:Builtin) (ts:List TypeId) (xs:List SV):Prop:=match b,ts,xs with
 | .len,t :: _,[x]=>match FV x,E.tt t with
  | some (_,_,len,_),some i=>match i.kind with
   | 3=>K (SV.c (.int .i64 len)) [] []
   | _=>False
  | _,_=>False
 | .append,t :: t2 :: _,[x,y]=>match FV x,FV y,E.tt t,E.tt t2 with
  | some (d,off,len,cap),some (e,off2,len2,_),some i,some i2=>match aw m d,aw m e,i.kind,i2.kind,E.tt i.elem with
   | some (.inl (t0,n,A)),some (.inl (_,n1,B)),3,3,some j=>len+len2<=cap/\off+cap*j.size<=n/\off2+len2*j.size<=n1/\B.all (·.oneCell')=true/\∃ A',aM A (off+len*j.size) (B.extract off2 (off2+len2*j.size)).toList=A'/\K (SV.sl d off (len+len2) cap) [d,e] [(d,Blk.row t0 n A')]
   | _,_,_,_,_=>False
  | _,_,_,_=>False
 | _,_,_=>False
def nY (t:TypeId) (l c:Operand):Prop:=match o.dst,E.tt t,evF (aB f) l,evF (aB f) c with
 | some d,some i,.inl (.int _ l),.inl (.int _ c)=>match aw m d,E.pk.any (·.1 == d),i.kind,E.tt i.elem with
  | none,false,3,some j=>0<=l/\l<=c/\c<=9223372036854775807/\(∃ q,E.P.info? i.elem=some q/\(q.bytes:Int)*c<=281474976710656)/\∃ Z,madeCells j.zero (c.toNat*j.size)=Z/\K (SV.sl d 0 l.toNat c.toNat) [d] [(d,Blk.row i.elem (c.toNat*j.size) Z)]
  | _,_,_,_=>False
 | _,_,_,_=>False
def kK (t:TypeId) (len:Nat) (parts:Array (Nat×Operand)):Prop:=match o.dst,E.tt t,iK f parts.toList with
 | some d,some i,some ps=>match aw m d,E.pk.any (·.1 == d),i.kind,E.tt i.elem with
  | none,false,3,some j=>len*j.size<=16777216/\0 < len*j.size/\∃ A,Instr.fill (fun k=>some (k*j.size,j.size)) (madeCells j.zero (len*j.size)) ps=some A/\A.size=len*j.size/\K (SV.sl d 0 len len) [d] [(d,Blk.row i.elem (len*j.size) A)]
  | _,_,_,_=>False
 | _,_,_=>False
def w7 (c:Call):Prop:=match c.callee with
 | .value x=>match callee (evF (aB f) x) (c.args.toList.map (evF (aB f))) with
  | some (g,all)=>(∃ v,ay E.P g all v/\K (SV.c v) [] []) \/
      (∃ pre v post,Own E.toEnv g all pre v post/\fZ m pre/\LK E m pre post=true/\K v (pre.map (·.1)++post.map (·.1)) post)
  | none=>False
 | .builtin b=>match oo f c.args.toList with
  | some xs=>∃ r,(∀ w,OldW E.toEnv w->(builtin b c.argTypes o.type (c.args.map fun | .const _=>true | _=>false) xs.toArray).run E.P w=.ok (.value r) w)/\K (SV.c r) [] []
  | none=>Ft E m K b c.argTypes.toList (c.args.toList.map (evF (aB f)))
 | _=>False
def ID (f:bB):Option Operand->Nat->Option Int
 | none,n=>some n
 | some x,_=>match evF (aB f) x with
  | .inl (.int _ n)=>some n
  | _=>none
def qE (f:bB):Option Operand->Option (Option Value)
 | none=>some none
 | some x=>match evF (aB f) x with
  | .inl v=>some (some v)
  | _=>none
def zA (t:TypeId) (x:Operand) (lo hi mx:Option Operand):Prop:=match evF (aB f) x,mx with
 | .inr (.inl (d,off)),none=>match E.tt t with
  | some i=>match i.kind,E.tt i.elem,ID f lo 0,ID f hi i.len with
   | 2,some j,some l,some h=>0<=l/\l<=h/\h<=i.len/\l < i.len/\K (SV.sl d (aO off l j.size) (h.toNat - l.toNat) (i.len - l.toNat)) [] []
   | _,_,_,_=>False
  | none=>False
 | .inl u,mx=>match qE f lo,qE f hi,qE f mx with
  | some lo',some hi',some mx'=>∃ r,bH E.toEnv (Instr.sliceAt t u lo' hi' mx') r/\K (SV.c r) [] []
  | _,_,_=>False
 | _,_=>False
def vD (dst:TypeId) (x:Operand):Prop:=match evF (aB f) x with
 | .inr (.inr (.inl (d,off,len,_)))=>match E.tt dst with
  | some i=>match i.kind with
   | 2=>i.len<=len/\K (SV.ptr d off) [] []
   | _=>False
  | none=>False
 | _=>False
def vop:Prop:=match o.op with
 | .move x=>Fu f K x
 | .assign x=>Fu f K x
 | .pick c x y=>Fs f K c x y
 | .alloc ty=>zE E o m K ty
 | .box ty x=>Mt E o f m K ty x
 | .load ty x=>Fw E f m K ty x
 | .store ty x y=>zz E f m K ty x y
 | .fieldAddr s x fld=>n8 E f K s x fld
 | .indexAddr t x ix=>nZ E f K t x ix
 | .nilCheck x=>qp f K x
 | .extract x i=>se f K x i
 | .binOp op t x y _=>Mu E f K op t x y
 | .unOp op _ x=>vUn f K op x
 | .convert src dst x=>Fx E f m K src dst x
 | .makeSlice t l c=>nY E o f m K t l c
 | .field t x fld=>zC E f K t x fld
 | .index t x ix=>zB E f K t x ix
 | .build t parts=>zD E f K t parts
 | .makeFunc fn first captured=>qq f K fn first captured
 | .buildSlice t len parts=>kK E o f m K t len parts
 | .call c=>w7 E o f m K c
 | .slice t x lo hi mx=>zA E f K t x lo hi mx
 | .sliceToArrayPointer dst x=>vD E f K dst x
 | _=>False
end
variable {E:VE} {o:Oper} {f:bB} {m:aA} {K:VK}
theorem uL {x:Operand} (ho:o.op=.move x\/o.op=.assign x) (h:Fu f K x):fy E o f m K:=⟨_,_,_,Gt ho,aX,h⟩
theorem D4 {c x y:Operand} (ho:o.op=.pick c x y) (h:Fs f K c x y):fy E o f m K:=by
 unfold Fs at h
 split at h
 ·rename_i hc;exact ⟨_,_,_,xR ho hc,aX,h⟩
 ·rename_i hc;exact ⟨_,_,_,xR ho hc,aX,h⟩
 ·exact h.elim
theorem AB (hE:VOk E) {ty:TypeId} (ho:o.op=.alloc ty) (h:zE E o m K ty):fy E o f m K:=by
 unfold zE at h
 split at h
 ·rename_i d i hd hi
  split at h
  ·rename_i hm hpk;exact ⟨_,_,_,Dz hE ho hm hpk hi,bS,h⟩
  ·exact h.elim
 ·exact h.elim
theorem HH (hE:VOk E) {ty:TypeId} {x:Operand} (ho:o.op=.box ty x) (h:Mt E o f m K ty x):fy E o f m K:=by
 unfold Mt at h
 split at h
 ·rename_i d i hd hi
  split at h
  ·rename_i hm hpk
   split at h
   ·rename_i v hx
    split at h
    ·split at h
     ·exact ⟨_,_,_,uC hE ho hm hpk hx rfl h.1,bS,h.2⟩
     ·exact h.elim
    ·refine ⟨_,_,_,uC (A:=#[v]) (n:=1) hE ho hm hpk hx ?_ rfl,bS,h.2⟩
     have:=h.1
     cases v<;>simp_all [Value.oneCell',Value.cells]
   ·exact ⟨_,_,_,xU ho hm hpk rfl h.1,bS,h.2⟩
  ·exact h.elim
 ·exact h.elim
theorem D6 (hE:VOk E) {ty:TypeId} {x:Operand} (ho:o.op=.load ty x) (h:Fw E f m K ty x):fy E o f m K:=by
 unfold Fw at h
 split at h
 ·rename_i d off hx
  split at h
  ·rename_i t0 n A i hm hi
   split at h
   ·rename_i hr
    split at h
    ·rename_i hs
     have hs:i.size=n:=by simpa using hs
     have hB:∀ (B:Array Value),B.size=n->B.extract 0 (0+i.size)=B:=fun B hb=>by rw [hs,Nat.zero_add,<- hb];exact Array.extract_size
     refine ⟨_,_,_,?_,fun d B hb=>by simp [lk] at hb,h⟩
     refine aT fun f' m' ρ a w hf hmm h1 h2=>?_
     have hxx:=az h1 x
     rw [hf x (by simp [ho,Op.operands]),hx] at hxx
     obtain ⟨k,ob,h3,h4,h5,h6,h7⟩:=iR h2 ((hmm d (by simp)).trans hm) rfl hxx
     subst h7
     have hl:=pP (hE ty i hi) h5 hr (off:=0) (by rw [h6,hs];omega)
     rw [hB A h6] at hl
     exact ⟨ρ,_,w,by simp only [execOp,ho,h4,Sem.run_bind,hl,Result.andThen_ok,Sem.run_pure],Ext.refl _,rfl,h2⟩
    ·exact h.elim
    ·obtain ⟨hn,B,rfl,h⟩:=h
     exact ⟨_,_,_,v8 hE ho hx hm hi hr hn,fun d B hb=>by simp [lk] at hb,h⟩
   ·rename_i hr
    obtain ⟨v,hv,h⟩:=h
    exact ⟨_,_,_,tZ hE ho hx hm hi hr hv,fun d B hb=>by simp [lk] at hb,h⟩
  ·rename_i t0 v i hm hi
   split at h
   ·rename_i hr
    exact ⟨_,_,_,wa hE ho hx hm hi hr,fun d B hb=>by simp [lk] at hb,h⟩
   ·exact h.elim
  ·exact h.elim
 ·rename_i u hx
  obtain ⟨r,hr,h⟩:=h
  exact ⟨_,_,_,gf (x:=x) (s:=Instr.loadAt ty) (fun a=>by simp only [execOp,ho]) (by simp [ho,Op.operands]) hx hr,aX,h⟩
 ·exact h.elim
theorem Av (hE:VOk E) {ty:TypeId} {x y:Operand} (ho:o.op=.store ty x y) (h:zz E f m K ty x y):fy E o f m K:=by
 unfold zz at h
 split at h
 ·rename_i d off hx
  split at h
  ·rename_i t0 n A i hm hi
   split at h
   ·rename_i hr
    split at h
    ·rename_i B hy
     split at h
     ·rename_i hs
      obtain ⟨hB,h⟩:=h
      exact ⟨_,_,_,ry hE ho hx hy hm hi hB (by simpa using hs),bS,h⟩
     ·exact h.elim
     ·obtain ⟨hn,hB,A',rfl,h⟩:=h
      exact ⟨_,_,_,tY hE ho hx hy hm hi hB hn,bS,h⟩
    ·exact h.elim
   ·split at h
    ·rename_i v hs hy
     obtain ⟨hn,hv,A',rfl,h⟩:=h
     exact ⟨_,_,_,sL hE ho hx hy hm hi hs hn hv,bS,h⟩
    ·rename_i hs _
     split at h
     ·obtain ⟨hv,h⟩:=h
      exact ⟨_,_,_,mn hE ho hx rfl hm rfl hi hs hv,bS,h⟩
     ·exact h.elim
    ·exact h.elim
  ·rename_i t0 v i hm hi
   split at h
   ·rename_i hs
    obtain ⟨hv,h⟩:=h
    exact ⟨_,_,_,mn hE ho hx rfl hm rfl hi hs hv,bS,h⟩
   ·exact h.elim
  ·exact h.elim
 ·exact h.elim
theorem tc (hE:VOk E) {s:TypeId} {x:Operand} {fld:Nat} (ho:o.op=.fieldAddr s x fld) (h:n8 E f K s x fld):fy E o f m K:=by
 unfold n8 at h
 split at h
 ·rename_i d off hx
  split at h
  ·rename_i i hi
   split at h
   ·rename_i fo fty hk hfd
    split at h
    ·rename_i j hj
     split at h
     ·exact h.elim
     ·rename_i hz
      exact ⟨_,_,_,t7 hE ho hx hi hk hfd hj (by rw [hz];omega),aX,h⟩
    ·exact h.elim
   ·exact h.elim
  ·exact h.elim
 ·rename_i u hx
  obtain ⟨r,hr,h⟩:=h
  exact ⟨_,_,_,gf (x:=x) (s:=fun u=>Instr.fieldAt s u fld) (fun a=>by simp only [execOp,ho]) (by simp [ho,Op.operands]) hx hr,aX,h⟩
 ·exact h.elim
theorem ta (hE:VOk E) {t:TypeId} {x ix:Operand} (ho:o.op=.indexAddr t x ix) (h:nZ E f K t x ix):fy E o f m K:=by
 unfold nZ at h
 split at h
 ·rename_i d off k n hx hix
  split at h
  ·rename_i i hi
   split at h
   ·rename_i j hk hj
    exact ⟨_,_,_,t6 hE ho hx hix hi hk hj h.1 h.2.1,aX,h.2.2⟩
   ·exact h.elim
  ·exact h.elim
 ·rename_i d off len cap k n hx hix
  split at h
  ·rename_i i hi
   split at h
   ·rename_i j hk hj
    exact ⟨_,_,_,sO hE ho hx hix hi hk hj h.1 h.2.1,aX,h.2.2⟩
   ·exact h.elim
  ·exact h.elim
 ·rename_i u v hx hix
  obtain ⟨r,hr,h⟩:=h
  exact ⟨_,_,_,jz (x:=x) (y:=ix) (s:=Instr.indexAt t) (fun a=>by simp only [execOp,ho]) (by simp [ho,Op.operands]) (by simp [ho,Op.operands]) hx hix hr,aX,h⟩
 ·exact h.elim
theorem t8 {x:Operand} (ho:o.op=.nilCheck x) (h:qp f K x):fy E o f m K:=by
 unfold qp at h
 split at h
 ·rename_i hx;exact ⟨_,_,_,v6 ho hx,aX,h⟩
 ·rename_i hx;exact ⟨_,_,_,sN ho hx,aX,h⟩
 ·rename_i hx;exact ⟨_,_,_,sM ho hx,aX,h⟩
 ·exact h.elim
theorem ws {x:Operand} {i:Nat} (ho:o.op=.extract x i) (h:se f K x i):fy E o f m K:=by
 unfold se at h
 split at h
 ·rename_i vs hx
  split at h
  ·rename_i v hv;exact ⟨_,_,_,xT ho hx hv,aX,h⟩
  ·exact h.elim
 ·exact h.elim
theorem IH {P:Program} {op:BinOp} {t:TypeId} {x y:Operand} {k k':IntKind} {a b:Int} {J:Value->Prop} (hk:k=k'\/op=.shl\/op=.shr) (h:EQ op k a b J):∃ r,(∀ w,(do eqGuard op t x y (.int k a) (.int k' b);binOp op t (.int k a) (.int k' b):Sem Value).run P w=.ok r w)/\J r:=by
 cases op<;>simp only [EQ] at h
 case shl =>
  refine ⟨_,fun w=>?_,h.2⟩
  simp only [eqGuard_shl,pure_bind,binOp,Op.shift,if_neg (Int.not_lt.2 h.1),Sem.run_pure]
 case shr =>
  refine ⟨_,fun w=>?_,h.2⟩
  simp only [eqGuard_shr,pure_bind,binOp,Op.shift,if_neg (Int.not_lt.2 h.1),Sem.run_pure]
 all_goals
  obtain rfl:k=k':=by simpa using hk
 case quo=>exact ⟨_,fun w=>by simp only [eqGuard_quo,pure_bind,binOp,ne_eq,not_true_eq_false,if_false,Op.intDiv,if_neg h.1,Sem.run_pure],h.2⟩
 case rem=>exact ⟨_,fun w=>by simp only [eqGuard_rem,pure_bind,binOp,ne_eq,not_true_eq_false,if_false,Op.intDiv,if_neg h.1,Sem.run_pure],h.2⟩
 case eql=>exact ⟨_,fun w=>by simp [eqGuard_at_int,binOp,Op.intCmp],h⟩
 case neq=>exact ⟨_,fun w=>by simp [eqGuard_at_int,binOp,Op.intCmp],h⟩
 all_goals first
  | exact ⟨_,fun w=>by simp only [eqGuard_at_int,pure_bind,binOp,ne_eq,not_true_eq_false,if_false,Op.intArith,Op.intBits,Op.intCmp,Sem.run_pure],h⟩
  | exact h.elim
theorem rj {P:Program} {d:Nat} {t:TypeId} {a b:Bool} {w:World} (hu:P.underlying t=some .bool):(Op.equalIn (d+1) t (.bool a) (.bool b)).run P w=.ok (a == b) w:=by
 rw [Op.equalIn]
 simp only [Sem.run_bind,run_underlying hu,Result.andThen_ok,Sem.run_pure]
theorem HJ (hE:VOk E) {op:BinOp} {t yt:TypeId} {x y:Operand} (ho:o.op=.binOp op t x y yt) (h:Mu E f K op t x y):fy E o f m K:=by
 unfold Mu at h
 split at h
 ·rename_i k a k' b hx hy
  have key:∀ (hk:k=k'\/op=.shl\/op=.shr),EQ op k a b (fun r=>K (SV.c r) [] [])->fy E o f m K:=fun hk h=>by
   obtain ⟨r,hr,h⟩:=IH (P:=E.P) (t:=t) (x:=x) (y:=y) hk h
   exact ⟨_,_,_,jz (x:=x) (y:=y) (s:=fun u v=>do eqGuard op t x y u v;binOp op t u v) (fun a=>by simp only [execOp,ho]) (by simp [ho,Op.operands]) (by simp [ho,Op.operands]) hx hy (fun w _=>hr w),aX,h⟩
  split at h
  ·exact key (by simp) h
  ·exact key (by simp) h
  ·split at h
   ·rename_i hk;exact key (.inl (by simpa using hk)) h
   ·exact h.elim
 ·rename_i a b hx hy
  split at h
  case h_2=>exact h.elim
  rename_i i hi
  have two:=fun (r:Value) (hr:bH E.toEnv (do eqGuard op t x y (.bool a) (.bool b);binOp op t (.bool a) (.bool b)) r) (hK:K (SV.c r) [] [])=>(show fy E o f m K from ⟨_,_,_,jz (x:=x) (y:=y) (s:=fun u v=>do eqGuard op t x y u v;binOp op t u v) (fun a=>by simp only [execOp,ho]) (by simp [ho,Op.operands]) (by simp [ho,Op.operands]) hx hy hr,aX,hK⟩)
  obtain ⟨dd,hu,_,hs⟩:=(hE t i hi).desc
  split at h
  ·rename_i hk
   simp only [TI.says,hk] at hs
   subst hs
   refine two _ (fun w _=>?_) h
   rw [eqGuard_at_bool,pure_bind]
   have e:binOp .eql t (.bool a) (.bool b)=(do pure (.bool (<- Op.equal t (.bool a) (.bool b)))):=rfl
   have e2:(Op.equal t (.bool a) (.bool b)).run E.P w=.ok (a == b) w:=rj (d:=9999) hu
   rw [e,Sem.run_bind,e2]
   simp
  ·rename_i hk
   simp only [TI.says,hk] at hs
   subst hs
   refine two _ (fun w _=>?_) h
   rw [eqGuard_at_bool,pure_bind]
   have e:binOp .neq t (.bool a) (.bool b)=(do pure (.bool (!(<- Op.equal t (.bool a) (.bool b))))):=rfl
   have e2:(Op.equal t (.bool a) (.bool b)).run E.P w=.ok (a == b) w:=rj (d:=9999) hu
   rw [e,Sem.run_bind,e2]
   simp [bne]
  ·exact h.elim
 ·rename_i a b hx hy
  have two:=fun (r:Value) (hr:bH E.toEnv (Op.stringOp op a b) r) (hK:K (SV.c r) [] [])=>(show fy E o f m K from ⟨_,_,_,jz (x:=x) (y:=y) (s:=fun u v=>do eqGuard op t x y u v;binOp op t u v) (fun a=>by simp only [execOp,ho]) (by simp [ho,Op.operands]) (by simp [ho,Op.operands]) hx hy (fun w hw=>by rw [eqGuard_at_string,pure_bind,show binOp op t (.string a) (.string b)=Op.stringOp op a b by cases op<;>rfl];exact hr w hw),aX,hK⟩)
  split at h
  ·exact two _ (fun w _=>rfl) h
  ·exact two _ (fun w _=>rfl) h
  ·refine two _ (fun w _=>?_) h.2
   have:¬ ((a.size+b.size:Nat):Int) > IntKind.i64.max:=by rw [show IntKind.i64.max=9223372036854775807 from by decide];have:=h.1;omega
   simp only [Op.stringOp,if_neg this,Sem.run_pure]
  ·obtain ⟨r,hr,h⟩:=h
   exact two _ hr h
 ·rename_i u v hx hy
  obtain ⟨r,hr,h⟩:=h
  exact ⟨_,_,_,jz (x:=x) (y:=y) (s:=fun u v=>do eqGuard op t x y u v;binOp op t u v) (fun a=>by simp only [execOp,ho]) (by simp [ho,Op.operands]) (by simp [ho,Op.operands]) hx hy hr,aX,h⟩
 ·exact h.elim
theorem Kr {op:UnOp} {t:TypeId} {x:Operand} (ho:o.op=.unOp op t x) (h:vUn f K op x):fy E o f m K:=by
 unfold vUn at h
 split at h
 ·rename_i u hx
  split at h
  ·rename_i r hr
   exact ⟨_,_,_,gf (x:=x) (s:=Op.unary op) (fun a=>by simp only [execOp,ho]) (by simp [ho,Op.operands]) hx (fun w _=>by rw [hr];rfl),aX,h⟩
  ·exact h.elim
 ·exact h.elim
theorem Ey {n:Int} {J:Value->Prop}:∀ {k:IntKind},Io n J k->J (.int k (k.wrap n)):=fun {k} h=>by cases k<;>exact h
theorem D7 (hE:VOk E) {src dst:TypeId} {x:Operand} (ho:o.op=.convert src dst x) (h:Fx E f m K src dst x):fy E o f m K:=by
 unfold Fx at h
 split at h
 ·rename_i d off len cap hx
  split at h
  case h_2=>exact h.elim
  rename_i i t0 n A hi hm
  split at h
  case h_2=>exact h.elim
  rename_i hk
  obtain ⟨hb8,hst,s,⟨hsz,hs⟩,h⟩:=h
  refine ⟨_,_,_,aT (R:=[d]) (v:=SV.c (.string s)) (U:=[]) fun f' m' ρ a w hf hmm h1 h2=>?_,fun d' B' hb=>by simp [lk] at hb,h⟩
  have hxx:=az h1 x
  rw [hf x (by simp [ho,Op.operands]),hx] at hxx
  obtain ⟨k,ob,h3,_,h5,h6⟩:=h2.blk d _ ((hmm d (by simp)).trans hm) rfl
  obtain ⟨b,hb,e⟩:=hxx
  rw [h3] at hb;cases hb
  obtain ⟨h6,h7⟩:=h6
  subst h7
  obtain ⟨dd,hu,_,hsay⟩:=(hE _ i hi).desc
  simp only [TI.says,hk] at hsay
  subst hsay
  refine ⟨ρ,.string s,w,?_,Ext.refl _,rfl,h2⟩
  have hl:(loadCells ⟨k,off,none⟩ len).run E.P w=.ok ((((List.range len).map fun j=>((s.data.getD j 0).toNat:Int))).map (Value.int .u8)).toArray w:=by
   rw [run_loadCells w ⟨k,off,none⟩ len (fun j=>.int .u8 ((s.data.getD j 0).toNat:Int)) (fun j hj=>by rw [Addr.add_mid,cu h5];exact hs j hj)]
   simp [Function.comp_def]
  have hr:=run_bytesToString (P:=E.P) w ⟨k,off,none⟩ len cap _ hl
  have es:(((List.range len).map fun j=>((s.data.getD j 0).toNat:Int)).foldl (fun r n=>r.push (UInt8.ofNat n.toNat)) ByteArray.empty)=s:=by
   rw [List.foldl_map]
   have key:∀ k,k<=len->((List.range k).foldl (fun (r:ByteArray) j=>r.push (UInt8.ofNat ((s.data.getD j 0).toNat:Int).toNat)) ByteArray.empty).data=s.data.extract 0 k:=by
    intro k
    induction k with
    | zero=>intro _;simp
    | succ k ih =>
     intro hk
     rw [List.range_succ,List.foldl_append]
     have hlt:k < s.data.size:=by have:s.data.size=len:=hsz;omega
     simp only [List.foldl_cons,List.foldl_nil]
     rw [ByteArray.data_push,ih (by omega)]
     apply Array.ext'
     simp only [Array.toList_push,Array.toList_extract,List.extract_eq_take_drop,Nat.sub_zero,List.drop_zero]
     rw [List.take_add_one,Array.getElem?_toList]
     simp [Array.getElem?_eq_getElem hlt]
   apply ByteArray.ext
   rw [key len (Nat.le_refl _),<- hsz]
   show s.data.extract 0 s.data.size=s.data
   simp
  rw [es] at hr
  simp only [execOp,ho,e,convert,Sem.run_bind,run_underlying hu,run_underlying hst,run_underlying hb8,Result.andThen_ok,hr,Sem.run_pure]
 ·rename_i u hx
  split at h
  ·rename_i j i k' n hj hi
   split at h
   ·rename_i hk
    refine ⟨_,_,_,gf (x:=x) (s:=convert src dst) (fun a=>by simp only [execOp,ho]) (by simp [ho,Op.operands]) hx (fun w _=>?_),aX,Ey (J:=fun r=>K (SV.c r) [] []) h⟩
    obtain ⟨d1,h1,_,hs⟩:=(hE _ _ hi).desc
    obtain ⟨d2,h2,_,_⟩:=(hE _ _ hj).desc
    simp only [TI.says,hk] at hs
    subst hs
    unfold convert
    rw [Sem.run_bind,run_underlying h2]
    simp only [Result.andThen_ok,Sem.run_bind,run_underlying h1]
    rfl
   ·obtain ⟨r,hr,h⟩:=h
    exact ⟨_,_,_,gf (x:=x) (s:=convert src dst) (fun a=>by simp only [execOp,ho]) (by simp [ho,Op.operands]) hx hr,aX,h⟩
  ·obtain ⟨r,hr,h⟩:=h
   exact ⟨_,_,_,gf (x:=x) (s:=convert src dst) (fun a=>by simp only [execOp,ho]) (by simp [ho,Op.operands]) hx hr,aX,h⟩
 ·exact h.elim
theorem Ay {t:TypeId} {x:Operand} {fld:Nat} (ho:o.op=.field t x fld) (h:zC E f K t x fld):fy E o f m K:=by
 unfold zC at h
 split at h
 ·rename_i u hx
  obtain ⟨r,hr,h⟩:=h
  exact ⟨_,_,_,gf (x:=x) (s:=fun u=>Instr.field t u fld) (fun a=>by simp only [execOp,ho]) (by simp [ho,Op.operands]) hx hr,aX,h⟩
 ·exact h.elim
theorem Ax {t:TypeId} {x ix:Operand} (ho:o.op=.index t x ix) (h:zB E f K t x ix):fy E o f m K:=by
 unfold zB at h
 split at h
 ·rename_i u v hx hix
  obtain ⟨r,hr,h⟩:=h
  exact ⟨_,_,_,jz (x:=x) (y:=ix) (s:=Instr.index t) (fun a=>by simp only [execOp,ho]) (by simp [ho,Op.operands]) (by simp [ho,Op.operands]) hx hix hr,aX,h⟩
 ·exact h.elim
theorem gU {f:bB}:∀ {l:List Operand} {r:List Value},oo f l=some r->l.map (fun x=>eY (evF (aB f) x))=r.map some
 | [],r,h=>by simp only [oo,Option.some.injEq] at h;subst h;rfl
 | x :: l,r,h=>by
  simp only [oo] at h
  split at h
  ·rename_i v r' hv hr
   simp only [Option.some.injEq] at h;subst h
   rw [List.map_cons,gU hr,hv];rfl
  ·cases h
theorem om {f:bB}:∀ {l:List (Nat×Operand)} {r:List (Nat×Value)},iK f l=some r->l.map (fun p=>(eY (evF (aB f) p.2)).map fun v=>(p.1,v))=r.map some
 | [],r,h=>by simp only [iK,Option.some.injEq] at h;subst h;rfl
 | (i,x) :: l,r,h=>by
  simp only [iK] at h
  split at h
  ·rename_i v r' hv hr
   simp only [Option.some.injEq] at h;subst h
   rw [List.map_cons,om hr,hv];rfl
  ·cases h
theorem xK {f:bB}:∀ {l:List Operand} {r:List Key},Gk f l=some r->l.map (fun x=>JL (evF (aB f) x))=r.map some
 | [],r,h=>by simp only [Gk,Option.some.injEq] at h;subst h;rfl
 | x :: l,r,h=>by
  simp only [Gk] at h
  split at h
  ·rename_i v r' hv hr
   simp only [Option.some.injEq] at h;subst h
   rw [List.map_cons,xK hr,hv];rfl
  ·cases h
theorem sy {P:Program} {tt:TypeId->Option TI} (ht:∀ ty i,tt ty=some i->TIok P ty i) (w:World):∀ (fs:List Field) (pl:List (Nat×Nat)),pB tt (fs.map fun f=>(f.offset,f.type))=some pl->(fs.mapM (fun f=>do pure (f.offset,<- sizeOf f.type):Field->Sem (Nat×Nat))).run P w=.ok pl w
 | [],pl,h=>by simp only [List.map_nil,pB,Option.some.injEq] at h;subst h;simp
 | f :: fs,pl,h=>by
  simp only [List.map_cons,pB] at h
  split at h
  ·rename_i i l hi hl
   simp only [Option.some.injEq] at h;subst h
   simp only [List.mapM_cons,Sem.run_bind,run_sizeOf (ht _ _ hi),Result.andThen_ok,Sem.run_pure,sy ht w fs l hl]
  ·cases h
theorem Az (hE:VOk E) {t:TypeId} {parts:Array (Nat×Operand)} (ho:o.op=.build t parts) (h:zD E f K t parts):fy E o f m K:=by
 unfold zD at h
 split at h
 ·rename_i ps i hp hi
  obtain ⟨d,hd,hrow,hs⟩:=(hE t i hi).desc
  split at h
  ·rename_i hk
   simp only [TI.says,hk] at hs
   obtain ⟨fs,rfl,hfs⟩:=hs
   split at h
   ·rename_i pl hpl
    obtain ⟨A,hA,h⟩:=h
    refine ⟨_,_,_,uB ho (om hp) (fun w _=>?_),aX,h⟩
    obtain ⟨z,hz,hzc⟩:=je (hE t i hi) w
    rw [<- hfs] at hpl
    have hm:=sy hE w fs.toList pl hpl
    have hm2:(fs.mapM (fun f=>do pure (f.offset,<- sizeOf f.type):Field->Sem (Nat×Nat))).run E.P w=.ok pl.toArray w:=by
     rw [<- Array.toArray_toList (xs:=fs),List.mapM_toArray]
     show (Functor.map List.toArray _:Sem _).run E.P w=_
     rw [map_eq_pure_bind,Sem.run_bind,hm]
     rfl
    unfold Instr.build
    simp only [Sem.run_bind,hz,Result.andThen_ok,run_underlying hd]
    erw [hm2]
    simp only [Result.andThen_ok,hzc,List.getElem?_toArray]
    rw [hA]
    rfl
   ·exact h.elim
  ·rename_i hk
   simp only [TI.says,hk] at hs
   subst hs
   split at h
   ·rename_i j hj
    obtain ⟨A,hA,h⟩:=h
    refine ⟨_,_,_,uB ho (om hp) (fun w _=>?_),aX,h⟩
    obtain ⟨z,hz,hzc⟩:=je (hE t i hi) w
    unfold Instr.build
    simp only [Sem.run_bind,hz,Result.andThen_ok,run_underlying hd,run_sizeOf (hE _ _ hj),hzc]
    rw [hA]
    rfl
   ·exact h.elim
  ·exact h.elim
 ·exact h.elim
theorem ua {fn:Fn} {first captured:Array Operand} (ho:o.op=.makeFunc fn first captured) (h:qq f K fn first captured):fy E o f m K:=by
 unfold qq at h
 split at h
 ·rename_i hp hq
  exact ⟨_,_,_,v7 ho (gU hp) (gU hq),aX,h⟩
 ·rename_i g hp hq
  have e:first=#[]:=by
   have:=gU hp
   apply Array.ext';simpa using this
  subst e
  split at h
  ·rename_i ds hd
   exact ⟨_,_,_,xS ho (xK hd),aX,h⟩
  ·exact h.elim
 ·exact h.elim
theorem vR {s:SV} {p:Key×Nat×Nat×Nat} (h:FV s=some p):s=.inr (.inr (.inl p)):=by
 unfold FV at h
 split at h
 ·cases h;rfl
 ·cases h
theorem pu {P:Program} {w:World} {k:Nat} {A:Array Value} {ty:TypeId} (h:w.heap[k]? = some (.cells A ty (0,0))) {off n:Nat} (hn:off+n<=A.size):(loadCells ⟨k,off,none⟩ n).run P w=.ok (A.extract off (off+n)) w:=by
 have h1:=run_loadCells_list (P:=P) w ⟨k,off,none⟩ (A.extract off (off+n)).toList (fun j v hj=>by
  rw [Addr.add_mid,cu h]
  have:=drop_take hn j v hj
  rwa [List.getElem?_drop,Array.getElem?_toList] at this)
 have e:(A.extract off (off+n)).toList.length=n:=by simp;omega
 rw [e,Array.toArray_toList] at h1
 exact h1
theorem gR {P:Program} {w:World} {k:Nat} {A:Array Value} {ty:TypeId} (h:w.heap[k]? = some (.cells A ty (0,0))) {off:Nat} {l:List Value} (hn:off+l.length<=A.size) (h1:∀ v∈l,v.oneCell'=true):(storeCells ⟨k,off,none⟩ l).run P w=.ok () (w.setCells k off l):=by
 have:=run_storeCells_cells (P:=P) k off l 0 w (fun j hj=>by rw [cu h,Array.getElem?_eq_getElem (by omega)];rfl) (fun j hj=>gS h _) h1
 simpa using this
theorem D5 (hE:VOk E) {c:Call} {b:Builtin} (ho:o.op=.call c) (hc:c.callee=.builtin b) (h:Ft E m K b c.argTypes.toList (c.args.toList.map (evF (aB f)))):fy E o f m K:=by
 unfold Ft at h
 split at h
 case h_3=>exact h.elim
 case h_1 t ts x hts hxs =>
  split at h
  case h_2=>exact h.elim
  rename_i p1 p2 len p4 i hx hi
  split at h
  case h_2=>exact h.elim
  rename_i hk
  obtain ⟨y,hy,hyx⟩:∃ y,c.args.toList=[y]/\evF (aB f) y=x:=by
   cases hl:c.args.toList with
   | nil=>rw [hl] at hxs;simp at hxs
   | cons y l=>rw [hl] at hxs;cases l with
    | nil=>exact ⟨y,rfl,by simpa using hxs⟩
    | cons _ _=>simp at hxs
  refine ⟨_,_,_,bg (v:=SV.c (.int .i64 len)) fun f' ρ a w hf h1 hw=>?_,aX,h⟩
  have hin:y∈o.op.operands.toList:=by rw [ho];exact bV (by rw [hy];simp)
  have hxx:=az h1 y
  rw [hf y hin,hyx,vR hx] at hxx
  obtain ⟨bb,hb,e⟩:=hxx
  obtain ⟨dd,hu,_,hsay⟩:=(hE _ i hi).desc
  simp only [TI.says,hk] at hsay
  subst hsay
  refine ⟨.int .i64 len,?_,rfl⟩
  have e2:c.args.map a.eval=#[a.eval y]:=by apply Array.ext';simp [hy]
  have e3:c.argTypes[0]? = some t:=by rw [<- Array.getElem?_toList,hts];rfl
  simp only [execOp,ho,resolve,hc,e2,Sem.run_bind,Sem.run_pure,Result.andThen_ok,invoke,builtin,Builtin.len_,e3,e]
  simp [Sem.run_bind,run_underlying hu,goInt]
 case h_2 t t2 ts x y hts hxs =>
  split at h
  case h_2=>exact h.elim
  rename_i d off len cap e off2 len2 cap2 i i2 hx hy hi hi2
  split at h
  case h_2=>exact h.elim
  rename_i t0 n A t1 n1 B j hmd hme hk hk2 hj
  obtain ⟨hcap,hn,hn1,hone,A',hA',h⟩:=h
  subst hA'
  obtain ⟨x',y',hxy,hx',hy'⟩:∃ x' y',c.args.toList=[x',y']/\evF (aB f) x'=x/\evF (aB f) y'=y:=by
   cases hl:c.args.toList with
   | nil=>rw [hl] at hxs;simp at hxs
   | cons x' l=>rw [hl] at hxs;cases l with
    | nil=>simp at hxs
    | cons y' l=>cases l with
     | nil=>simp at hxs;exact ⟨x',y',rfl,hxs.1,hxs.2⟩
     | cons _ _=>simp at hxs
  refine ⟨_,_,_,aT (R:=[d,e]) (v:=SV.sl d off (len+len2) cap) (U:=[(d,Blk.row t0 n (aM A (off+len*j.size) (B.extract off2 (off2+len2*j.size)).toList))]) fun f' m' ρ a w hf hmm h1 h2=>?_,(fun d' B' hb=>by have:=bS d' B' hb;simp at this;simp [this]),h⟩
  have hxx:=az h1 x'
  rw [hf x' (by rw [ho];exact bV (by rw [hxy];simp)),hx',vR hx] at hxx
  have hyy:=az h1 y'
  rw [hf y' (by rw [ho];exact bV (by rw [hxy];simp)),hy',vR hy] at hyy
  obtain ⟨k1,o1,g1,_,g2,g3,g4⟩:=h2.blk d _ ((hmm d (by simp)).trans hmd) rfl
  obtain ⟨b1,hb1,e1⟩:=hxx
  subst g4
  rw [g1] at hb1;cases hb1
  obtain ⟨k2,o2,q1,_,q2,q3,q4⟩:=h2.blk e _ ((hmm e (by simp)).trans hme) rfl
  obtain ⟨b2,hb2,e2⟩:=hyy
  subst q4
  rw [q1] at hb2;cases hb2
  obtain ⟨dd,hu,_,hsay⟩:=(hE _ i hi).desc
  simp only [TI.says,hk] at hsay
  subst hsay
  obtain ⟨dd2,hu2,_,hsay2⟩:=(hE _ i2 hi2).desc
  simp only [TI.says,hk2] at hsay2
  subst hsay2
  have e3:c.args.map a.eval=#[a.eval x',a.eval y']:=by apply Array.ext';simp [hxy]
  have e4:c.argTypes[0]? = some t:=by rw [<- Array.getElem?_toList,hts];rfl
  have e5:c.argTypes[1]? = some t2:=by rw [<- Array.getElem?_toList,hts];rfl
  have hcm:len*j.size+len2*j.size<=cap*j.size:=by rw [<- Nat.add_mul];exact Nat.mul_le_mul_right _ hcap
  have hld:(loadCells ⟨k2,off2,none⟩ (len2*j.size)).run E.P w=.ok (B.extract off2 (off2+len2*j.size)) w:=pu q2 (by rw [q3];exact hn1)
  have hst:(storeCells ⟨k1,off+len*j.size,none⟩ (B.extract off2 (off2+len2*j.size)).toList).run E.P w=.ok () (w.setCells k1 (off+len*j.size) (B.extract off2 (off2+len2*j.size)).toList):=gR g2 (by simp;omega) (fun v hv=>by
   have h8:=(Array.all_eq_true_iff_forall_mem.1 hone) v
   refine h8 ?_
   have h9:v∈B.extract off2 (off2+len2*j.size):=Array.mem_toList_iff.1 hv
   rw [Array.mem_iff_getElem?] at h9 ⊢
   obtain ⟨z,hz⟩:=h9
   rw [Array.getElem?_extract] at hz
   split at hz
   ·exact ⟨_,hz⟩
   ·cases hz)
  obtain ⟨r1,r2,r3,r4⟩:=dk k1 (B.extract off2 (off2+len2*j.size)).toList (off+len*j.size) w
  refine ⟨ρ,.slice (some ⟨k1,off,none⟩) (len+len2) cap,w.setCells k1 (off+len*j.size) (B.extract off2 (off2+len2*j.size)).toList,?_,Ext.refl _,⟨k1,g1,rfl⟩,h2.of_old r1 r2 r3 r4 g1 (dC _ _ _ _ g2) ⟨by rw [co,g3],rfl⟩ (fun j hj=>cS _ _ _ _ hj)⟩
  simp only [execOp,ho,resolve,hc,e3,Sem.run_bind,Sem.run_pure,Result.andThen_ok,invoke,builtin,Builtin.append_,e1,e2]
  simp [-Array.toList_extract,e4,e5,Sem.run_bind,run_underlying hu,run_underlying hu2,run_sizeOf (hE _ j hj),Builtin.lenOf,Builtin.firstCells,hcap,hld,Addr.add_mid,hst]
theorem s9 (hE:VOk E) {t:TypeId} {l c:Operand} (ho:o.op=.makeSlice t l c) (h:nY E o f m K t l c):fy E o f m K:=by
 unfold nY at h
 split at h
 case h_2=>exact h.elim
 rename_i d i kl l' kc c' hd hi hl hc
 split at h
 case h_2=>exact h.elim
 rename_i j hm hpk hk hj
 obtain ⟨h0,hlc,h63,⟨q,hq,hb⟩,Z,hZ,h⟩:=h
 subst hZ
 refine ⟨_,_,_,aT (R:=[d]) (v:=SV.sl d 0 l'.toNat c'.toNat) (U:=[(d,Blk.row i.elem (c'.toNat*j.size) (madeCells j.zero (c'.toNat*j.size)))]) fun f' m' ρ a w hf hmm h1 h2=>?_,bS,h⟩
 have hm':m' d=none:=(hmm d (by simp)).trans hm
 have hll:=az h1 l
 rw [hf l (by simp [ho,Op.operands]),hl] at hll
 have hll:=bf hll
 have hcc:=az h1 c
 rw [hf c (by simp [ho,Op.operands]),hc] at hcc
 have hcc:=bf hcc
 obtain ⟨dd,hu,_,hsay⟩:=(hE _ i hi).desc
 simp only [TI.says,hk] at hsay
 subst hsay
 have hjj:=hE _ j hj
 have hs:q.size=j.size:=by have:=hjj.size;rw [hq] at this;simpa using this
 obtain ⟨z,hz,hzc⟩:∃ z,q.zero=some z/\z.cells=j.zero:=by
  have:=hjj.zero
  rw [hq] at this
  simpa [Option.map_eq_some_iff] using this
 have hr:=run_make (P:=E.P) w t i.elem q z hu hq hz kl kc l' c' h0 hlc hb h63
 rw [hzc,hs] at hr
 refine ⟨ρ.set d w.heap.size,.slice (some ⟨w.heap.size,0,none⟩) l'.toNat c'.toNat,w.alloc (.cells (madeCells j.zero (c'.toNat*j.size)) i.elem),?_,Rho.set_ext (h2.dom d hm'),⟨w.heap.size,by simp [Rho.set],rfl⟩,h2.alloc hm' hpk ⟨size_madeCells _ _,rfl⟩⟩
 simp only [execOp,ho,hll,hcc,Sem.run_bind,hr,Result.andThen_ok,Sem.run_pure]
theorem qC {ρ:Rho} {a:Act} {f':Frm} (h1:Fr E.toEnv ρ f' a):∀ {l:List (Nat×Operand)} {r:List (Nat×Value)},(∀ x∈l,evF f' x.2=evF (aB f) x.2)->iK f l=some r->l.map (fun p=>(p.1,a.eval p.2))=r
 | [],r,_,h=>by simp only [iK,Option.some.injEq] at h;subst h;rfl
 | (i,x) :: l,r,hf,h=>by
  simp only [iK] at h
  split at h
  ·rename_i v r' hv hr
   simp only [Option.some.injEq] at h;subst h
   have hxx:=az h1 x
   rw [hf (i,x) (by simp),hv] at hxx
   have hxx:=bf hxx
   rw [List.map_cons,qC h1 (fun y hy=>hf y (by simp [hy])) hr,hxx]
  ·cases h
theorem rz (hE:VOk E) {t:TypeId} {len:Nat} {parts:Array (Nat×Operand)} (ho:o.op=.buildSlice t len parts) (h:kK E o f m K t len parts):fy E o f m K:=by
 unfold kK at h
 split at h
 case h_2=>exact h.elim
 rename_i d i ps hd hi hps
 split at h
 case h_2=>exact h.elim
 rename_i j hm hpk hk hj
 obtain ⟨h24,h0,A,hA,hsz,h⟩:=h
 refine ⟨_,_,_,aT (R:=[d]) (v:=SV.sl d 0 len len) (U:=[(d,Blk.row i.elem (len*j.size) A)]) fun f' m' ρ a w hf hmm h1 h2=>?_,bS,h⟩
 have hm':m' d=none:=(hmm d (by simp)).trans hm
 obtain ⟨dd,hu,_,hsay⟩:=(hE _ i hi).desc
 simp only [TI.says,hk] at hsay
 subst hsay
 obtain ⟨z,hz,hzc⟩:=je (hE _ j hj) w
 have e1:parts.toList.map (fun p=>(p.1,a.eval p.2))=ps:=qC h1 (fun x hx=>hf x.2 (by rw [ho];simp only [Op.operands,List.mem_map];exact ⟨x,hx,rfl⟩)) hps
 have e2:(parts.map fun (i,x)=>(i,a.eval x)).toList=ps:=by rw [<- e1];simp
 refine ⟨ρ.set d w.heap.size,.slice (some ⟨w.heap.size,0,none⟩) len len,w.alloc (.cells A i.elem),?_,Rho.set_ext (h2.dom d hm'),⟨w.heap.size,by simp [Rho.set],rfl⟩,h2.alloc hm' hpk ⟨hsz,rfl⟩⟩
 have hb:(Instr.buildSlice t len (parts.map fun (i,x)=>(i,a.eval x))).run E.P w=.ok (.slice (some ⟨w.heap.size,0,none⟩) len len) (w.alloc (.cells A i.elem)):=by
  unfold Instr.buildSlice
  simp only [Sem.run_bind,run_underlying hu,Result.andThen_ok,run_sizeOf (hE _ _ hj)]
  rw [if_neg (by show ¬ (16777216 < len*j.size);omega)]
  simp only [Sem.run_bind,Sem.run_pure,Result.andThen_ok,if_neg (show ¬ len*j.size=0 by omega),hz,e2,hzc]
  have hA':Instr.fill (fun i=>some (i*j.size,j.size)) ((Array.range (len*j.size)).map (j.zero[· % j.zero.size]!)) ps=some A:=hA
  rw [hA']
  simp [newRow]
 simp only [execOp,ho,Sem.run_bind,Sem.run_pure]
 rw [hb]
 simp
theorem D8 (hE:VOk E) {c:Call} (ho:o.op=.call c) (h:w7 E o f m K c):fy E o f m K:=by
 unfold w7 at h
 split at h
 ·rename_i x hc
  split at h
  ·rename_i g all hg
   rcases h with ⟨v,hp,h⟩ | ⟨pre,v,post,hp,hpre,hpost,h⟩
   ·exact ⟨_,_,_,Gs ho hc hg hp,aX,h⟩
   ·have hpost':∀ p,p∈post->aw pre p.1=none->aw m p.1=none/\E.pk.any (·.1 == p.1)=false:=fun p hpp hn=>by
      have:=List.all_eq_true.1 hpost p hpp
      simpa [hn] using this
    refine ⟨_,_,_,JU ho hc hg hp (fun p hpp=>ig (qj hpre p hpp) (hp.2.1 p hpp)) hpost',fun d B hb=>?_,h⟩
    rw [e9] at hb
    simp only [List.mem_append,List.mem_map]
    exact .inr ⟨_,aW hb,rfl⟩
  ·exact h.elim
 ·rename_i b hc
  split at h
  case h_2=>exact D5 hE ho hc h
  rename_i xs hx
  obtain ⟨r,hr,h⟩:=h
  refine ⟨_,_,_,bg (v:=SV.c r) fun f' ρ a w hf h1 hw=>?_,aX,h⟩
  have hl:∀ (l:List Operand) (r:List Value),(∀ x∈l,x∈o.op.operands.toList)->l.map (fun x=>eY (evF (aB f) x))=r.map some->l.map a.eval=r:=by
   intro l
   induction l with
   | nil=>intro r _ h;cases r with
    | nil=>rfl
    | cons _ _=>simp at h
   | cons x l ih=>intro r hin h;cases r with
    | nil=>simp at h
    | cons u r =>
     simp only [List.map_cons,List.cons.injEq] at h ⊢
     exact ⟨sJ h1 (hf x (hin x (by simp))) h.1,ih r (fun y hy=>hin y (by simp [hy])) h.2⟩
  have e1:=hl c.args.toList xs (fun x hx=>by rw [ho];exact bV hx) (gU hx)
  have e2:c.args.map a.eval=xs.toArray:=by apply Array.ext';simpa using e1
  refine ⟨r,?_,rfl⟩
  simp only [execOp,ho,resolve,hc,e2,Sem.run_bind,Sem.run_pure,Result.andThen_ok,invoke]
  exact hr w hw
 ·exact h.elim
theorem qD {ρ:Rho} {a:Act} {f':Frm} (hF:Fr E.toEnv ρ f' a) (hf:∀ x,x∈o.op.operands.toList->evF f' x=evF (aB f) x):∀ {x:Option Operand} {v:Option Value},(∀ y,x=some y->y∈o.op.operands.toList)->qE f x=some v->x.map a.eval=v
 | none,v,_,h=>by simp only [qE,Option.some.injEq] at h;rw [<- h];rfl
 | some x,v,hin,h=>by
  simp only [qE] at h
  split at h
  ·rename_i u hu
   simp only [Option.some.injEq] at h
   have hxx:=az hF x
   rw [hf x (hin x rfl),hu] at hxx
   have hxx:=bf hxx
   rw [<- h,Option.map_some,hxx]
  ·cases h
theorem rR {P:Program} {w:World} {y:Nat} {k:IntKind} {n:Int} {code:BoundsCode} (h0:0<=n) (h1:n<=y):(Instr.sliceBound (.int k n) y code).run P w=.ok n.toNat w:=by
 simp only [Instr.sliceBound,asIntOf,Sem.run_bind,Sem.run_pure,Result.andThen_ok]
 rw [if_pos ⟨h0,h1⟩]
 rfl
theorem CR {ρ:Rho} {a:Act} {f':Frm} (hF:Fr E.toEnv ρ f' a) (hf:∀ x,x∈o.op.operands.toList->evF f' x=evF (aB f) x):∀ {x:Option Operand} {n:Nat} {l:Int},(∀ y,x=some y->y∈o.op.operands.toList)->ID f x n=some l->(x.map a.eval=none/\l=n)\/∃ k,x.map a.eval=some (.int k l)
 | none,n,l,_,h=>by simp only [ID,Option.some.injEq] at h;exact .inl ⟨rfl,h.symm⟩
 | some x,n,l,hin,h=>by
  simp only [ID] at h
  split at h
  ·rename_i k u hu
   simp only [Option.some.injEq] at h
   have hxx:=az hF x
   rw [hf x (hin x rfl),hu] at hxx
   have hxx:=bf hxx
   exact .inr ⟨k,by rw [Option.map_some,hxx,h]⟩
  ·cases h
theorem Aw (hE:VOk E) {t:TypeId} {x:Operand} {lo hi mx:Option Operand} (ho:o.op=.slice t x lo hi mx) (h:zA E f K t x lo hi mx):fy E o f m K:=by
 have hlo:∀ y,lo=some y->y∈o.op.operands.toList:=fun y hy=>by simp [ho,Op.operands,hy]
 have hhi:∀ y,hi=some y->y∈o.op.operands.toList:=fun y hy=>by simp [ho,Op.operands,hy]
 have hmx:∀ y,mx=some y->y∈o.op.operands.toList:=fun y hy=>by simp [ho,Op.operands,hy]
 unfold zA at h
 split at h
 ·rename_i d off hx
  split at h
  ·rename_i i hi'
   split at h
   ·rename_i j l hh hk hj hl hr
    obtain ⟨h0,h1,h2,h3,h⟩:=h
    refine ⟨_,_,_,bg fun f' ρ a w hf hF _=>?_,aX,h⟩
    have hxx:=az hF x
    rw [hf x (by simp [ho,Op.operands]),hx] at hxx
    obtain ⟨b,hb,e⟩:=hxx
    obtain ⟨dd,hu,_,hs⟩:=(hE t i hi').desc
    simp only [TI.says,hk] at hs
    subst hs
    have hbl:=CR hF hf hlo hl
    have hbr:=CR hF hf hhi hr
    have hne:¬ i.len=l.toNat:=by omega
    refine ⟨.slice (some ⟨b,off+l.toNat*j.size,none⟩) (hh.toNat - l.toNat) (i.len - l.toNat),?_,b,hb,by rw [pH]⟩
    have hbd:(Instr.sliceBounds false i.len i.len (lo.map a.eval) (hi.map a.eval) none).run E.P w=.ok (l.toNat,hh.toNat,i.len) w:=by
     unfold Instr.sliceBounds
     rcases hbl with ⟨e1,e2⟩ | ⟨k,e1⟩<;>rcases hbr with ⟨e3,e4⟩ | ⟨k',e3⟩<;>rw [e1,e3]
     ·simp [e2,e4]
     ·simp only [Sem.run_bind,Sem.run_pure,Result.andThen_ok,Bool.false_eq_true,if_false,rR (show 0<=hh by omega) h2]
      simp [e2]
     ·have h5:l<=(i.len:Int):=by omega
      simp only [Sem.run_bind,Sem.run_pure,Result.andThen_ok,Option.isSome_none,Bool.false_eq_true,if_false,rR h0 h5]
      simp [e4]
     ·have h5:l<=(hh.toNat:Int):=by omega
      simp only [Sem.run_bind,Sem.run_pure,Result.andThen_ok,Option.isSome_none,Bool.false_eq_true,if_false,rR (show 0<=hh by omega) h2,rR h0 h5]
    simp only [execOp,ho,e,Instr.sliceAt,Sem.run_bind,run_underlying hu,Result.andThen_ok,Instr.sureAddr,Sem.run_pure,Option.map_none,hbd,run_sizeOf (hE _ j hj),if_neg hne,Addr.add_mid]
   ·exact h.elim
  ·exact h.elim
 ·rename_i u hx
  split at h
  ·rename_i lo' hi' mx' hl hr hm
   obtain ⟨r,hr',h⟩:=h
   refine ⟨_,_,_,bg (v:=SV.c r) fun f' ρ a w hf hF hw=>⟨r,?_,rfl⟩,aX,h⟩
   have hxx:=az hF x
   rw [hf x (by simp [ho,Op.operands]),hx] at hxx
   have hxx:=bf hxx
   simp only [execOp,ho,hxx,qD hF hf hlo hl,qD hF hf hhi hr,qD hF hf hmx hm,Sem.run_bind,hr' w hw,Result.andThen_ok,Sem.run_pure]
  ·exact h.elim
 ·exact h.elim
theorem yp (hE:VOk E) {dst:TypeId} {x:Operand} (ho:o.op=.sliceToArrayPointer dst x) (h:vD E f K dst x):fy E o f m K:=by
 unfold vD at h
 split at h
 ·rename_i d off len cap hx
  split at h
  ·rename_i i hi
   split at h
   ·rename_i hk
    refine ⟨_,_,_,bg fun f' ρ a w hf hF _=>?_,aX,h.2⟩
    have hxx:=az hF x
    rw [hf x (by simp [ho,Op.operands]),hx] at hxx
    obtain ⟨b,hb,e⟩:=hxx
    obtain ⟨dd,hu,_,hs⟩:=(hE dst i hi).desc
    simp only [TI.says,hk] at hs
    subst hs
    refine ⟨.pointer (some ⟨b,off,none⟩),?_,b,hb,rfl⟩
    simp only [execOp,ho,e,Instr.arrayAt,Sem.run_bind,run_underlying hu,Result.andThen_ok,if_neg (Nat.not_lt.2 h.1),Sem.run_pure]
   ·exact h.elim
  ·exact h.elim
 ·exact h.elim
theorem cP (hE:VOk E) (h:vop E o f m K):fy E o f m K:=by
 unfold vop at h
 cases ho:o.op<;>rw [ho] at h<;>simp only at h
 case move x=>exact uL (.inl ho) h
 case assign x=>exact uL (.inr ho) h
 case pick=>exact D4 ho h
 case alloc=>exact AB hE ho h
 case box=>exact HH hE ho h
 case load=>exact D6 hE ho h
 case store=>exact Av hE ho h
 case fieldAddr=>exact tc hE ho h
 case indexAddr=>exact ta hE ho h
 case nilCheck=>exact t8 ho h
 case extract=>exact ws ho h
 case binOp=>exact HJ hE ho h
 case unOp=>exact Kr ho h
 case convert=>exact D7 hE ho h
 case field=>exact Ay ho h
 case index=>exact Ax ho h
 case build=>exact Az hE ho h
 case makeFunc=>exact ua ho h
 case call=>exact D8 hE ho h
 case makeSlice=>exact s9 hE ho h
 case buildSlice=>exact rz hE ho h
 case slice=>exact Aw hE ho h
 case sliceToArrayPointer=>exact yp hE ho h
def br (E:VE) (o:Oper) (f:bB) (m:aA) (T:List Key->Prop) (K:VK):Prop :=
 (∃ v R U,Out E.toEnv o (aB f) (aw m) R v U/\(∀ d B,lk U d=some B->d∈R)/\K v R U) \/
 (∃ R C,Lm E.toEnv o (aB f) (aw m) R C/\(∀ v U,C v U->∀ d B,lk U d=some B->d∈R)/\T R/\∀ v U,C v U->K v R U)
/-! ### lists of the call's own -/
section
variable (E:VE) (o:Oper) (f:bB) (m:aA) (T:List Key->Prop) (K:VK)
def Fv (ty:TypeId) (u:Value):Prop:=(∃ r,bH E.toEnv (Instr.loadAt ty u) r/\K (SV.c r) [] []) \/
 (∃ d g off n cap e sz A,u=.pointer (some ⟨g,off,none⟩)/\aw m d=some (Blk.own (.slice (some ⟨g,0,none⟩) n cap) e sz n A)/\match E.tt ty with
  | some i=>match i.row with
   | true=>off+i.size<=A.size/\∃ B,A.extract off (off+i.size)=B/\K (SV.c (.agg B)) [d] []
   | false=>∃ v,A[off]? = some v/\K (SV.c v) [d] []
  | none=>False)
def Bv (ty:TypeId) (u:Value) (y:SV):Prop :=
 ∃ d g off n cap e sz A,u=.pointer (some ⟨g,off,none⟩)/\aw m d=some (Blk.own (.slice (some ⟨g,0,none⟩) n cap) e sz n A)/\match E.tt ty with
  | some i=>match i.row,y with
   | true,.inl (.agg B)=>off+i.size<=A.size/\Fits B i.size/\∃ A',aM A off B.toList=A'/\K (SV.c undef) [d] [(d,Blk.own (.slice (some ⟨g,0,none⟩) n cap) e sz n A')]
   | false,.inl v=>match i.size with
    | 1=>off < A.size/\v.oneCell'=true/\∃ A',A.setIfInBounds off v=A'/\K (SV.c undef) [d] [(d,Blk.own (.slice (some ⟨g,0,none⟩) n cap) e sz n A')]
    | _=>False
   | _,_=>False
  | none=>False
def vA (t:TypeId) (u v:Value):Prop:=match u,v with
 | .slice (some ⟨g,off,none⟩) n _,.int _ x=>match E.tt t with
  | some i=>match i.kind,E.tt i.elem with
   | 3,some j=>0<=x/\x < n/\K (SV.c (.pointer (some ⟨g,aO off x j.size,none⟩))) [] []
   | _,_=>False
  | none=>False
 | u,v=>∃ r,bH E.toEnv (Instr.indexAt t u v) r/\K (SV.c r) [] []
def vB (s:TypeId) (u:Value) (fld:Nat):Prop:=match u with
 | .pointer (some ⟨g,off,none⟩)=>match E.tt s with
  | some i=>match i.kind,i.fields[fld]? with
   | 1,some (fo,fty)=>match E.tt fty with
    | some j=>match j.size with
     | 0=>False
     | _+1=>K (SV.c (.pointer (some ⟨g,off+fo,none⟩))) [] []
    | none=>False
   | _,_=>False
  | none=>False
 | u=>∃ r,bH E.toEnv (Instr.fieldAt s u fld) r/\K (SV.c r) [] []
def Bw (d:Key) (_v:Value) (e:TypeId) (sz n:Nat) (A:Array Value) (R:List Key) (k:Nat) (X:Array Value):Prop :=
 0 < n+k/\n+k<=maxLen/\(∃ q,E.P.info? e=some q/\(n+k)*q.bytes<=140737488355328)/\T (d :: R)/\∀ g cap,K (SV.c (.slice (some ⟨g,0,none⟩) (n+k) cap)) (d :: R) [(d,Blk.own (.slice (some ⟨g,0,none⟩) (n+k) cap) e sz (n+k) (A++X))]
def AT:Value->Bool
 | .slice _ 0 _=>true
 | _=>false
def vE (t:TypeId) (v:Value) (s:SV):Prop:=match E.tt t with
 | some i=>match i.kind,E.tt i.elem with
  | 3,some j=>0 < j.size/\∃ d n A,(aw m d=some (Blk.own v i.elem j.size n A)\/(v=.slice none 0 0/\n=0/\A=#[]/\aw m d=none))/\match s with
   | .inr (.inr (.inl (d2,off,k,_)))=>match aw m d2 with
    | some (.inl (_,n2,B))=>off+k*j.size<=n2/\B.all (·.oneCell')=true/\B.size=n2/\∃ X,B.extract off (off+k*j.size)=X/\Bw E T K d v i.elem j.size n A [d2] k X
    | _=>False
   | .inl u=>(AT u=true/\K (SV.c v) [d] [])\/∃ R k X,Src E.toEnv (aw m) R (.inl u) j.size k X/\Bw E T K d v i.elem j.size n A R k X
   | s=>∃ R k X,Src E.toEnv (aw m) R s j.size k X/\Bw E T K d v i.elem j.size n A R k X
  | _,_=>False
 | none=>False
def qr (t:TypeId) (len:Nat) (parts:Array (Nat×Operand)):Prop:=match o.dst,E.tt t,iK f parts.toList with
 | some d,some i,some ps=>match aw m d,i.kind,E.tt i.elem with
  | none,3,some j=>len*j.size<=16777216/\(0 < len*j.size\/len=0)/\len<=maxLen/\∃ A,Instr.fill (fun k=>some (k*j.size,j.size)) (madeCells j.zero (len*j.size)) ps=some A/\A.size=len*j.size/\T [d]/\∀ g,K (SV.c (.slice (some ⟨g,0,none⟩) len len)) [d] [(d,Blk.own (.slice (some ⟨g,0,none⟩) len len) i.elem j.size len A)]
  | _,_,_=>False
 | _,_,_=>False
def tw (σ:List (Key×Key)):aA->Prop
 | []=>True
 | (d,B) :: r=>(match B with
  | .inr (.inr (.inl (v,e,sz,n,A)))=>aw m (dn σ d)=some (Blk.own v e sz n A)\/(v=.slice none 0 0/\n=0/\A=#[]/\aw m (dn σ d)=none)
  | B=>aw m (dn σ d)=some B)/\tw σ r
def wQ (σ:List (Key×Key)) (as:List SV) (pre:aA):Bool:=distinct (keysM pre) && pre.all (fun p=>jx p.2) && as.all (fun s=>(iG s).all (bY pre)) && At σ (keysM pre)
def ra (σ:List (Key×Key)) (ks:List Key) (pre U:aA):Bool :=
 U.all (fun p=>jx p.2 && ((aw pre p.1).isSome || (ks.contains (dn σ p.1) && (aw m (dn σ p.1)).isNone))) && pre.all (fun p=>(aw U p.1).isSome) && At σ (keysM pre++keysM U)
def vC (g:FuncId) (all:List SV):Prop :=
 (∃ σ as pre r U,OwnC E.toEnv g as pre (fun x U'=>x=r/\U'=U)/\as.map (JF σ)=all/\tw m σ pre/\wQ σ as pre=true/\ra m σ [] pre U=true/\K (SV.c r) (keysM (dW σ pre)) (dW σ U)) \/
 (∃ σ ks as pre Q,OwnC E.toEnv g as pre Q/\as.map (JF σ)=all/\tw m σ pre/\wQ σ as pre=true/\T (keysM (dW σ pre)++ks)/\∀ x U,Q x U->ra m σ ks pre U=true/\K (SV.c x) (keysM (dW σ pre)++ks) (dW σ U))
def Pu (tt:TypeId->Option TI) (t:TypeId):Bool:=match tt t with
 | some i=>Nat.beq i.kind 3
 | none=>false
def Pt (tt:TypeId->Option TI) (t:TypeId):Bool:=match tt t with
 | some i=>Nat.beq i.kind 4 && (match i.ik with
  | .u8=>true
  | _=>false)
 | none=>false
def Ms:Prop:=match o.op with
 | .load ty x=>match Pt E.tt ty with
  | true=>br E o f m T K
  | false=>match evF (aB f) x with
   | .inl u=>Fv E m K ty u
   | _=>vop E o f m K
 | .store ty x y=>match Pt E.tt ty with
  | true=>br E o f m T K
  | false=>match evF (aB f) x with
   | .inl u=>Bv E m K ty u (evF (aB f) y)
   | _=>vop E o f m K
 | .indexAddr t x ix=>match evF (aB f) x,evF (aB f) ix with
  | .inl u,.inl v=>vA E K t u v
  | _,_=>vop E o f m K
 | .fieldAddr s x fld=>match evF (aB f) x with
  | .inl u=>vB E K s u fld
  | _=>vop E o f m K
 | .buildSlice t len parts=>match Nat.beq len 0 with
  | true=>br E o f m T K
  | false=>vop E o f m K\/qr E o f m T K t len parts
 | .convert src dst _=>match Pu E.tt src || Pu E.tt dst with
  | true=>br E o f m T K
  | false=>vop E o f m K
 | .call c=>match c.callee with
  | .value x=>match callee (evF (aB f) x) (c.args.toList.map (evF (aB f))) with
   | some (g,all)=>(∃ v,ay E.P g all v/\K (SV.c v) [] []) \/
    (∃ pre v post,Own E.toEnv g all pre v post/\fZ m pre/\LK E m pre post=true/\K v (pre.map (·.1)++post.map (·.1)) post)\/vC E m T K g all
   | none=>False
  | .builtin .append=>match c.args.toList,c.argTypes.toList with
   | [x,y],[t,t2]=>match evF (aB f) x,Nat.beq t t2 with
    | .inl v,true=>vE E m T K t v (evF (aB f) y)
    | .inr (.inr (.inl (_,_,_,0))),true=>br E o f m T K
    | _,_=>vop E o f m K
   | _,_=>vop E o f m K
  | .builtin .delete=>br E o f m T K
  | .builtin .clear=>br E o f m T K
  | .invoke ..=>br E o f m T K
  | _=>vop E o f m K
 | .makeMap ..=>br E o f m T K
 | .mapUpdate ..=>br E o f m T K
 | .range ..=>br E o f m T K
 | .next ..=>br E o f m T K
 | .entry ..=>br E o f m T K
 | .lookup ..=>br E o f m T K
 | .makeInterface ..=>br E o f m T K
 | _=>vop E o f m K
def I8:Prop:=match E.own with
 | false=>vop E o f m K
 | true=>Ms E o f m T K
end
section
variable {E:VE} {o:Oper} {f:bB} {m:aA} {T:List Key->Prop} {K:VK}
theorem AD (hE:VOk E) {ty:TypeId} {x:Operand} {u:Value} (ho:o.op=.load ty x) (hx:evF (aB f) x=.inl u) (h:Fv E m K ty u):br E o f m T K:=by
 rcases h with ⟨r,hr,h⟩ | ⟨d,g,off,n,cap,e,sz,A,rfl,hm,h⟩
 ·refine .inl ⟨_,_,_,gf (s:=fun v=>Instr.loadAt ty v) (x:=x) (u:=u) (r:=r) (fun a=>by simp [execOp,ho]) (by simp [ho,Op.operands]) hx hr,aX,h⟩
 ·split at h
  ·rename_i i hi
   split at h
   ·rename_i hr
    obtain ⟨hn,B,rfl,h⟩:=h
    exact .inl ⟨_,_,_,qI hE ho hx hm hi hr hn,jF,h⟩
   ·rename_i hr
    obtain ⟨v,hv,h⟩:=h
    exact .inl ⟨_,_,_,pF hE ho hx hm hi hr hv,jF,h⟩
  ·exact h.elim
theorem yq (hE:VOk E) {ty:TypeId} {x y:Operand} {u:Value} (ho:o.op=.store ty x y) (hx:evF (aB f) x=.inl u) (h:Bv E m K ty u (evF (aB f) y)):br E o f m T K:=by
 obtain ⟨d,g,off,n,cap,e,sz,A,rfl,hm,h⟩:=h
 split at h
 ·rename_i i hi
  split at h
  ·rename_i B hr hy
   obtain ⟨hn,hB,A',rfl,h⟩:=h
   exact .inl ⟨_,_,_,pE hE ho hx hy hm hi hB hn,bS,h⟩
  ·rename_i v hr hy
   split at h
   ·rename_i hs
    obtain ⟨hn,hv,A',rfl,h⟩:=h
    exact .inl ⟨_,_,_,ou hE ho hx hy hm hi hs hv hn,bS,h⟩
   ·exact h.elim
  ·exact h.elim
 ·exact h.elim
theorem yr (hE:VOk E) {t:TypeId} {x ix:Operand} {u v:Value} (ho:o.op=.indexAddr t x ix) (hx:evF (aB f) x=.inl u) (hi:evF (aB f) ix=.inl v) (h:vA E K t u v):br E o f m T K:=by
 have key:∀ r,bH E.toEnv (Instr.indexAt t u v) r->Out E.toEnv o (aB f) (aw m) [] (SV.c r) []:=fun r hr =>
  jz (s:=fun p q=>Instr.indexAt t p q) (x:=x) (y:=ix) (u:=u) (v:=v) (r:=r) (fun a=>by simp [execOp,ho]) (by simp [ho,Op.operands]) (by simp [ho,Op.operands]) hx hi hr
 unfold vA at h
 split at h
 ·split at h
  ·rename_i i hi2
   split at h
   ·rename_i j hk hj
    obtain ⟨h0,h1,h⟩:=h
    exact .inl ⟨_,_,_,key _ (runs_index hE hi2 hk hj h0 h1),aX,h⟩
   ·exact h.elim
  ·exact h.elim
 ·obtain ⟨r,hr,h⟩:=h
  exact .inl ⟨_,_,_,key r hr,aX,h⟩
theorem yu (hE:VOk E) {s:TypeId} {x:Operand} {fld:Nat} {u:Value} (ho:o.op=.fieldAddr s x fld) (hx:evF (aB f) x=.inl u) (h:vB E K s u fld):br E o f m T K:=by
 have key:∀ r,bH E.toEnv (Instr.fieldAt s u fld) r->Out E.toEnv o (aB f) (aw m) [] (SV.c r) []:=fun r hr =>
  gf (s:=fun p=>Instr.fieldAt s p fld) (x:=x) (u:=u) (r:=r) (fun a=>by simp [execOp,ho]) (by simp [ho,Op.operands]) hx hr
 unfold vB at h
 split at h
 ·split at h
  ·rename_i i hi2
   split at h
   ·rename_i fo fty hk hf0
    split at h
    ·rename_i j hj
     split at h
     ·exact h.elim
     ·rename_i hz
      exact .inl ⟨_,_,_,key _ (zX hE hi2 hk hf0 hj (by rw [hz];exact Nat.succ_ne_zero _)),aX,h⟩
    ·exact h.elim
   ·exact h.elim
  ·exact h.elim
 ·obtain ⟨r,hr,h⟩:=h
  exact .inl ⟨_,_,_,key r hr,aX,h⟩
theorem Ep {u:Value} (h:AT u=true):∃ a c,u=.slice a 0 c:=by
 unfold AT at h
 split at h
 ·exact ⟨_,_,rfl⟩
 ·cases h
theorem jw {P:Program} (w:World) (base:Nat) (t ty e:TypeId) (i:TypeInfo) (size:Nat) (ht:P.underlying t=some (.slice e)) (hi:P.info? e=some i) (v:Value) (n:Nat) (xs:List Value) (hown:w.ownsRow base e size v n xs) (a:Option Addr) (c:Nat) :
    (Builtin.append_ #[t,t] ty #[v,.slice a 0 c]).run P w=.ok v w:=by
 have hf:(Builtin.firstCells i.size 0 (.slice a 0 c)).run P w=.ok #[] w:=by
  cases a with
  | none=>simp [Builtin.firstCells]
  | some b=>exact run_firstCells_some w _ 0 b 0 c [] (by simp) (fun j v h=>by cases h)
 rcases hown.2 with ⟨rfl,rfl⟩ | ⟨g,cap,cur,rfl,_,_,hnc,_⟩
 ·simp [Builtin.append_,run_underlying ht,sizeOf,typeInfo,hi,Builtin.lenOf,hf]
 ·simp [Builtin.append_,run_underlying ht,sizeOf,typeInfo,hi,Builtin.lenOf,hf,hnc,storeCells]
theorem wu (hE:VOk E) {c:Call} {x y:Operand} {t t2:TypeId} {v:Value} (ho:o.op=.call c) (hc:c.callee=.builtin .append) (hargs:c.args.toList=[x,y]) (hty:c.argTypes.toList=[t,t2]) (htt:t2=t) (hx:evF (aB f) x=.inl v) (h:vE E m T K t v (evF (aB f) y)):br E o f m T K:=by
 unfold vE at h
 split at h
 case h_2=>exact h.elim
 rename_i i hi
 split at h
 case h_2=>exact h.elim
 rename_i j hk hj
 obtain ⟨hj0,d,n,A,hent,h⟩:=h
 have key:∀ (s:SV) (R:List Key) (k:Nat) (X:Array Value),evF (aB f) y=s->Src E.toEnv (aw m) R s j.size k X->Bw E T K d v i.elem j.size n A R k X->br E o f m T K:=by
  rintro s R k X hy hsrc ⟨hn,h63,⟨q,hq,hby⟩,hT,hK⟩
  refine .inr ⟨d :: R,I2 d i.elem j.size (n+k) (A++X),xY hE ho hc hargs hty htt hx hy hi hk rfl hj hj0 hent hsrc hn h63 hq hby,?_,hT,?_⟩
  ·rintro s' U ⟨g,cap,rfl,rfl⟩ d' B hB
   simp only [lk] at hB
   by_cases e:d=d'
   ·simp [e]
   ·rw [if_neg e] at hB;cases hB
  ·rintro s' U ⟨g,cap,rfl,rfl⟩
   exact hK g cap
 split at h
 ·rename_i d2 off k cap hy
  split at h
  ·rename_i t0 n2 B hm
   obtain ⟨h1,h2,h3,X,rfl,h⟩:=h
   exact key _ _ _ _ hy (ML hm h1 h2 h3) h
  ·exact h.elim
 ·rename_i u hy
  rcases h with ⟨he,h⟩ | ⟨R,k,X,hs,h⟩
  ·obtain ⟨ea,ec,rfl⟩:=Ep he
   refine .inl ⟨SV.c v,[d],[],aT fun f' m' ρ a w hf hmm hF h2=>?_,jF,h⟩
   have hxx:=az hF x
   rw [hf x (by rw [ho];exact bV (by rw [hargs];simp)),hx] at hxx
   have hxx:=bf hxx
   have hyy:=az hF y
   rw [hf y (by rw [ho];exact bV (by rw [hargs];simp)),hy] at hyy
   have hyy:=bf hyy
   obtain ⟨dd,hu,_,hs⟩:=(hE t i hi).desc
   simp only [TI.says,hk] at hs
   subst hs
   have hsz:=(hE i.elem j hj).size
   obtain ⟨q,hq,hqs⟩:=Option.map_eq_some_iff.1 hsz
   have hentm:m' d=some (Blk.own v i.elem j.size n A)\/(v=.slice none 0 0/\n=0/\A=#[]/\m' d=none):=by
    rw [hmm d (by simp)];exact hent
   have hown:w.ownsRow 0 i.elem j.size v n A.toList:=by
    rcases hentm with h3 | ⟨rfl,rfl,rfl,h3⟩
    ·exact (h2.loose d _ h3 rfl).2
    ·exact World.ownsRow_nil w 0 i.elem j.size
   have hr:=jw (P:=E.P) w 0 t o.type i.elem q j.size hu hq v n A.toList hown ea ec
   have e1:c.args.map a.eval=#[v,.slice ea 0 ec]:=by
    apply Array.ext'
    rw [Array.toList_map,hargs]
    simp [hxx,hyy]
   have e2:c.argTypes=#[t,t]:=by apply Array.ext';rw [hty,htt]
   refine ⟨ρ,v,w,?_,Ext.refl _,rfl,by rw [fJ];exact h2⟩
   simp only [execOp,ho,resolve,hc,e1,e2,Sem.run_bind,Sem.run_pure,Result.andThen_ok,invoke,builtin,hr]
  ·exact key _ R k X hy hs h
 ·obtain ⟨R,k,X,hs,h⟩:=h
  exact key _ R k X rfl hs h
theorem td (hE:VOk E) {t:TypeId} {len:Nat} {parts:Array (Nat×Operand)} (ho:o.op=.buildSlice t len parts) (h:qr E o f m T K t len parts):br E o f m T K:=by
 unfold qr at h
 split at h
 case h_2=>exact h.elim
 rename_i d i ps hd hi hps
 split at h
 case h_2=>exact h.elim
 rename_i j hm hk hj
 obtain ⟨h24,h0,hml,A,hA,hsz,hT,h⟩:=h
 refine .inr ⟨[d],fun s U=>∃ g,s=SV.c (.slice (some ⟨g,0,none⟩) len len)/\U=[(d,Blk.own (.slice (some ⟨g,0,none⟩) len len) i.elem j.size len A)],?_,?_,hT,?_⟩
 ·intro f' m' hf hmm ρ a w h1 h2 K' Q hK
  have hf:=fun x hx=>di (o:=o) hf (x:=x) hx
  have hm':m' d=none:=(hmm d (by simp)).trans hm
  obtain ⟨dd,hu,_,hsay⟩:=(hE _ i hi).desc
  simp only [TI.says,hk] at hsay
  subst hsay
  obtain ⟨z,hz,hzc⟩:=je (hE _ j hj) w
  have e1:parts.toList.map (fun p=>(p.1,a.eval p.2))=ps:=qC h1 (fun x hx=>hf x.2 (by rw [ho];simp only [Op.operands,List.mem_map];exact ⟨x,hx,rfl⟩)) hps
  have e2:(parts.map fun (i,x)=>(i,a.eval x)).toList=ps:=by rw [<- e1];simp
  have hb:(Instr.buildSlice t len (parts.map fun (i,x)=>(i,a.eval x))).run E.P w=.ok (.slice (some ⟨w.heap.size,0,none⟩) len len) (w.alloc (.cells A i.elem)):=by
   unfold Instr.buildSlice
   simp only [Sem.run_bind,run_underlying hu,Result.andThen_ok,run_sizeOf (hE _ _ hj)]
   rw [if_neg (by show ¬ (16777216 < len*j.size);omega)]
   rcases h0 with h0 | rfl
   ·simp only [Sem.run_bind,Sem.run_pure,Result.andThen_ok,if_neg (show ¬ len*j.size=0 by omega),hz,e2,hzc]
    have hA':Instr.fill (fun i=>some (i*j.size,j.size)) ((Array.range (len*j.size)).map (j.zero[· % j.zero.size]!)) ps=some A:=hA
    rw [hA']
    simp [newRow]
   ·simp only [Sem.run_bind,Sem.run_pure,Result.andThen_ok,Nat.zero_mul,if_pos,e2]
    have hA':Instr.fill (fun i=>some (i*j.size,j.size)) ((Array.range 0).map fun x=>(#[]:Array Value)[x % (#[]:Array Value).size]!) ps=some A:=by
     have hA:=hA
     rw [Nat.zero_mul] at hA
     have e0:∀ g:Nat->Value,(Array.range 0).map g=#[]:=fun g=>by
      apply Array.ext'
      simp
     rw [e0]
     unfold madeCells at hA
     rw [e0] at hA
     exact hA
    rw [hA']
    simp [newRow]
  unfold Oper.wp
  have hrun:(execOp a.eval o).run E.P w=.ok (.value (.slice (some ⟨w.heap.size,0,none⟩) len len)) (w.alloc (.cells A i.elem)):=by
   simp only [execOp,ho,Sem.run_bind,Sem.run_pure]
   rw [hb]
   simp
  rw [hrun]
  refine hK ρ (.slice (some ⟨w.heap.size,0,none⟩) len len) _ _ _ ⟨w.heap.size,rfl,rfl⟩ (Ext.refl _) rfl ?_
  refine h2.set_loose (no:=none) (.inl ⟨hm',rfl⟩) rfl rfl rfl (by show _<=(w.heap.push _).size;rw [Array.size_push];omega) (fun k hk' _=>Below.heap_alloc w _ k hk') rfl ?_ (fun b hb=>?_)
  ·refine ⟨by simp [hsz],.inr ⟨w.heap.size,len,A,rfl,Nat.zero_le _,heap_alloc_new w _,Nat.le_refl _,hml,hsz,?_⟩⟩
   rw [List.take_of_length_le (by simp;omega)]
  ·have hb:w.heap.size=b:=by simpa [Blk.num,Value.ownBlock] using hb
   exact .inr (by omega)
 ·rintro s U ⟨g,rfl,rfl⟩ d' B hB
  exact bS d' B hB
 ·rintro s U ⟨g,rfl,rfl⟩
  exact h g
theorem uZ {σ:List (Key×Key)}:∀ {pre:aA},tw m σ pre->∀ p,p∈pre->yN (aw m) (dn σ p.1) p.2
 | (d,B) :: r,h,p,hp=>by
  rcases List.mem_cons.1 hp with rfl | hp
  ·have h1:=h.1
   match B,h1 with
   | .inl _,h1=>exact .inl h1
   | .inr (.inl _),h1=>exact .inl h1
   | .inr (.inr (.inr (_,_))),h1=>exact .inl h1
   | .inr (.inr (.inl (v,e,sz,n,A))),h1 =>
    rcases h1 with h1 | ⟨rfl,rfl,rfl,h1⟩
    ·exact .inl h1
    ·exact .inr ⟨h1,rfl,rfl,fun w=>World.ownsRow_nil w 0 e sz⟩
  ·exact uZ h.2 p hp
def Lo (E:VE) (o:Oper) (f:bB) (g:FuncId) (all:List SV):Prop :=
 ∀ (f':Frm) (ρ:Rho) (a:Act),(∀ t,t∈gm o->f' t=aB f t)->Fr E.toEnv ρ f' a->∃ ys:List Value,fU ρ all ys/\∀ w,(execOp a.eval o).run E.P w=.ok (.enter g ys.toArray) w
theorem CY {c:Call} {x:Operand} {g:FuncId} {all:List SV} (ho:o.op=.call c) (hc:c.callee=.value x) (hg:callee (evF (aB f) x) (c.args.toList.map (evF (aB f)))=some (g,all)) (he:Enters E.P g):Lo E o f g all:=by
 intro f' ρ a hf h1
 have hf:=fun x hx=>di (o:=o) hf (x:=x) hx
 rw [<- hf x (by rw [ho];exact wP hc),<- jO ho hf] at hg
 obtain ⟨ys,hy,hrun⟩:=oC (_E:=E.toEnv) (P:=E.P) (az h1 x) (pw h1 c.args.toList) hg he
 exact ⟨ys,hy,fun w=>by rw [qT ho hc,hrun w]⟩
theorem zm {g:FuncId} {all as:List SV} {pre:aA} {σ:List (Key×Key)} {ks:List Key} {Q:Value->aA->Prop} (hway:Lo E o f g all) (hp:OwnC E.toEnv g as pre Q) (has:as.map (JF σ)=all) (hin:tw m σ pre) (hok:wQ σ as pre=true)
    (hback:∀ x U,Q x U->ra m σ ks pre U=true) {f':Frm} {m':Mem} (hf:∀ t,t∈gm o->f' t=aB f t) (hmm:∀ d,d∈keysM (dW σ pre)++ks->m' d=aw m d) {ρ:Rho} {a:Act} {w:World} (h1:Fr E.toEnv ρ f' a) (h2:Wd E.toEnv ρ m' w) {K':Act->World->Prop} {Q':Exit->Act->World->Prop}
    (hK:∀ x U w',Q x U->Wd E.toEnv ρ (aS m' (dW σ U)) w'->K' (a.put o.dst x) w'):o.wp E.P a w K' Q':=by
 obtain ⟨ys,hy,hrun⟩:=hway f' ρ a hf h1
 simp only [wQ,Bool.and_eq_true] at hok
 obtain ⟨⟨⟨hd,hpl⟩,hks⟩,hi⟩:=hok
 have hpl':∀ p,p∈pre->jx p.2=true:=fun p hp'=>List.all_eq_true.1 hpl p hp'
 have hent:∀ p,p∈pre->yN m' (dn σ p.1) p.2:=fun p hp'=>by
  have hmk:dn σ p.1∈keysM (dW σ pre)++ks:=by
   simp only [List.mem_append,keysM,List.mem_map]
   exact .inl ⟨_,iD (a:=p.1) (B:=p.2) hp',rfl⟩
  rcases uZ hin p hp' with h3 | ⟨h3,h4⟩
  ·exact .inl ((hmm _ hmk).trans h3)
  ·exact .inr ⟨(hmm _ hmk).trans h3,h4⟩
 unfold Oper.wp
 rw [hrun w]
 rw [<- has] at hy
 refine gF (hp.2 _ w ys (h2.handed hd hent hpl' hi) (xE (fun s hs=>List.all_eq_true.1 hks s hs) hy)) fun e w' ⟨x',U,he,hQ,hU,hfr⟩=>⟨x',he,hK x' U w' hQ ?_⟩
 have hb:=hback x' U hQ
 simp only [ra,Bool.and_eq_true] at hb
 obtain ⟨⟨hb1,hb2⟩,hb3⟩:=hb
 refine h2.back hent hU hfr hb3 (fun p hp'=>?_) (fun p hp'=>?_) (fun p hp' hn=>?_)
 ·have:=List.all_eq_true.1 hb1 p hp'
  simp only [Bool.and_eq_true] at this
  exact this.1
 ·have:=List.all_eq_true.1 hb2 p hp'
  exact Option.isSome_iff_exists.1 this
 ·have:=List.all_eq_true.1 hb1 p hp'
  simp only [Bool.and_eq_true,Bool.or_eq_true,hn,Option.isSome_none,Bool.false_eq_true,false_or] at this
  rw [hmm _ (List.mem_append_right _ (by simpa using this.2.1))]
  exact Option.isNone_iff_eq_none.1 this.2.2
theorem vm {σ:List (Key×Key)} {ks:List Key} {pre U:aA} (hb:ra m σ ks pre U=true):∀ d B,lk (dW σ U) d=some B->d∈keysM (dW σ pre)++ks:=by
 intro d B h
 rw [e9] at h
 obtain ⟨a,rfl,h2⟩:=sT h
 simp only [ra,Bool.and_eq_true] at hb
 have:=List.all_eq_true.1 hb.1.1 _ h2
 simp only [Bool.and_eq_true,Bool.or_eq_true] at this
 rw [List.mem_append]
 rcases this.2 with h3 | h3
 ·obtain ⟨B',hB'⟩:=Option.isSome_iff_exists.1 h3
  refine .inl ?_
  simp only [keysM,List.mem_map]
  exact ⟨_,iD (aW hB'),rfl⟩
 ·exact .inr (by simpa using h3.1)
theorem rn {g:FuncId} {all:List SV} (hway:Enters E.P g->Lo E o f g all) (h:vC E m T K g all):br E o f m T K:=by
 rcases h with ⟨σ,as,pre,r,U,hp,has,hin,hok,hb,h⟩ | ⟨σ,ks,as,pre,Q,hp,has,hin,hok,hT,h⟩
 ·refine .inl ⟨SV.c r,keysM (dW σ pre),dW σ U,?_,fun d B hB=>?_,h⟩
  ·intro f' m' hf hmm ρ a w h1 h2 K' Q' hK
   refine zm (ks:=[]) (hway hp.1) hp has hin hok (fun x U' hxu=>by rw [hxu.2];exact hb) hf (fun d hd=>hmm d (by simpa using hd)) h1 h2 fun x' U' w' hxu hw'=>?_
   obtain ⟨rfl,rfl⟩:=hxu
   exact hK ρ x' w' (Ext.refl _) rfl hw'
  ·have:=vm hb d B hB
   simpa using this
 ·refine .inr ⟨keysM (dW σ pre)++ks,fun s U'=>∃ x U,Q x U/\s=SV.c x/\U'=dW σ U,?_,?_,hT,?_⟩
  ·intro f' m' hf hmm ρ a w h1 h2 K' Q' hK
   refine zm (hway hp.1) hp has hin hok (fun x U' hxu=>(h x U' hxu).1) hf hmm h1 h2 fun x' U' w' hxu hw'=>?_
   exact hK ρ x' w' (SV.c x') (dW σ U') ⟨x',U',hxu,rfl,rfl⟩ (Ext.refl _) rfl hw'
  ·rintro s U' ⟨x',U,hxu,rfl,rfl⟩
   exact vm (h x' U hxu).1
  ·rintro s U' ⟨x',U,hxu,rfl,rfl⟩
   exact (h x' U hxu).2
theorem yv {c:Call} {x:Operand} {g:FuncId} {all:List SV} (ho:o.op=.call c) (hc:c.callee=.value x) (hg:callee (evF (aB f) x) (c.args.toList.map (evF (aB f)))=some (g,all)) (h:vC E m T K g all):br E o f m T K:=rn (CY ho hc hg) h
theorem C6 (hE:VOk E) (h:Ms E o f m T K):br E o f m T K:=by
 unfold Ms at h
 split at h
 ·rename_i ty x ho
  split at h
  ·exact h
  ·split at h
   ·rename_i u hx;exact AD hE ho hx h
   ·exact .inl (cP hE h)
 ·rename_i ty x y ho
  split at h
  ·exact h
  ·split at h
   ·rename_i u hx;exact yq hE ho hx h
   ·exact .inl (cP hE h)
 ·rename_i t x ix ho
  split at h
  ·rename_i u v hx hi;exact yr hE ho hx hi h
  ·exact .inl (cP hE h)
 ·rename_i s x fld ho
  split at h
  ·rename_i u hx;exact yu hE ho hx h
  ·exact .inl (cP hE h)
 ·rename_i t len parts ho
  split at h
  ·exact h
  ·rcases h with h | h
   ·exact .inl (cP hE h)
   ·exact td hE ho h
 ·split at h
  ·exact h
  ·exact .inl (cP hE h)
 ·rename_i c ho
  split at h
  ·rename_i x hc
   split at h
   ·rename_i g all hg
    rcases h with h | h | h
    ·refine .inl (cP hE ?_)
     unfold vop w7;rw [ho];simp only [hc,hg];exact .inl h
    ·refine .inl (cP hE ?_)
     unfold vop w7;rw [ho];simp only [hc,hg];exact .inr h
    ·exact yv ho hc hg h
   ·exact h.elim
  ·rename_i hc
   split at h
   ·rename_i x y t t2 hargs hty
    split at h
    ·rename_i v hx htt
     exact wu hE ho hc hargs hty (Nat.eq_of_beq_eq_true htt).symm hx h
    ·exact h
    ·exact .inl (cP hE h)
   ·exact .inl (cP hE h)
  ·exact h
  ·exact h
  ·exact h
  ·exact .inl (cP hE h)
 ·exact h
 ·exact h
 ·exact h
 ·exact h
 ·exact h
 ·exact h
 ·exact h
 ·exact .inl (cP hE h)
theorem C7 (hE:VOk E) (h:I8 E o f m T K):br E o f m T K:=by
 unfold I8 at h
 split at h
 ·exact .inl (cP hE h)
 ·exact C6 hE h
end
def known:List (Nat×Bool)->Nat->Bool
 | [],_=>false
 | (j,_) :: r,i=>if j=i then true else known r i
def HM:SV->(SV->Prop)->Prop
 | .inl v,K=>K (.inl v)
 | .inr (.inl (d,off)),K=>K (.inr (.inl (d,off)))
 | .inr (.inr (.inl (d,off,len,cap))),K=>K (.inr (.inr (.inl (d,off,len,cap))))
 | .inr (.inr (.inr x)),K=>K (.inr (.inr (.inr x)))
theorem D9:∀ (s:SV) (K:SV->Prop),HM s K=K s
 | .inl _,_=>rfl
 | .inr (.inl (_,_)),_=>rfl
 | .inr (.inr (.inl (_,_,_,_))),_=>rfl
 | .inr (.inr (.inr _)),_=>rfl
def ww:aA->(aA->Prop)->Prop
 | [],K=>K []
 | (k,v) :: r,K=>ww r fun r'=>K ((k,v) :: r')
theorem uO:∀ (m:aA) (K:aA->Prop),ww m K=K m
 | [],_=>rfl
 | (k,v) :: r,K=>by rw [ww,uO r]
def Ly (m:aA):List (Key×Blk)->(aA->Prop)->Prop
 | [],K=>K m
 | u :: U,K=>ww (Db m (u :: U)) K
theorem FO (m:aA):∀ (U:List (Key×Blk)) (K:aA->Prop),Ly m U K=K (Db m U)
 | [],_=>rfl
 | _ :: _,_=>uO _ _
def Pg (f:bB) (v:SV):Option Tmp->(bB->Prop)->Prop
 | some d,K=>K ((d,v) :: f)
 | none,K=>K f
theorem JK (f:bB) (v:SV):∀ (d:Option Tmp) (K:bB->Prop),Pg f v d K=K (vX f d v)
 | some _,_=>rfl
 | none,_=>rfl
def sP (f:bB) (d:Option Tmp) (v:SV) (m:aA) (U:List (Key×Blk)) (K:SV->bB->aA->Prop):Prop :=
 HM v fun v=>Ly m U fun m'=>Pg f v d fun f'=>K v f' m'
theorem xZ (f:bB) (d:Option Tmp) (v:SV) (m:aA) (U:List (Key×Blk)) (K:SV->bB->aA->Prop):sP f d v m U K=K v (vX f d v) (Db m U):=by
 rw [sP,D9,FO,JK]
def Gu (ops:Array Oper) (draw:Bool) (L:List Ent) (o:Oper) (R:List Key):Prop:=match draw with
 | true=>(vM ops.toList L.length && eZ ops.toList (L.reverse++[gg o R]))=true
 | false=>True
abbrev VR:=List (Nat×Bool)->bB->aA->List Ent->(bB->aA->Prop)->Prop
section
variable (E:VE) (ops:Array Oper) (draw:Bool) (o:Oper) (ih:VR) (G:List (Nat×Bool)) (f:bB) (m:aA) (L:List Ent) (K:bB->aA->Prop)
def Lr:Prop:=match draw with
 | true=>eZ ops.toList L.reverse=true/\K f m
 | false=>K f m
def Fd:Prop:=I8 E o f m (Gu ops draw L o) fun v R U=>sP f o.dst v m U fun v f' m'=>ih G f' m' (⟨o.dst,v,R,U⟩ :: L) K
def rY:Prop:=sP f o.dst (SV.c undef) m [] fun _ f' m'=>ih G f' m' (⟨o.dst,SV.c undef,[],[]⟩ :: L) K
def zx:Prop:=match o.guard with
 | none=>Fd E ops draw o ih G f m L K
 | some (j,b)=>match rA ops j with
  | none=>False
  | some g=>match known G j,aB f g with
   | true,.inl (.bool true)=>match b with
    | true=>Fd E ops draw o ih G f m L K
    | false=>rY o ih G f m L K
   | true,.inl (.bool false)=>match b with
    | false=>Fd E ops draw o ih G f m L K
    | true=>rY o ih G f m L K
   | false,.inl (.bool t) =>
    (t=b->Fd E ops draw o ih ((j,b) :: G) (vX f (some g) (SV.c (.bool b))) m L K) /\
    (t=!b->rY o ih ((j,b) :: G) (vX f (some g) (SV.c (.bool !b))) m L K)
   | _,.inl (.tuple _)=>rY o ih G f m L K
   | _,_=>False
end
def zw (E:VE) (ops:Array Oper) (draw:Bool) (l:List Oper):VR:=List.rec (motive:=fun _=>VR) (fun _=>Lr ops draw) (fun o _ ih=>zx E ops draw o ih) l
def AU (n:Nat) (ops:List Oper):Bool:=ops.all fun o=>match o.dst with | some d=>decide (d < n) | none=>true
theorem u0 {n:Nat} {ops:List Oper} (h:AU n ops=true) {o:Oper} (ho:o∈ops):∀ t,o.dst=some t->t < n:=by
 intro t ht
 have:=List.all_eq_true.1 h o ho
 rw [ht] at this
 simpa using this
theorem xJ {f:bB} {g:Tmp} {s:SV} (h:aB f g=s):aB (vX f (some g) s)=aB f:=by
 rw [th]
 funext t
 simp only [Frm.put]
 split
 ·rename_i e;rw [e,h]
 ·rfl
theorem rX {E:VE} (hE:VOk E) {ops:Array Oper} {draw:Bool} (hd:AU E.n ops.toList=true):∀ (l:List Oper) (G:List (Nat×Bool)) (f:bB) (m:aA) (L0:List Ent) (K:bB->aA->Prop),(∀ o∈l,o∈ops.toList)->zw E ops draw l G f m L0 K ->
    LexT E.toEnv ops.toList draw l (aB f) (aw m) L0.reverse fun F M=>∃ f' m',F=aB f'/\M=aw m'/\K f' m'
 | [],G,f,m,L0,K,_,h=>by
  have h:Lr ops draw f m L0 K:=h
  refine ⟨?_,?_⟩
  ·intro hdr;subst hdr;exact h.1
  ·cases draw
   ·exact ⟨f,m,rfl,rfl,h⟩
   ·exact ⟨f,m,rfl,rfl,h.2⟩
 | o :: l,G,f,m,L0,K,hin,h=>by
  have hdst:=u0 hd (hin o (by simp))
  have hin':∀ o∈l,o∈ops.toList:=fun o' h'=>hin o' (by simp [h'])
  -- the operation is carried out
  have hdo:∀ (f1:bB) (G':List (Nat×Bool)),aB f1=aB f->Bk E.toEnv ops o (aB f)->I8 E o f1 m (Gu ops draw L0 o) (fun v R U=>sP f1 o.dst v m U fun v f' m'=>zw E ops draw l G' f' m' (⟨o.dst,v,R,U⟩ :: L0) K) ->
    LexT E.toEnv ops.toList draw (o :: l) (aB f) (aw m) L0.reverse fun F M=>∃ f' m',F=aB f'/\M=aw m'/\K f' m':=by
   intro f1 G' hf1 hg h
   have hcont:∀ v R U,(sP f1 o.dst v m U fun v f' m'=>zw E ops draw l G' f' m' (⟨o.dst,v,R,U⟩ :: L0) K)->LexT E.toEnv ops.toList draw l ((aB f).put o.dst v) (aS (aw m) U) (L0.reverse++[⟨o.dst,v,R,U⟩]) fun F M=>∃ f' m',F=aB f'/\M=aw m'/\K f' m':=by
    intro v R U hK
    rw [xZ] at hK
    have:=rX hE hd l _ _ _ _ K hin' hK
    rw [th,yw,hf1,List.reverse_cons] at this
    exact this
   have hops:ops.toList.toArray=ops:=by simp
   refine ⟨hdst,?_⟩
   rcases C7 hE h with ⟨v,R,U,hout,hU,hK⟩ | ⟨R,C,hout,hU,hT,hK⟩
   ·rw [hf1] at hout
    exact .inl ⟨⟨o.dst,v,R,U⟩,rfl,.inl ⟨by rw [hops];exact hg,hU,hout⟩,hcont v R U hK⟩
   ·rw [hf1] at hout
    refine .inr ⟨R,C,by rw [hops];exact hg,hout,hU,fun hdr=>?_,fun v U hC=>hcont v R U (hK v U hC)⟩
    subst hdr
    simpa [Gu] using hT
  -- the operation is passed over
  have hskip:∀ (f1:bB) (G':List (Nat×Bool)),aB f1=aB f->(∃ j b c g,o.guard=some (j,b)/\rA ops j=some g/\g < E.n/\aB f g=SV.c c/\c≠.bool b)->(sP f1 o.dst (SV.c undef) m [] fun _ f' m'=>zw E ops draw l G' f' m' (⟨o.dst,SV.c undef,[],[]⟩ :: L0) K) ->
    LexT E.toEnv ops.toList draw (o :: l) (aB f) (aw m) L0.reverse fun F M=>∃ f' m',F=aB f'/\M=aw m'/\K f' m':=by
   intro f1 G' hf1 hg hK
   obtain ⟨j,b,c,g,h4,h5,h6,h7,h8⟩:=hg
   rw [xZ] at hK
   have h1:=rX hE hd l _ _ _ _ K hin' hK
   rw [th,hf1,List.reverse_cons] at h1
   have hops:ops.toList.toArray=ops:=by simp
   exact ⟨hdst,.inl ⟨⟨o.dst,SV.c undef,[],[]⟩,rfl,.inr ⟨j,b,c,g,h4,by rw [hops];exact h5,h6,h7,h8,rfl,rfl,rfl⟩,h1⟩⟩
  have h:zx E ops draw o (zw E ops draw l) G f m L0 K:=h
  unfold zx Fd rY at h
  split at h
  ·rename_i hg;exact hdo f G rfl (.inl hg) h
  ·rename_i j b hg
   split at h
   ·exact h.elim
   ·rename_i g hgd
    have hgn:g < E.n:=by
     unfold rA at hgd
     simp only [Option.bind_eq_some_iff] at hgd
     obtain ⟨og,h1,h2⟩:=hgd
     exact u0 hd (by rw [<- Array.getElem?_toList] at h1;exact List.mem_of_getElem? h1) g h2
    split at h
    ·rename_i hb
     split at h
     ·exact hdo f G rfl (.inr ⟨j,true,g,hg,hgd,hgn,hb⟩) h
     ·exact hskip f G rfl ⟨j,false,.bool true,g,hg,hgd,hgn,hb,by simp⟩ h
    ·rename_i hb
     split at h
     ·exact hdo f G rfl (.inr ⟨j,false,g,hg,hgd,hgn,hb⟩) h
     ·exact hskip f G rfl ⟨j,true,.bool false,g,hg,hgd,hgn,hb,by simp⟩ h
    ·rename_i t _ hb
     by_cases e:t=b
     ·subst e
      exact hdo (vX f (some g) (SV.c (.bool t))) ((j,t) :: G) (xJ hb) (.inr ⟨j,t,g,hg,hgd,hgn,hb⟩) (h.1 rfl)
     ·have e2:t=!b:=by cases t<;>cases b<;>simp_all
      refine hskip (vX f (some g) (SV.c (.bool !b))) ((j,b) :: G) (xJ (by rw [hb,e2])) ⟨j,b,.bool t,g,hg,hgd,hgn,hb,by simpa using e⟩ (h.2 e2)
    ·rename_i vs hb
     exact hskip f G rfl ⟨j,b,.tuple vs,g,hg,hgd,hgn,hb,by simp⟩ h
    ·exact h.elim
def E9 (f:bB):bB->Prop
 | []=>True
 | (t,v) :: r=>aB f t=v/\E9 f r
def CS:Blk->List Key
 | .inl _=>[]
 | .inr (.inl (_,v))=>iG v
 | .inr (.inr _)=>[]
def Ap (f:bB) (m:aA):Bool:=(f.all fun p=>(iG p.2).all (bY m)) && (m.all fun p=>(CS p.2).all (bY m))
structure Weak (f:bB) (m:aA) (f1:bB) (m1:aA):Prop where
 frm:E9 f f1
 mem:fZ m m1
 sc:Ap f1 m1=true
def Rho.cut (ρ:Rho) (m:aA):Rho:=fun d=>if bY m d then ρ d else none
theorem BN {ρ:Rho} {m:aA}:∀ {s:SV} {x:Value},(iG s).all (bY m)=true->SV.rel ρ s x->SV.rel (ρ.cut m) s x
 | .inl _,_,_,h=>h
 | .inr (.inl (d,_)),_,hk,⟨b,hb,e⟩=>by
  simp only [iG,List.all_cons,List.all_nil,Bool.and_true] at hk
  exact ⟨b,by simp [Rho.cut,hk,hb],e⟩
 | .inr (.inr (.inl (d,_,_,_))),_,hk,⟨b,hb,e⟩=>by
  simp only [iG,List.all_cons,List.all_nil,Bool.and_true] at hk
  exact ⟨b,by simp [Rho.cut,hk,hb],e⟩
 | .inr (.inr (.inr (.inl (g,ds)))),_,hk,⟨bs,hb,e⟩=>by
  refine ⟨bs,?_,e⟩
  rw [<- hb]
  refine List.map_congr_left fun d hd=>?_
  have:=List.all_eq_true.1 hk d hd
  simp [Rho.cut,this]
 | .inr (.inr (.inr (.inr _))),_,_,_=>trivial
theorem wX {f:bB}:∀ {f1:bB},E9 f f1->∀ t,aB f1 t=SV.bad\/(∃ v,(t,v)∈f1/\aB f1 t=v/\aB f t=v)
 | [],_,t=>.inl rfl
 | (k,v) :: r,h,t=>by
  simp only [aB]
  by_cases e:k=t
  ·subst e;exact .inr ⟨v,by simp,by simp,h.1⟩
  ·simp only [if_neg e]
   rcases wX h.2 t with h1 | ⟨u,h1,h2,h3⟩
   ·exact .inl h1
   ·exact .inr ⟨u,by simp [h1],h2,h3⟩
theorem Weak.fr {E:Env} {f f1:bB} {m m1:aA} (h:Weak f m f1 m1) {ρ:Rho} {a:Act} (h1:Fr E ρ (aB f) a):Fr E (ρ.cut m1) (aB f1) a:=by
 refine ⟨h1.defers,h1.size,fun t=>?_⟩
 rcases wX h.frm t with h2 | ⟨v,h2,h3,h4⟩
 ·rw [h2];trivial
 ·rw [h3]
  have h5:=h1.rel t
  rw [h4] at h5
  have hs:=h.sc
  simp only [Ap,Bool.and_eq_true] at hs
  exact BN (List.all_eq_true.1 hs.1 _ h2) h5
theorem Bh {ρ:Rho} {m:aA}:∀ {B:Blk} {o:Obj},(CS B).all (bY m)=true->Blk.rel ρ B o->Blk.rel (ρ.cut m) B o
 | .inl _,_,_,h=>h
 | .inr (.inl (_,_v)),_,hk,⟨x,hx,e⟩=>⟨x,BN hk hx,e⟩
 | .inr (.inr _),_,_,h=>h
theorem Weak.wd {E:Env} {f f1:bB} {m m1:aA} (h:Weak f m f1 m1) {ρ:Rho} {w:World} (h1:Wd E ρ (aw m) w):Wd E (ρ.cut m1) (aw m1) w:=by
 have hs:=h.sc
 simp only [Ap,Bool.and_eq_true] at hs
 refine ⟨h1.os,h1.tape,h1.output,h1.size,h1.old,fun d B hd hdt=>?_,fun d hd=>?_,fun d B hd hdt=>?_,fun d B b hd hb=>?_,fun d e k hd he=>?_,fun d k B hp hm hmt=>?_⟩
 ·obtain ⟨h2,h3⟩:=iT h.mem d B hd
  obtain ⟨k,o,h4,h5,h6,h7⟩:=h1.blk d B (ig h2 hdt) hdt
  exact ⟨k,o,by simp [Rho.cut,bY,hd,hdt,h4],h5,h6,Bh (List.all_eq_true.1 hs.2 _ h3) h7⟩
 ·simp [Rho.cut,bY,hd]
 ·refine ⟨by simp [Rho.cut,bY,hd,hdt],?_⟩
  rcases dc (iT h.mem d B hd).1 with h2 | ⟨-,-,h2⟩
  ·exact (h1.loose d B h2 hdt).2
  ·exact h2 w
 ·rcases dc (iT h.mem d B hd).1 with h2 | ⟨-,h2,-⟩
  ·obtain ⟨h3,h4,h5⟩:=h1.sep d B b h2 hb
   refine ⟨h3,fun e he=>?_,fun e B' he hb'=>?_⟩
   ·simp only [Rho.cut] at he
    split at he
    ·exact h4 e he
    ·cases he
   ·rcases dc (iT h.mem e B' he).1 with h6 | ⟨-,h6,-⟩
    ·exact h5 e B' h6 hb'
    ·rw [h6] at hb';cases hb'
  ·rw [h2] at hb;cases hb
 ·simp only [Rho.cut] at hd he
  split at hd
  ·split at he
   ·exact h1.inj _ _ _ hd he
   ·cases he
  ·cases hd
 ·have:=h1.par d k B hp (ig (iT h.mem d B hm).1 hmt) hmt
  simp [Rho.cut,bY,hm,hmt,this]
abbrev VQ:=Exit->bB->aA->Prop
def keyOf:Code->Nat
 | .region id _ _=>id
 | .seq a _=>keyOf a
 | .block _ b=>keyOf b
 | .loop b=>keyOf b
 | _=>1000000
def Pz (cs:List Nat) (b:Code):Bool:=match cs with
 | []=>false
 | cs=>cs.any (Nat.beq (keyOf b))
abbrev VC:=bB->aA->VQ->Prop
section
variable (E:VE) (c:Operand) (id:Nat) (b:Code) (ia ib:VC) (f:bB) (m:aA) (Q:VQ)
def Fj:Prop:=match Pz E.cuts b with
 | false=>ia f m fun e f m=>match e with
  | .normal=>ib f m Q
  | e=>Q e f m
 | true=>∃ J:bB->aA->Prop,(ia f m fun e f m=>match e with
  | .normal=>∃ f1 m1,J f1 m1/\Weak f m f1 m1
  | e=>Q e f m)/\∀ f1 m1,J f1 m1->ib f1 m1 Q
def zy:Prop:=match evF (aB f) c with
 | .inl (.bool b)=>(b=true->ia f m Q)/\(b=false->ib f m Q)
 | _=>False
def vw:Prop:=ib f m fun e f m=>match e with
 | .exit id'=>if id'=id then Q .normal f m else Q (.exit id') f m
 | e=>Q e f m
def Fk:Prop:=∃ (I:Nat->bB->aA->Prop) (n:Nat),(∃ f1 m1,I n f1 m1/\Weak f m f1 m1) /\
 ∀ n f1 m1,I n f1 m1->ib f1 m1 fun e f2 m2=>match e with
  | .normal=>∃ n' f3 m3,n' < n/\I n' f3 m3/\Weak f2 m2 f3 m3
  | e=>Q e f2 m2
end
def d7 (E:VE) (c:Code):VC:=Code.rec (motive:=fun _=>VC) (fun f m Q=>Q .normal f m)
 (fun _ ops draw f m Q=>zw E ops draw ops.toList [] f m [] fun f m=>Q .normal f m)
 (fun _ b ia ib=>Fj E b ia ib) (fun c _ _ ia ib=>zy c ia ib) (fun id _ ib=>vw id ib) (fun _ ib=>Fk ib)
 (fun _ _ _ _ _ _ _ _ _=>False) (fun id f m Q=>Q (.exit id) f m) (fun _ _ _ _ _=>False) (fun _ f m Q=>Q .normal f m)
 (fun _ _ _ _=>False) (fun f m Q=>Q .ret f m) (fun _ _ _ _=>False) c
def ii (n:Nat):Code->Bool
 | .seq a b=>ii n a && ii n b
 | .cond _ a b=>ii n a && ii n b
 | .block _ b=>ii n b
 | .loop b=>ii n b
 | .scope b=>ii n b
 | .region _ ops _=>AU n ops.toList
 | _=>true
def I4 (E:VE) (Q:VQ):Exit->Act->World->Prop:=fun e a w=>∃ f m ρ,Fr E.toEnv ρ (aB f) a/\Wd E.toEnv ρ (aw m) w/\Q e f m
theorem cJ {E:VE} (hE:VOk E) (hmix:E.P.follows .mixedOrders=true):∀ (c:Code) (f:bB) (m:aA) (Q:VQ),ii E.n c=true->d7 E c f m Q ->
    ∀ ρ a w,Fr E.toEnv ρ (aB f) a->Wd E.toEnv ρ (aw m) w->c.wp E.P (I4 E Q) a w
 | .skip,f,m,Q,_,h,ρ,a,w,h1,h2=>wp_skip ⟨f,m,ρ,h1,h2,h⟩
 | .label _,f,m,Q,_,h,ρ,a,w,h1,h2=>wp_label ⟨f,m,ρ,h1,h2,h⟩
 | .ret,f,m,Q,_,h,ρ,a,w,h1,h2=>wp_ret ⟨f,m,ρ,h1,h2,h⟩
 | .exit id,f,m,Q,_,h,ρ,a,w,h1,h2=>wp_exit ⟨f,m,ρ,h1,h2,h⟩
 | .seq x y,f,m,Q,hc,h,ρ,a,w,h1,h2=>by
  simp only [ii,Bool.and_eq_true] at hc
  have h:Fj E y (d7 E x) (d7 E y) f m Q:=h
  unfold Fj at h
  split at h
  ·refine wp_seq (wp_mono (cJ hE hmix x f m _ hc.1 h ρ a w h1 h2) ?_)
   rintro e a' w' ⟨f',m',ρ',h3,h4,h5⟩
   cases e with
   | normal=>exact cJ hE hmix y f' m' Q hc.2 h5 ρ' a' w' h3 h4
   | _=>exact ⟨f',m',ρ',h3,h4,h5⟩
  ·obtain ⟨J,h,hJ⟩:=h
   refine wp_seq (wp_mono (cJ hE hmix x f m _ hc.1 h ρ a w h1 h2) ?_)
   rintro e a' w' ⟨f',m',ρ',h3,h4,h5⟩
   cases e with
   | normal =>
    obtain ⟨f2,m2,h6,h7⟩:=h5
    exact cJ hE hmix y f2 m2 Q hc.2 (hJ f2 m2 h6) _ a' w' (h7.fr h3) (h7.wd h4)
   | _=>exact ⟨f',m',ρ',h3,h4,h5⟩
 | .cond c x y,f,m,Q,hc,h,ρ,a,w,h1,h2=>by
  simp only [ii,Bool.and_eq_true] at hc
  have h:zy c (d7 E x) (d7 E y) f m Q:=h
  unfold zy at h
  split at h
  ·rename_i b hb
   have hcc:=az h1 c
   rw [hb] at hcc
   have hcc:a.eval c=.bool b:=hcc
   refine wp_cond_split hcc (fun e=>?_) (fun e=>?_)
   ·exact cJ hE hmix x f m Q hc.1 (h.1 e) ρ a w h1 h2
   ·exact cJ hE hmix y f m Q hc.2 (h.2 e) ρ a w h1 h2
  ·exact h.elim
 | .block id b,f,m,Q,hc,h,ρ,a,w,h1,h2=>by
  have h:vw id (d7 E b) f m Q:=h
  unfold vw at h
  refine wp_block (wp_mono (cJ hE hmix b f m _ hc h ρ a w h1 h2) ?_)
  rintro e a' w' ⟨f',m',ρ',h3,h4,h5⟩
  cases e with
  | exit id' =>
   simp only at h5
   simp only [Exit.inBlock]
   split<;>rename_i hid
   ·rw [if_pos hid] at h5;exact ⟨f',m',ρ',h3,h4,h5⟩
   ·rw [if_neg hid] at h5;exact ⟨f',m',ρ',h3,h4,h5⟩
  | _=>exact ⟨f',m',ρ',h3,h4,h5⟩
 | .region id ops draw,f,m,Q,hc,h,ρ,a,w,h1,h2=>by
  have h:zw E ops draw ops.toList [] f m [] (fun f m=>Q .normal f m):=h
  have h3:=rX hE hc ops.toList _ _ _ _ _ (fun _ h=>h) h
  have e:ops=ops.toList.toArray:=by simp
  cases draw with
  | true =>
   rw [e]
   exact LexT.drawn h3 hmix h1 h2 fun F M ρ' a' w' ⟨f',m',hF,hM,h5⟩ _ h6 h7=>⟨f',m',ρ',by rw [<- hF];exact h6,by rw [<- hM];exact h7,h5⟩
  | false =>
   rw [e]
   exact LexT.undrawn h3 h1 h2 fun F M ρ' a' w' ⟨f',m',hF,hM,h5⟩ _ h6 h7=>⟨f',m',ρ',by rw [<- hF];exact h6,by rw [<- hM];exact h7,h5⟩
 | .loop b,f,m,Q,hc,h,ρ,a,w,h1,h2=>by
  have h:Fk (d7 E b) f m Q:=h
  obtain ⟨I,n,⟨f1,m1,hI,hw⟩,hround⟩:=h
  refine wp_loop_ghost (fun n a w=>∃ f m ρ,Fr E.toEnv ρ (aB f) a/\Wd E.toEnv ρ (aw m) w/\I n f m) n ⟨f1,m1,_,hw.fr h1,hw.wd h2,hI⟩ ?_
  rintro n' a' w' ⟨f',m',ρ',h3,h4,h5⟩
  refine wp_mono (cJ hE hmix b f' m' _ hc (hround n' f' m' h5) ρ' a' w' h3 h4) ?_
  rintro e a2 w2 ⟨f2,m2,ρ2,h6,h7,h8⟩
  cases e with
  | normal =>
   obtain ⟨n3,f3,m3,hlt,hI3,hw3⟩:=h8
   exact ⟨n3,hlt,f3,m3,_,hw3.fr h6,hw3.wd h7,hI3⟩
  | _=>exact ⟨f2,m2,ρ2,h6,h7,h8⟩
 | .rangeFunc ..,_,_,_,_,h,_,_,_,_,_=>h.elim
 | .scope ..,_,_,_,_,h,_,_,_,_,_=>h.elim
 | .goto ..,_,_,_,_,h,_,_,_,_,_=>h.elim
 | .refuse ..,_,_,_,_,h,_,_,_,_,_=>h.elim
def Bp (E:VE) (f:bB) (m:aA) (J:Value->Prop):ResultVar->Prop
 | .tmp t=>match aB f t with
  | .inl v=>J v
  | _=>False
 | .cell a ty=>match aB f a,E.tt ty with
  | .inr (.inl (d,off)),some i=>match aw m d with
   | some (.inl (_,n,A))=>match i.row with
    | true=>match i.size == n,off with
     | true,0=>J (.agg A)
     | _,_=>False
    | false=>∃ v,A[off]? = some v/\J v
   | some (.inr (.inl (_,.inl v)))=>match off,i.row with
    | 0,false=>J v
    | _,_=>False
   | _=>False
  | _,_=>False
def C5 (E:VE) (f:bB) (m:aA):List ResultVar->(List Value->Prop)->Prop
 | [],J=>J []
 | r :: rs,J=>Bp E f m (fun v=>C5 E f m rs fun vs=>J (v :: vs)) r
def cW:List Value->Value
 | [v]=>v
 | vs=>.tuple vs.toArray
def qA (a:Act):ResultVar->Sem Value
 | .tmp t=>pure (a.tmps.getD t undef)
 | .cell x t=>do loadVar t (<- asAddr (a.tmps.getD x undef))
theorem CZ {E:VE} (hE:VOk E) {f:bB} {m:aA} {ρ:Rho} {a:Act} {w:World} (h1:Fr E.toEnv ρ (aB f) a) (h2:Wd E.toEnv ρ (aw m) w) {J:Value->Prop}:∀ {r:ResultVar},Bp E f m J r->∃ v,(qA a r).run E.P w=.ok v w/\J v
 | .tmp t,h=>by
  simp only [Bp] at h
  split at h
  ·rename_i v hv
   have:=h1.rel t
   rw [hv] at this
   have:_=v:=this
   exact ⟨v,by simp [qA,this],h⟩
  ·exact h.elim
 | .cell x ty,h=>by
  simp only [Bp] at h
  split at h
  ·rename_i d off i hx hi
   have hxx:=h1.rel x
   rw [hx] at hxx
   split at h
   ·rename_i t0 n A hm
    obtain ⟨k,ob,h3,h4,h5,h6,h7⟩:=iR h2 hm rfl hxx
    subst h7
    split at h
    ·rename_i hr
     split at h
     ·rename_i hs
      have hs:i.size=n:=by simpa using hs
      have hl:=pP (hE ty i hi) h5 hr (off:=0) (by rw [h6,hs];omega)
      rw [hs,Nat.zero_add,<- h6,Array.extract_size] at hl
      simp only [Instr.loadAt,Instr.sureAddr,Sem.run_bind,Sem.run_pure,Result.andThen_ok] at hl
      refine ⟨_,?_,h⟩
      simp only [qA,h4,asAddr,Sem.run_bind,Sem.run_pure,Result.andThen_ok]
      exact hl
     ·exact h.elim
    ·rename_i hr
     obtain ⟨v,hv,h⟩:=h
     have hl:=eo (hE ty i hi) ((cu h5 off).trans hv) hr
     simp only [Instr.loadAt,Instr.sureAddr,Sem.run_bind,Sem.run_pure,Result.andThen_ok] at hl
     refine ⟨v,?_,h⟩
     simp only [qA,h4,asAddr,Sem.run_bind,Sem.run_pure,Result.andThen_ok]
     exact hl
   ·rename_i t0 v hm
    split at h
    case h_2=>exact h.elim
    rename_i hr
    obtain ⟨k,ob,h3,h4,h5,y,h6,h7⟩:=iR h2 hm rfl hxx
    subst h7
    have h6:y=v:=h6
    subst h6
    have hl:=eo (v:=y) (hE ty i hi) ((cu h5 0).trans rfl) hr
    simp only [Instr.loadAt,Instr.sureAddr,Sem.run_bind,Sem.run_pure,Result.andThen_ok] at hl
    refine ⟨y,?_,h⟩
    simp only [qA,h4,asAddr,Sem.run_bind,Sem.run_pure,Result.andThen_ok]
    exact hl
   ·exact h.elim
  ·exact h.elim
theorem xy {P:Program} {α β:Type} (g:α->Sem β) (w:World):∀ (l:List α) (vs:List β),l.length=vs.length->(∀ (i:Nat) (x:α) (v:β),l[i]? = some x->vs[i]? = some v->(g x).run P w=.ok v w)->(l.mapM g).run P w=.ok vs w
 | [],[],_,_=>by simp
 | x :: l,v :: vs,hl,h=>by
  have h0:=h 0 x v rfl rfl
  have ih:=xy g w l vs (by simpa using hl) (fun i x v h1 h2=>h (i+1) x v (by simpa using h1) (by simpa using h2))
  simp only [List.mapM_cons,Sem.run_bind,h0,Result.andThen_ok,ih,Sem.run_pure]
theorem rW {E:VE} (hE:VOk E) {f:bB} {m:aA} {ρ:Rho} {a:Act} {w:World} (h1:Fr E.toEnv ρ (aB f) a) (h2:Wd E.toEnv ρ (aw m) w):∀ {rs:List ResultVar} {J:List Value->Prop},C5 E f m rs J ->
    ∃ vs,rs.length=vs.length/\(∀ (i:Nat) (r:ResultVar) (v:Value),rs[i]? = some r->vs[i]? = some v->(qA a r).run E.P w=.ok v w)/\J vs
 | [],J,h=>⟨[],rfl,fun i r v hr=>by simp at hr,h⟩
 | r :: rs,J,h=>by
  obtain ⟨v,hv,h⟩:=CZ hE h1 h2 h
  obtain ⟨vs,hl,hr,h⟩:=rW hE h1 h2 h
  refine ⟨v :: vs,by simp [hl],fun i r' v' h3 h4=>?_,h⟩
  cases i with
  | zero=>simp at h3 h4;subst h3;subst h4;exact hv
  | succ i=>exact hr i r' v' (by simpa using h3) (by simpa using h4)
theorem iy {P:Program} {fn:Func} {a:Act} {w:World} {vs:List Value} (hl:fn.results.toList.length=vs.length) (h:∀ (i:Nat) (r:ResultVar) (v:Value),fn.results.toList[i]? = some r->vs[i]? = some v->(qA a r).run P w=.ok v w):(results fn a.tmps).run P w=.ok (cW vs) w:=by
 have h3:=xy (P:=P) (qA a) w fn.results.toList vs hl h
 have e:fn.results.mapM (qA a)=(do let l <- fn.results.toList.mapM (qA a);pure l.toArray):=by
  rw [<- Array.toArray_toList (xs:=fn.results),List.mapM_toArray]
  rfl
 have e2:results fn a.tmps=(do let vs <- fn.results.mapM (qA a);pure (if h:vs.size=1 then vs[0] else .tuple vs)):=by
  unfold results
  congr 1
 rw [e2,e]
 simp only [Sem.run_bind,h3,Result.andThen_ok,Sem.run_pure]
 match vs with
 | []=>rfl
 | [v]=>rfl
 | v :: u :: r=>rfl
def fk:Nat->List SV->bB
 | _,[]=>[]
 | k,s :: r=>(k,s) :: fk (k+1) r
theorem yi:∀ (l:List SV) (k t:Nat),aB (fk k l) t=if k<=t then (l[t - k]?).getD SV.bad else SV.bad
 | [],k,t=>by simp [fk,aB]
 | s :: r,k,t=>by
  simp only [fk,aB,yi r (k+1) t]
  by_cases h1:k=t
  ·subst h1;simp
  ·rw [if_neg h1]
   by_cases h2:k+1<=t
   ·rw [if_pos h2,if_pos (by omega),show t - k=(t - (k+1))+1 by omega];simp
   ·rw [if_neg h2,if_neg (by omega)]
theorem xD {ρ:Rho}:∀ {l:List SV} {xs:List Value},fU ρ l xs->l.length=xs.length
 | [],[],_=>rfl
 | _ :: _,_ :: _,⟨_,h⟩=>by simp [xD h]
theorem BM {ρ:Rho}:∀ {l:List SV} {xs:List Value},fU ρ l xs->∀ (i:Nat) (s:SV),l[i]? = some s->∃ x,xs[i]? = some x/\SV.rel ρ s x
 | [],[],_,i,s,h=>by simp at h
 | s0 :: l,x :: xs,⟨h1,h2⟩,0,s,h=>by simp at h;subst h;exact ⟨x,rfl,h1⟩
 | s0 :: l,x :: xs,⟨h1,h2⟩,i+1,s,h=>by
  obtain ⟨y,h3,h4⟩:=BM h2 i s (by simpa using h)
  exact ⟨y,by simpa using h3,h4⟩
theorem i9 {E:Env} {ρ:Rho} {as:List SV} {xs:List Value} (h:fU ρ as xs) (hn:as.length<=E.n):Fr E ρ (aB (fk 0 as)) { tmps:=xs.toArray++Array.replicate (E.n - xs.toArray.size) undef,defers:=[] }:=by
 have hl:=xD h
 refine ⟨rfl,by simp;omega,fun t=>?_⟩
 rw [yi,if_pos (Nat.zero_le _),Nat.sub_zero]
 cases hs:as[t]? with
 | none=>trivial
 | some s =>
  obtain ⟨x,h3,h4⟩:=BM h t s hs
  have hlt:t < xs.length:=(List.getElem?_eq_some_iff.1 h3).1
  have h5:(xs.toArray++Array.replicate (E.n - xs.toArray.size) undef)[t]? = some x:=by
   rw [Array.getElem?_append_left (by simpa using hlt)];simpa using h3
  rw [Array.getD_eq_getD_getElem?,h5]
  exact h4
def sE (E:VE) (rs:List ResultVar) (v:Value) (post:aA):VQ:=fun e f m=>match e with
 | .normal=>C5 E f m rs fun vs=>cW vs=v/\fZ m post
 | .ret=>C5 E f m rs fun vs=>cW vs=v/\fZ m post
 | _=>False
theorem tJ {E:VE} (hE:VOk E) {fn:Func} {v:Value} {post:aA} {R:Ending->World->Prop} (hR:∀ ρ m w,Wd E.toEnv ρ (aw m) w->fZ m post->R (.returned v) w) :
    ∀ e a w,I4 E (sE E fn.results.toList v post) e a w->bodyPost E.P fn R e a w:=by
 rintro e a w ⟨f,m,ρ,h1,h2,h3⟩
 have key:C5 E f m fn.results.toList (fun vs=>cW vs=v/\fZ m post)->a.defers=[]/\∃ v,(results fn a.tmps).run E.P w=.ok v w/\R (.returned v) w:=by
  intro h
  obtain ⟨vs,hl,hr,rfl,hm⟩:=rW hE h1 h2 h
  exact ⟨h1.defers,_,iy hl hr,hR ρ m w h2 hm⟩
 cases e with
 | normal=>exact key h3
 | ret=>exact key h3
 | _=>exact h3.elim
structure FnAt (P:Program) (g:FuncId) (fn:Func) (c:Code) (n:Nat):Prop where
 fnc:P.funcs[g]? = some fn
 body:fn.body=some c
 name:(fn.name == "runtime.NumGoroutine")=false
 slots:fn.ntmps=n
 code:ii n c=true
abbrev au (P:Program) (g:FuncId) (fn:Func):Prop:=FnAt P g fn (fn.body.getD .skip) fn.ntmps
theorem FnAt.enters {P:Program} {g:FuncId} {fn:Func} {c:Code} {n:Nat} (h:FnAt P g fn c n):Enters P g:=⟨fn,c,h.fnc,h.body,h.name⟩
def oE (P:Program) (tt:TypeId->Option TI):Prop:=∀ ty i,tt ty=some i->TIok P ty i
abbrev iP (P:Program) (tt:TypeId->Option TI) (n:Nat) (w:World) (cuts:List Nat:=[]):VE:={ P:=P,w0:=w,X:=[],n:=n,pk:=[],tt:=tt,cuts:=cuts }
theorem fK (cuts:List Nat) {P:Program} {tt:TypeId->Option TI} (ht:oE P tt) (hmix:P.follows .mixedOrders=true) {g:FuncId} {fn:Func} {c:Code} {n:Nat} (hf:FnAt P g fn c n) (as:List SV) (v:Value) (hp:as.all (fun s=>(eY s).isSome)=true) (hl:Nat.ble as.length n=true)
    (h:∀ w,d7 (iP P tt n w cuts) c (fk 0 as) [] (sE (iP P tt n w cuts) fn.results.toList v [])):ay P g as v:=by
 refine ⟨hf.enters,fun ρ w xs hx=>?_⟩
 have hx':fU (fun _=>none) as xs:=by
  clear hl h
  induction as generalizing xs with
  | nil=>cases xs with
   | nil=>trivial
   | cons=>exact hx.elim
  | cons s as ih =>
   cases xs with
   | nil=>exact hx.elim
   | cons x xs =>
    simp only [List.all_cons,Bool.and_eq_true] at hp
    refine ⟨?_,ih hp.2 xs hx.2⟩
    match s,hp.1,hx.1 with
    | .inl u,_,h=>exact h
 have hs:=i9 (E:=(iP P tt n w cuts).toEnv) hx' (Nat.le_of_ble_eq_true hl)
 refine calls_of_wp hf.fnc hf.body ?_
 rw [hf.slots]
 refine wp_mono (cJ (E:=iP P tt n w cuts) ht hmix c _ _ _ hf.code (h w) (fun _=>none) _ w hs ?_) (tJ (E:=iP P tt n w cuts) ht fun ρ' m w' h2 _=>⟨rfl,h2.os,h2.tape,h2.output,h2.size,fun k hk=>h2.old k hk (by simp)⟩)
 exact ⟨rfl,rfl,rfl,Nat.le_refl _,fun _ _ _=>rfl,fun d B hd=>by simp [aw] at hd,fun _ _=>rfl,fun d B hd=>by simp [aw] at hd,fun d B b hd=>by simp [aw] at hd,fun d e k hd=>(by cases hd),fun d k B hp=>by simp at hp⟩
theorem al {P:Program} {tt:TypeId->Option TI} (ht:oE P tt) (hmix:P.follows .mixedOrders=true) {g:FuncId} {fn:Func} {c:Code} {n:Nat} (hf:FnAt P g fn c n) (as:List SV) (v:Value) (hp:as.all (fun s=>(eY s).isSome)=true) (hl:Nat.ble as.length n=true)
    (h:∀ w,d7 (iP P tt n w) c (fk 0 as) [] (sE (iP P tt n w) fn.results.toList v [])):ay P g as v :=
 fK [] ht hmix hf as v hp hl h
structure Par where
 a:Key
 d:Key
 ty:TypeId
 n:Nat
 A:Array Value
 B:Array Value
def fp:List Par->Key->Option Key
 | [],_=>none
 | p :: r,k=>if p.a=k then some p.d else fp r k
def uy (ps:List Par):List Key->Option (List Key)
 | []=>some []
 | k :: r=>match fp ps k,uy ps r with
  | some d,some ds=>some (d :: ds)
  | _,_=>none
def sF (ps:List Par):SV->SV
 | .inl v=>.inl v
 | .inr (.inl (k,off))=>match fp ps k with
  | some d=>SV.ptr d off
  | none=>SV.bad
 | .inr (.inr (.inl (k,off,len,cap)))=>match fp ps k with
  | some d=>SV.sl d off len cap
  | none=>SV.bad
 | .inr (.inr (.inr (.inl (f,ks))))=>match uy ps ks with
  | some ds=>SV.clo f ds
  | none=>SV.bad
 | _=>SV.bad
def ml (ps:List Par):SV->Bool
 | .inl _=>true
 | .inr (.inl (k,_))=>(fp ps k).isSome
 | .inr (.inr (.inl (k,_)))=>(fp ps k).isSome
 | .inr (.inr (.inr (.inl (_,ks))))=>(uy ps ks).isSome
 | _=>false
theorem ux {ps:List Par} {ρ:Rho}:∀ {ks ds:List Key} {bs:List Nat},uy ps ks=some ds->ds.map ρ=bs.map some->ks.map (fun k=>(fp ps k).bind ρ)=bs.map some
 | [],ds,bs,h,e=>by
  simp only [uy,Option.some.injEq] at h;subst h
  simpa using e
 | k :: r,ds,bs,h,e=>by
  simp only [uy] at h
  split at h
  ·rename_i d ds' h1 h2
   simp only [Option.some.injEq] at h;subst h
   cases bs with
   | nil=>simp at e
   | cons b bs =>
    simp only [List.map_cons,List.cons.injEq] at e ⊢
    exact ⟨by rw [h1];exact e.1,ux h2 e.2⟩
  ·cases h
abbrev AR (P:Program) (tt:TypeId->Option TI) (n:Nat) (w:World) (ps:List Par) (β:Key->Nat) (cuts:List Nat:=[]):VE:={ P:=P,w0:=w,X:=ps.map (fun p=>β p.d),n:=n,pk:=ps.map (fun p=>(p.a,β p.d)),tt:=tt,cuts:=cuts }
theorem jy:∀ {ps:List Par} {k d:Key},fp ps k=some d->∃ p,p∈ps/\p.a=k/\p.d=d
 | p :: r,k,d,h=>by
  simp only [fp] at h
  by_cases e:p.a=k
  ·rw [if_pos e] at h;cases h;exact ⟨p,by simp,e,rfl⟩
  ·rw [if_neg e] at h
   obtain ⟨q,h1,h2,h3⟩:=jy h
   exact ⟨q,by simp [h1],h2,h3⟩
theorem qH:∀ {ps:List Par} (_:∀ p q,p∈ps->q∈ps->p.a=q.a->p.d=q.d) {p:Par},p∈ps->fp ps p.a=some p.d
 | q :: r,hu,p,hp=>by
  simp only [fp]
  by_cases e:q.a=p.a
  ·rw [if_pos e,hu q p (by simp) hp e]
  ·rw [if_neg e]
   rcases List.mem_cons.1 hp with rfl | hp
   ·exact absurd rfl e
   ·exact qH (fun p q h1 h2=>hu p q (by simp [h1]) (by simp [h2])) hp
theorem tg {ps:List Par} {key:Par->Key} {val:Par->Blk}:∀ {d:Key} {B:Blk},aw (ps.map fun p=>(key p,val p)) d=some B->∃ p,p∈ps/\key p=d/\val p=B:=by
 intro d B h
 have:=aW h
 simp only [List.mem_map,Prod.mk.injEq] at this
 obtain ⟨p,h1,h2,h3⟩:=this
 exact ⟨p,h1,h2,h3⟩
theorem vN (cuts:List Nat) {P:Program} {tt:TypeId->Option TI} (ht:oE P tt) (hmix:P.follows .mixedOrders=true) {g:FuncId} {fn:Func} {c:Code} {n:Nat} (hf:FnAt P g fn c n) (E0:Env) (hP:E0.P=P) (ps:List Par) (as:List SV) (v:Value)
    (hok:as.all (ml ps)=true) (hl:Nat.ble as.length n=true) (hu:∀ p q,p∈ps->q∈ps->(p.a=q.a↔p.d=q.d)) (_hu2:∀ p q,p∈ps->q∈ps->p.a=q.a->p=q)
    (h:∀ w β,OldW E0 w->(∀ w',OldW (AR P tt n w ps β cuts).toEnv w'->OldW E0 w')->d7 (AR P tt n w ps β cuts) c (fk 0 as) (ps.map fun p=>(p.a,Blk.row p.ty p.n p.A)) (sE (AR P tt n w ps β cuts) fn.results.toList v (ps.map fun p=>(p.a,Blk.row p.ty p.n p.B)))) :
    Own E0 g (as.map (sF ps)) (ps.map fun p=>(p.d,Blk.row p.ty p.n p.A)) (SV.c v) (ps.map fun p=>(p.d,Blk.row p.ty p.n p.B)):=by
 subst hP
 refine ⟨hf.enters,fun p hp=>by simp only [List.mem_map] at hp;obtain ⟨q,-,rfl⟩:=hp;rfl,fun ρ w xs hinj hlt hnew hx hH hO hfr=>?_⟩
 have hua:=fun p q h1 h2 h3=>(hu p q h1 h2).1 h3
 have hnum:∀ p,p∈ps->∃ k,ρ p.d=some k/\w.heap[k]? = some (.cells p.A p.ty (0,0))/\p.A.size=p.n:=by
  intro p hp
  obtain ⟨k,o,h1,h2,h3,h4⟩:=hH (p.d,Blk.row p.ty p.n p.A) (by simp only [List.mem_map];exact ⟨p,hp,rfl⟩)
  subst h4
  exact ⟨k,h1,h2,h3⟩
 have hx':fU (fun k=>(fp ps k).bind ρ) as xs:=by
  clear hl h
  induction as generalizing xs with
  | nil=>cases xs with
   | nil=>trivial
   | cons=>exact hx.elim
  | cons s as ih =>
   cases xs with
   | nil=>exact hx.elim
   | cons x xs =>
    simp only [List.all_cons,Bool.and_eq_true] at hok
    refine ⟨?_,ih hok.2 xs hx.2⟩
    have h1:=hok.1
    have h2:=hx.1
    match s,h1,h2 with
    | .inl u,_,h=>exact h
    | .inr (.inl (k,off)),h1,h2 =>
     simp only [ml] at h1
     obtain ⟨d,hd⟩:=Option.isSome_iff_exists.1 h1
     simp only [sF,hd] at h2
     obtain ⟨b,hb,e⟩:=h2
     exact ⟨b,by simp [hd,hb],e⟩
    | .inr (.inr (.inl (k,off,len,cap))),h1,h2 =>
     simp only [ml] at h1
     obtain ⟨d,hd⟩:=Option.isSome_iff_exists.1 h1
     simp only [sF,hd] at h2
     obtain ⟨b,hb,e⟩:=h2
     exact ⟨b,by simp [hd,hb],e⟩
    | .inr (.inr (.inr (.inl (f,ks)))),h1,h2 =>
     simp only [ml] at h1
     obtain ⟨ds,hds⟩:=Option.isSome_iff_exists.1 h1
     simp only [sF,hds] at h2
     obtain ⟨bs,hb,e⟩:=h2
     exact ⟨bs,ux hds hb,e⟩
 let β:Key->Nat:=fun d=>(ρ d).getD 0
 have hβ:∀ p k,p∈ps->ρ p.d=some k->β p.d=k:=fun p k _ hk=>by simp [β,hk]
 have hT:∀ w',OldW (AR E0.P tt n w ps β cuts).toEnv w'->OldW E0 w':=fun w' h2=>by
  refine ⟨h2.os.trans hO.os,h2.tape.trans hO.tape,h2.output.trans hO.output,Nat.le_trans hO.size h2.size,fun k hk hX=>?_⟩
  refine (h2.old k (Nat.lt_of_lt_of_le hk hO.size) fun hX2=>?_).trans (hO.old k hk hX)
  simp only [List.mem_map] at hX2
  obtain ⟨p,h3,h4⟩:=hX2
  obtain ⟨k',h5,-,-⟩:=hnum p h3
  rcases hfr (p.d,Blk.row p.ty p.n p.A) (by simp only [List.mem_map];exact ⟨p,h3,rfl⟩) k' h5 with h6 | h6
  ·rw [hβ p k' h3 h5] at h4;subst h4;exact absurd hk (Nat.not_lt.2 h6)
  ·rw [hβ p k' h3 h5] at h4;subst h4;exact hX h6
 have hs:=i9 (E:=(AR E0.P tt n w ps β cuts).toEnv) hx' (Nat.le_of_ble_eq_true hl)
 refine calls_of_wp hf.fnc hf.body ?_
 rw [hf.slots]
 refine wp_mono (cJ (E:=AR E0.P tt n w ps β cuts) ht hmix c _ _ _ hf.code (h w β hO hT) _ _ w hs ?_) (tJ (E:=AR E0.P tt n w ps β cuts) ht fun ρ' m w' h2 hpost=>?_)
 ·have hBt:∀ d B,aw (ps.map fun p=>(p.a,Blk.row p.ty p.n p.A)) d=some B->B.tied=true:=fun d B hd=>by
    obtain ⟨p,h1,h2,h3⟩:=tg hd
    rw [<- h3];rfl
  refine ⟨rfl,rfl,rfl,Nat.le_refl _,fun _ _ _=>rfl,fun d B hd _=>?_,fun d hd=>?_,fun d B hd hdt=>(by rw [hBt d B hd] at hdt;cases hdt),fun d B b hd hb=>(by rw [Blk.num_none (hBt d B hd)] at hb;cases hb),fun d e k hd he=>?_,fun d k B hp hm hmt=>?_⟩
  ·obtain ⟨p,h1,h2,h3⟩:=tg hd
   obtain ⟨k,h4,h5,h6⟩:=hnum p h1
   refine ⟨k,_,?_,.inr ?_,h5,?_⟩
   ·rw [<- h2,qH hua h1];exact h4
   ·simp only [List.mem_map];exact ⟨p,h1,hβ p k h1 h4⟩
   ·rw [<- h3];exact ⟨h6,rfl⟩
  ·cases hk:fp ps d with
   | none=>rfl
   | some e =>
    obtain ⟨p,h1,h2,h3⟩:=jy hk
    exfalso
    obtain ⟨B,hB⟩:=pU (U:=ps.map fun p=>(p.a,Blk.row p.ty p.n p.A)) (p:=(p.a,Blk.row p.ty p.n p.A)) (by simp only [List.mem_map];exact ⟨p,h1,rfl⟩)
    rw [h2,hd] at hB;cases hB
  ·simp only [Option.bind_eq_some_iff] at hd he
   obtain ⟨d1,h1,h2⟩:=hd
   obtain ⟨e1,h3,h4⟩:=he
   obtain ⟨p,h5,h6,h7⟩:=jy h1
   obtain ⟨q,h8,h9,h10⟩:=jy h3
   have:=hinj _ _ _ h2 h4
   rw [<- h6,<- h9]
   exact (hu p q h5 h8).2 (by rw [h7,h10,this])
  ·simp only [List.mem_map,Prod.mk.injEq] at hp
   obtain ⟨p,h1,h2,h3⟩:=hp
   obtain ⟨k',h4,h5,h6⟩:=hnum p h1
   rw [<- h2,qH hua h1,<- h3,hβ p k' h1 h4]
   exact h4
 ·refine ⟨ρ,v,rfl,rfl,h2.os,h2.tape,h2.output,h2.size,fun k hk hne=>?_,fun d B hd=>?_,fun _ _=>rfl,hinj,Ext.refl _⟩
  ·refine h2.old k hk fun hX=>?_
   simp only [List.mem_map] at hX
   obtain ⟨p,h3,h4⟩:=hX
   obtain ⟨k',h5,h6,h7⟩:=hnum p h3
   refine hne (p.d,Blk.row p.ty p.n p.B) (by simp only [List.mem_map];exact ⟨p,h3,rfl⟩) ?_
   rw [<- h4,hβ p k' h3 h5];exact h5
  ·obtain ⟨p,h3,h4,h5⟩:=tg hd
   obtain ⟨k',h6,h7,h8⟩:=hnum p h3
   have h9:aw m p.a=some (Blk.row p.ty p.n p.B):=by
    have hwk:∀ (l:List Par),fZ m (l.map fun p=>(p.a,Blk.row p.ty p.n p.B))->∀ p∈l,aw m p.a=some (Blk.row p.ty p.n p.B):=by
     intro l
     induction l with
     | nil=>intro _ p hp;cases hp
     | cons q l ih=>intro hw p hp;rcases List.mem_cons.1 hp with rfl | hp
                    ·exact ig hw.1 rfl
                    ·exact ih hw.2 p hp
    exact hwk ps hpost p h3
   obtain ⟨k2,o,h10,h11,h12,h13⟩:=h2.blk p.a _ h9 rfl
   have h14:=h2.par p.a (β p.d) _ (by simp only [List.mem_map];exact ⟨p,h3,rfl⟩) h9 rfl
   rw [h14,hβ p k' h3 h6] at h10;cases h10
   refine ⟨k',o,by rw [<- h4];exact h6,.inl (by rw [<- h4];exact h6),h12,?_⟩
   rw [<- h5];exact h13
end Go.SX
namespace Go.SX
open Go Go.RowKit
def TU (t:Tmp) (g:FuncId) (k0:Key) (B:Blk):VQ:=fun e f m=>match e with
 | .normal=>aB f t=SV.clo g [k0]/\aw m k0=some B
 | .ret=>aB f t=SV.clo g [k0]/\aw m k0=some B
 | _=>False
theorem MG {P:Program} {tt:TypeId->Option TI} (ht:oE P tt) (hmix:P.follows .mixedOrders=true) {g:FuncId} {fn:Func} {c:Code} {n:Nat} (hf:FnAt P g fn c n) (E0:Env) (hP:E0.P=P) (as:List SV) (t:Tmp) (g2:FuncId) (key k0:Key) (ty:TypeId) (m0:Nat) (A:Array Value)
    (hres:fn.results.toList=[.tmp t]) (hp:as.all (fun s=>(eY s).isSome)=true) (hl:Nat.ble as.length n=true)
    (h:∀ w,d7 (iP P tt n w) c (fk 0 as) [] (TU t g2 k0 (Blk.row ty m0 A))):Own E0 g as [] (SV.clo g2 [key]) [(key,Blk.row ty m0 A)]:=by
 subst hP
 refine ⟨hf.enters,fun p hp=>by simp at hp,fun ρ w xs hinj hlt hnew hx _ hO _=>?_⟩
 have hx':fU (fun _=>none) as xs:=by
  clear hl h
  induction as generalizing xs with
  | nil=>cases xs with
   | nil=>trivial
   | cons=>exact hx.elim
  | cons s as ih =>
   cases xs with
   | nil=>exact hx.elim
   | cons x xs =>
    simp only [List.all_cons,Bool.and_eq_true] at hp
    refine ⟨?_,ih hp.2 xs hx.2⟩
    match s,hp.1,hx.1 with
    | .inl u,_,h=>exact h
 have hs:=i9 (E:=(iP E0.P tt n w).toEnv) hx' (Nat.le_of_ble_eq_true hl)
 have hk:ρ key=none:=hnew (key,Blk.row ty m0 A) (by simp) (by simp [aw])
 refine calls_of_wp hf.fnc hf.body ?_
 rw [hf.slots]
 refine wp_mono (cJ (E:=iP E0.P tt n w) ht hmix c _ _ _ hf.code (h w) (fun _=>none) _ w hs ?_) ?_
 ·exact ⟨rfl,rfl,rfl,Nat.le_refl _,fun _ _ _=>rfl,fun d B hd=>by simp [aw] at hd,fun _ _=>rfl,fun d B hd=>by simp [aw] at hd,fun d B b hd=>by simp [aw] at hd,fun d e k hd=>(by cases hd),fun d k B hp=>by simp at hp⟩
 rintro e a w' ⟨f,m,ρ1,h1,h2,h3⟩
 have key2:aB f t=SV.clo g2 [k0]/\aw m k0=some (Blk.row ty m0 A)->a.defers=[]/\∃ v,(results fn a.tmps).run E0.P w'=.ok v w'/\(∃ ρ' x,Ending.returned v=.returned x/\SV.rel ρ' (SV.clo g2 [key]) x/\After ρ ρ' [(key,Blk.row ty m0 A)] w w'):=by
  rintro ⟨h4,h5⟩
  refine ⟨h1.defers,a.tmps.getD t undef,?_,ρ.set key ((ρ1 k0).getD 0),_,rfl,?_,?_⟩
  ·refine iy (vs:=[a.tmps.getD t undef]) (by rw [hres];rfl) fun i r v h4 h5=>?_
   rw [hres] at h4
   cases i with
   | zero=>simp at h4 h5;subst h4;subst h5;simp [qA,Array.getD_eq_getD_getElem?]
   | succ i=>simp at h4
  ·have h6:=h1.rel t
   rw [h4] at h6
   obtain ⟨bs,hb,e⟩:=h6
   cases bs with
   | nil=>simp at hb
   | cons b bs =>
    simp only [List.map_cons,List.map_nil,List.cons.injEq,List.nil_eq,List.map_eq_nil_iff] at hb
    obtain ⟨hb,rfl⟩:=hb
    exact ⟨[b],by simp [Rho.set,hb],e⟩
  ·obtain ⟨k,o,h6,h7,h8,h9⟩:=h2.blk k0 _ h5 rfl
   have h7:w.heap.size<=k:=by
    rcases h7 with h7 | h7
    ·exact h7
    ·simp at h7
   refine ⟨h2.os,h2.tape,h2.output,h2.size,fun k hk _=>h2.old k hk (by simp),fun d B hd=>?_,fun d hd=>?_,fun d e j hd he=>?_,Rho.set_ext hk⟩
   ·simp only [aw] at hd
    split at hd
    ·rename_i e
     subst e
     cases hd
     exact ⟨k,o,by simp [Rho.set,h6],.inr h7,h8,h9⟩
    ·cases hd
   ·simp only [aw] at hd
    split at hd
    ·cases hd
    ·rename_i e
     simp [Rho.set,Ne.symm e]
   ·simp only [Rho.set,h6,Option.getD_some] at hd he
    split at hd<;>split at he
    ·rename_i e1 e2;rw [e1,e2]
    ·rename_i e1 e2
     cases hd
     have:=hlt _ _ he
     omega
    ·rename_i e1 e2
     cases he
     have:=hlt _ _ hd
     omega
    ·exact hinj _ _ _ hd he
 cases e with
 | normal=>exact key2 h3
 | ret=>exact key2 h3
 | _=>exact h3.elim
theorem FJ (cuts:List Nat) {P:Program} {tt:TypeId->Option TI} (ht:oE P tt) (hmix:P.follows .mixedOrders=true) {g:FuncId} {fn:Func} {c:Code} {n:Nat} (hf:FnAt P g fn c n) (E0:Env) (hP:E0.P=P) (d:Key) (p:TypeId×Nat×Array Value×Array Value) (as:List SV) (v:Value)
    (hok:as.all (ml [⟨1000,d,p.1,p.2.1,p.2.2.1,p.2.2.2⟩])=true) (hl:Nat.ble as.length n=true)
    (h:∀ w b,OldW E0 w->d7 { P:=P,w0:=w,X:=[b],n:=n,pk:=[(1000,b)],tt:=tt,cuts:=cuts } c (fk 0 as) [(1000,Blk.row p.1 p.2.1 p.2.2.1)] (sE { P:=P,w0:=w,X:=[b],n:=n,pk:=[(1000,b)],tt:=tt,cuts:=cuts } fn.results.toList v [(1000,Blk.row p.1 p.2.1 p.2.2.2)])) :
    Own E0 g (as.map (sF [⟨1000,d,p.1,p.2.1,p.2.2.1,p.2.2.2⟩])) [(d,Blk.row p.1 p.2.1 p.2.2.1)] (SV.c v) [(d,Blk.row p.1 p.2.1 p.2.2.2)] :=
 vN cuts ht hmix hf E0 hP [⟨1000,d,p.1,p.2.1,p.2.2.1,p.2.2.2⟩] as v hok hl (by intro p q hp hq;simp at hp hq;subst hp;subst hq;simp) (by intro p q hp hq _;simp at hp hq;rw [hp,hq]) fun w β hO _=>h w (β d) hO
theorem xe (cuts:List Nat) {P:Program} {tt:TypeId->Option TI} (ht:oE P tt) (hmix:P.follows .mixedOrders=true) {g:FuncId} {fn:Func} {c:Code} {n:Nat} (hf:FnAt P g fn c n) (E0:Env) (hP:E0.P=P) (d e:Key) (hde:d≠e) (p q:TypeId×Nat×Array Value×Array Value) (as:List SV) (v:Value)
    (hok:as.all (ml [⟨1000,d,p.1,p.2.1,p.2.2.1,p.2.2.2⟩,⟨1001,e,q.1,q.2.1,q.2.2.1,q.2.2.2⟩])=true) (hl:Nat.ble as.length n=true)
    (h:∀ w b b',OldW E0 w->d7 { P:=P,w0:=w,X:=[b,b'],n:=n,pk:=[(1000,b),(1001,b')],tt:=tt,cuts:=cuts } c (fk 0 as) [(1000,Blk.row p.1 p.2.1 p.2.2.1),(1001,Blk.row q.1 q.2.1 q.2.2.1)] (sE { P:=P,w0:=w,X:=[b,b'],n:=n,pk:=[(1000,b),(1001,b')],tt:=tt,cuts:=cuts } fn.results.toList v [(1000,Blk.row p.1 p.2.1 p.2.2.2),(1001,Blk.row q.1 q.2.1 q.2.2.2)])) :
    Own E0 g (as.map (sF [⟨1000,d,p.1,p.2.1,p.2.2.1,p.2.2.2⟩,⟨1001,e,q.1,q.2.1,q.2.2.1,q.2.2.2⟩])) [(d,Blk.row p.1 p.2.1 p.2.2.1),(e,Blk.row q.1 q.2.1 q.2.2.1)] (SV.c v) [(d,Blk.row p.1 p.2.1 p.2.2.2),(e,Blk.row q.1 q.2.1 q.2.2.2)] :=
 vN cuts ht hmix hf E0 hP [⟨1000,d,p.1,p.2.1,p.2.2.1,p.2.2.2⟩,⟨1001,e,q.1,q.2.1,q.2.2.1,q.2.2.2⟩] as v hok hl (by intro p q hp hq;simp at hp hq;rcases hp with rfl | rfl<;>rcases hq with rfl | rfl<;>simp [hde,Ne.symm hde]) (by intro p q hp hq h;simp at hp hq;rcases hp with rfl | rfl<;>rcases hq with rfl | rfl<;>first | rfl | simp at h) fun w β hO _=>h w (β d) (β e) hO
theorem pd {P:Program} {tt:TypeId->Option TI} (ht:oE P tt) (hmix:P.follows .mixedOrders=true) {g:FuncId} {fn:Func} {c:Code} {n:Nat} (hf:FnAt P g fn c n) (E0:Env) (hP:E0.P=P) (d:Key) (p:TypeId×Nat×Array Value×Array Value) (as:List SV) (v:Value)
    (hok:as.all (ml [⟨1000,d,p.1,p.2.1,p.2.2.1,p.2.2.2⟩])=true) (hl:Nat.ble as.length n=true)
    (h:∀ w b,OldW E0 w->d7 { P:=P,w0:=w,X:=[b],n:=n,pk:=[(1000,b)],tt:=tt } c (fk 0 as) [(1000,Blk.row p.1 p.2.1 p.2.2.1)] (sE { P:=P,w0:=w,X:=[b],n:=n,pk:=[(1000,b)],tt:=tt } fn.results.toList v [(1000,Blk.row p.1 p.2.1 p.2.2.2)])) :
    Own E0 g (as.map (sF [⟨1000,d,p.1,p.2.1,p.2.2.1,p.2.2.2⟩])) [(d,Blk.row p.1 p.2.1 p.2.2.1)] (SV.c v) [(d,Blk.row p.1 p.2.1 p.2.2.2)] :=
 FJ [] ht hmix hf E0 hP d p as v hok hl h
theorem rE {P:Program} {tt:TypeId->Option TI} (ht:oE P tt) (hmix:P.follows .mixedOrders=true) {g:FuncId} {fn:Func} {c:Code} {n:Nat} (hf:FnAt P g fn c n) (E0:Env) (hP:E0.P=P) (d e:Key) (hde:d≠e) (p q:TypeId×Nat×Array Value×Array Value) (as:List SV) (v:Value)
    (hok:as.all (ml [⟨1000,d,p.1,p.2.1,p.2.2.1,p.2.2.2⟩,⟨1001,e,q.1,q.2.1,q.2.2.1,q.2.2.2⟩])=true) (hl:Nat.ble as.length n=true)
    (h:∀ w b b',OldW E0 w->d7 { P:=P,w0:=w,X:=[b,b'],n:=n,pk:=[(1000,b),(1001,b')],tt:=tt } c (fk 0 as) [(1000,Blk.row p.1 p.2.1 p.2.2.1),(1001,Blk.row q.1 q.2.1 q.2.2.1)] (sE { P:=P,w0:=w,X:=[b,b'],n:=n,pk:=[(1000,b),(1001,b')],tt:=tt } fn.results.toList v [(1000,Blk.row p.1 p.2.1 p.2.2.2),(1001,Blk.row q.1 q.2.1 q.2.2.2)])) :
    Own E0 g (as.map (sF [⟨1000,d,p.1,p.2.1,p.2.2.1,p.2.2.2⟩,⟨1001,e,q.1,q.2.1,q.2.2.1,q.2.2.2⟩])) [(d,Blk.row p.1 p.2.1 p.2.2.1),(e,Blk.row q.1 q.2.1 q.2.2.1)] (SV.c v) [(d,Blk.row p.1 p.2.1 p.2.2.2),(e,Blk.row q.1 q.2.1 q.2.2.2)] :=
 xe [] ht hmix hf E0 hP d e hde p q as v hok hl h
theorem aQ (cuts:List Nat) {P:Program} {tt:TypeId->Option TI} (ht:oE P tt) (hmix:P.follows .mixedOrders=true) {g:FuncId} {fn:Func} {c:Code} {n:Nat} (hf:FnAt P g fn c n) (E0:Env) (hP:E0.P=P) (d:Key) (p:TypeId×Nat×Array Value×Array Value) (as:List SV) (v:Value)
    (hok:as.all (ml [⟨1000,d,p.1,p.2.1,p.2.2.1,p.2.2.2⟩])=true) (hl:Nat.ble as.length n=true)
    (h:∀ w b,(∀ w',OldW { P:=P,w0:=w,X:=[b],n:=n,pk:=[(1000,b)] } w'->OldW E0 w')->d7 { P:=P,w0:=w,X:=[b],n:=n,pk:=[(1000,b)],tt:=tt,cuts:=cuts } c (fk 0 as) [(1000,Blk.row p.1 p.2.1 p.2.2.1)] (sE { P:=P,w0:=w,X:=[b],n:=n,pk:=[(1000,b)],tt:=tt,cuts:=cuts } fn.results.toList v [(1000,Blk.row p.1 p.2.1 p.2.2.2)])) :
    Own E0 g (as.map (sF [⟨1000,d,p.1,p.2.1,p.2.2.1,p.2.2.2⟩])) [(d,Blk.row p.1 p.2.1 p.2.2.1)] (SV.c v) [(d,Blk.row p.1 p.2.1 p.2.2.2)] :=
 vN cuts ht hmix hf E0 hP [⟨1000,d,p.1,p.2.1,p.2.2.1,p.2.2.2⟩] as v hok hl (by intro p q hp hq;simp at hp hq;subst hp;subst hq;simp) (by intro p q hp hq _;simp at hp hq;rw [hp,hq]) fun w β hO hT=>h w (β d) hT
theorem pb (cuts:List Nat) {P:Program} {tt:TypeId->Option TI} (ht:oE P tt) (hmix:P.follows .mixedOrders=true) {g:FuncId} {fn:Func} {c:Code} {n:Nat} (hf:FnAt P g fn c n) (E0:Env) (hP:E0.P=P) (d e:Key) (hde:d≠e) (p q:TypeId×Nat×Array Value×Array Value) (as:List SV) (v:Value)
    (hok:as.all (ml [⟨1000,d,p.1,p.2.1,p.2.2.1,p.2.2.2⟩,⟨1001,e,q.1,q.2.1,q.2.2.1,q.2.2.2⟩])=true) (hl:Nat.ble as.length n=true)
    (h:∀ w b b',(∀ w',OldW { P:=P,w0:=w,X:=[b,b'],n:=n,pk:=[(1000,b),(1001,b')] } w'->OldW E0 w')->d7 { P:=P,w0:=w,X:=[b,b'],n:=n,pk:=[(1000,b),(1001,b')],tt:=tt,cuts:=cuts } c (fk 0 as) [(1000,Blk.row p.1 p.2.1 p.2.2.1),(1001,Blk.row q.1 q.2.1 q.2.2.1)] (sE { P:=P,w0:=w,X:=[b,b'],n:=n,pk:=[(1000,b),(1001,b')],tt:=tt,cuts:=cuts } fn.results.toList v [(1000,Blk.row p.1 p.2.1 p.2.2.2),(1001,Blk.row q.1 q.2.1 q.2.2.2)])) :
    Own E0 g (as.map (sF [⟨1000,d,p.1,p.2.1,p.2.2.1,p.2.2.2⟩,⟨1001,e,q.1,q.2.1,q.2.2.1,q.2.2.2⟩])) [(d,Blk.row p.1 p.2.1 p.2.2.1),(e,Blk.row q.1 q.2.1 q.2.2.1)] (SV.c v) [(d,Blk.row p.1 p.2.1 p.2.2.2),(e,Blk.row q.1 q.2.1 q.2.2.2)] :=
 vN cuts ht hmix hf E0 hP [⟨1000,d,p.1,p.2.1,p.2.2.1,p.2.2.2⟩,⟨1001,e,q.1,q.2.1,q.2.2.1,q.2.2.2⟩] as v hok hl (by intro p q hp hq;simp at hp hq;rcases hp with rfl | rfl<;>rcases hq with rfl | rfl<;>simp [hde,Ne.symm hde]) (by intro p q hp hq h;simp at hp hq;rcases hp with rfl | rfl<;>rcases hq with rfl | rfl<;>first | rfl | simp at h) fun w β hO hT=>h w (β d) (β e) hT
theorem ar {k:IntKind} {a b:Int} (h:a=b):SV.c (.int k a)=SV.c (.int k b):=by rw [h]
theorem bk {t:TypeId} {n:Nat} {A B:Array Value} (h:A=B):some (Blk.row t n A)=some (Blk.row t n B):=by rw [h]
end Go.SX
namespace Go.SX
open Go Go.RowKit
def uv (pre:aA) (σ:List (Key×Key)) (U:aA):Bool :=
 U.all (fun p=>jx p.2 && (match p.2.tied with
  | true=>bY pre p.1 && Nat.beq (dn σ p.1) p.1
  | false=>!bY pre p.1)) && pre.all (fun p=>!p.2.tied || bY U p.1) && At σ (keysM U) && distinct (keysM U)
def MN (E:VE) (rs:List ResultVar) (pre:aA) (Q:Value->aA->Prop) (f:bB) (m:aA):Prop :=
 C5 E f m rs fun vs=>∃ U σ,Q (cW vs) U/\fZ m (dW σ U)/\uv pre σ U=true
def TM (E:VE) (rs:List ResultVar) (pre:aA) (Q:Value->aA->Prop):VQ:=fun e f m=>match e with
 | .normal=>MN E rs pre Q f m
 | .ret=>MN E rs pre Q f m
 | _=>False
def aJ (pre:aA) (β:Key->Nat):List (Key×Nat):=match pre with
 | []=>[]
 | (d,B) :: r=>match B.tied with
  | true=>(d,β d) :: aJ r β
  | false=>aJ r β
theorem lH {β:Key->Nat}:∀ {pre:aA} {d:Key} {k:Nat},(d,k)∈aJ pre β↔k=β d/\∃ B,(d,B)∈pre/\B.tied=true
 | [],d,k=>by simp [aJ]
 | (d',B) :: r,d,k=>by
  unfold aJ
  cases ht:B.tied with
  | true =>
   simp only [List.mem_cons,Prod.mk.injEq,lH (pre:=r)]
   constructor
   ·rintro (⟨rfl,rfl⟩ | ⟨rfl,B',h1,h2⟩)
    ·exact ⟨rfl,B,.inl ⟨rfl,rfl⟩,ht⟩
    ·exact ⟨rfl,B',.inr h1,h2⟩
   ·rintro ⟨rfl,B',⟨rfl,rfl⟩ | h1,h2⟩
    ·exact .inl ⟨rfl,rfl⟩
    ·exact .inr ⟨rfl,B',h1,h2⟩
  | false =>
   simp only [List.mem_cons,Prod.mk.injEq,lH (pre:=r)]
   constructor
   ·rintro ⟨rfl,B',h1,h2⟩
    exact ⟨rfl,B',.inr h1,h2⟩
   ·rintro ⟨rfl,B',⟨rfl,rfl⟩ | h1,h2⟩
    ·rw [ht] at h2;cases h2
    ·exact ⟨rfl,B',h1,h2⟩
theorem uJ {m:aA} {d:Key} (h:bY m d=true):∃ B,aw m d=some B/\B.tied=true:=by
 unfold bY at h
 split at h
 ·rename_i B hB;exact ⟨B,hB,h⟩
 ·cases h
abbrev aY (P:Program) (tt:TypeId->Option TI) (n:Nat) (w:World) (X:List Nat) (pk:List (Key×Nat)) (cuts:List Nat:=[]):VE:={ P:=P,w0:=w,X:=X,n:=n,pk:=pk,tt:=tt,cuts:=cuts,own:=true }
theorem aD (cuts:List Nat) {P:Program} {tt:TypeId->Option TI} (ht:oE P tt) (hmix:P.follows .mixedOrders=true) {g:FuncId} {fn:Func} {c:Code} {n:Nat} (hf:FnAt P g fn c n) (E0:Env) (hP:E0.P=P) (as:List SV) (pre:aA) (Q:Value->aA->Prop)
    (hok:(distinct (keysM pre) && pre.all (fun p=>jx p.2) && as.all (fun s=>(iG s).all (bY pre)))=true) (hl:Nat.ble as.length n=true)
    (h:∀ w X β,(∀ w',OldW (aY P tt n w X (aJ pre β) cuts).toEnv w'->OldW E0 w')->d7 (aY P tt n w X (aJ pre β) cuts) c (fk 0 as) pre (TM (aY P tt n w X (aJ pre β) cuts) fn.results.toList pre Q)):OwnC E0 g as pre Q:=by
 subst hP
 simp only [Bool.and_eq_true] at hok
 obtain ⟨⟨hd,hpl⟩,hks⟩:=hok
 refine ⟨hf.enters,fun ρ w xs hw hx=>?_⟩
 let β:Key->Nat:=fun d=>(ρ d).getD 0
 have hβ:∀ d k,ρ d=some k->β d=k:=fun d k hk=>by simp [β,hk]
 let E:VE:=aY E0.P tt n w (gW ρ pre) (aJ pre β) cuts
 have hT:∀ w',OldW E.toEnv w'->OldW E0 w':=fun w' hw'=>by
  have:=Gw hw hd (E1:=E.toEnv) rfl rfl hw'
  exact ⟨this.os,this.tape,this.output,this.size,this.old⟩
 have hs:=i9 (E:=E.toEnv) hx (Nat.le_of_ble_eq_true hl)
 refine calls_of_wp hf.fnc hf.body ?_
 rw [hf.slots]
 have hw1:Wd E.toEnv ρ (aw pre) w:=by
  refine ⟨rfl,rfl,rfl,Nat.le_refl _,fun _ _ _=>rfl,fun d B hB ht=>?_,hw.dom,hw.loose,fun d B b hB hb=>?_,hw.inj,fun d k B hk hB hBt=>?_⟩
  ·obtain ⟨k,o,h1,h2,h3,h4⟩:=hw.blk d B hB ht
   exact ⟨k,o,h1,.inr (cL.2 ⟨_,aW hB,.inl ⟨ht,h1⟩⟩),h3,h4⟩
  ·obtain ⟨h1,h2,h3⟩:=hw.sep d B b hB hb
   refine ⟨.inr (cL.2 ⟨_,aW hB,?_⟩),h2,h3⟩
   cases ht:B.tied with
   | true=>rw [Blk.num_none ht] at hb;cases hb
   | false=>exact .inr ⟨by first | exact ht | rfl,hb⟩
  ·have hk:(d,k)∈aJ pre β:=hk
   obtain ⟨rfl,-⟩:=lH.1 hk
   obtain ⟨k',o,h1,-⟩:=hw.blk d B hB hBt
   rw [h1,hβ d k' h1]
 refine wp_mono (cJ (E:=E) ht hmix c _ _ _ hf.code (h w _ β hT) _ _ w hs hw1) ?_
 rintro e a w' ⟨f,m,ρ',h1,h2,h3⟩
 have key:MN E fn.results.toList pre Q f m->a.defers=[]/\∃ v,(results fn a.tmps).run E0.P w'=.ok v w'/\(∃ x U,Ending.returned v=.returned x/\Q x U/\Wd E0.np ρ (aw U) w'/\FrameX ρ pre U w w'):=by
  intro h4
  obtain ⟨vs,hlv,hr,U,σ,hQ,hm,hro⟩:=rW (E:=E) ht h1 h2 h4
  simp only [uv,Bool.and_eq_true] at hro
  obtain ⟨⟨⟨hr1,hr2⟩,hr3⟩,hr4⟩:=hro
  refine ⟨h1.defers,_,iy hlv hr,_,U,rfl,hQ,?_⟩
  have hone:∀ d B,aw U d=some B->jx B=true/\(B.tied=true->bY pre d=true/\dn σ d=d)/\(B.tied=false->bY pre d=false):=fun d B hB=>by
   have:=List.all_eq_true.1 hr1 _ (aW hB)
   simp only [Bool.and_eq_true] at this
   refine ⟨this.1,fun ht=>?_,fun ht=>?_⟩
   ·have h5:=this.2
    rw [ht] at h5
    simp only [Bool.and_eq_true] at h5
    exact ⟨h5.1,Nat.eq_of_beq_eq_true h5.2⟩
   ·have h5:=this.2
    rw [ht] at h5
    simpa using h5
  have hmm:∀ d B,aw U d=some B->uY m (dn σ d) B:=fun d B hB=>qj hm _ (iD (aW hB))
  -- the numbers of what was handed in are kept
  have hkeepρ:∀ d k,ρ d=some k->∃ B,aw U d=some B/\B.tied=true/\ρ' d=some k/\aw m d=some B:=fun d k hk=>by
   obtain ⟨B0,hB0,ht0⟩:=hw.tied_of hk
   have h5:=List.all_eq_true.1 hr2 _ (aW hB0)
   simp only [ht0,Bool.not_true,Bool.false_or] at h5
   obtain ⟨B,hB,hBt⟩:=uJ h5
   obtain ⟨h6,h7⟩:=(hone d B hB).2.1 hBt
   have h8:=ig (hmm d B hB) hBt
   rw [h7] at h8
   have h9:=h2.par d (β d) B (lH.2 ⟨rfl,B0,aW hB0,ht0⟩) h8 hBt
   rw [hβ d k hk] at h9
   exact ⟨B,hB,hBt,h9,h8⟩
  have hold:=hT w' h2.oldW
  have hρb:∀ d B b,aw U d=some B->B.num=some b->∀ e,ρ e≠some b:=fun d B b hB hb e he=>by
   obtain ⟨-,-,-,h5,-⟩:=hkeepρ e b he
   rcases dc (hmm d B hB) with h6 | ⟨-,h6,-⟩
   ·exact (h2.sep _ B b h6 hb).2.1 e h5
   ·rw [h6] at hb;cases hb
  have hfresh:∀ d B b,aw U d=some B->B.num=some b->w.heap.size<=b\/∃ p,p∈pre/\p.2.num=some b:=fun d B b hB hb=>by
   rcases dc (hmm d B hB) with h6 | ⟨-,h6,-⟩
   ·rcases (h2.sep _ B b h6 hb).1 with h7 | h7
    ·exact .inl h7
    ·obtain ⟨p,hp,h8⟩:=cL.1 h7
     rcases h8 with ⟨h8,h9⟩ | ⟨h8,h9⟩
     ·exact absurd h9 (hρb d B b hB hb p.1)
     ·exact .inr ⟨p,hp,h9⟩
   ·rw [h6] at hb;cases hb
  refine ⟨⟨hold.os,hold.tape,hold.output,hold.size,hold.old,fun d B hB hBt=>?_,fun d hdn=>?_,fun d B hB hBt=>?_,fun d B b hB hb=>?_,hw.inj,fun d k B hk=>by simp [Env.np] at hk⟩,?_⟩
  ·obtain ⟨h6,h7⟩:=(hone d B hB).2.1 hBt
   obtain ⟨B0,hB0,ht0⟩:=uJ h6
   obtain ⟨k,o,h8,h9,-⟩:=hw.blk d B0 hB0 ht0
   obtain ⟨B1,hB1,-,h10,h11⟩:=hkeepρ d k h8
   rw [hB] at hB1;cases hB1
   obtain ⟨k2,o2,h12,-,h13,h14⟩:=h2.blk d B h11 hBt
   rw [h10] at h12;cases h12
   exact ⟨k,o2,h8,h9,h13,oq (hone d B hB).1 h14⟩
  ·cases hk:ρ d with
   | none=>rfl
   | some k =>
    obtain ⟨B,hB,-⟩:=hkeepρ d k hk
    rw [hdn] at hB;cases hB
  ·refine ⟨?_,?_⟩
   ·cases hk:ρ d with
    | none=>rfl
    | some k =>
     obtain ⟨B1,hB1,ht1,-⟩:=hkeepρ d k hk
     rw [hB] at hB1;cases hB1
     rw [hBt] at ht1;cases ht1
   ·rcases dc (hmm d B hB) with h6 | ⟨-,-,h6⟩
    ·exact (h2.loose _ B h6 hBt).2
    ·exact h6 w'
  ·refine ⟨?_,hρb d B b hB hb,fun e B' hB' hb'=>?_⟩
   ·rcases hfresh d B b hB hb with h6 | ⟨p,hp,h6⟩
    ·exact .inl (Nat.le_trans hw.size h6)
    ·exact (hw.sep _ _ b (aK hd hp) h6).1
   ·rcases dc (hmm d B hB) with h6 | ⟨-,h6,-⟩
    ·rcases dc (hmm e B' hB') with h7 | ⟨-,h7,-⟩
     ·exact rN hr3 (gB hB') (gB hB) ((h2.sep _ B b h6 hb).2.2 _ B' h7 hb')
     ·rw [h7] at hb';cases hb'
    ·rw [h6] at hb;cases hb
  ·refine ⟨h2.size,fun k hk hne=>h2.old k hk fun hX=>?_,hfresh⟩
   obtain ⟨p,hp,h8⟩:=cL.1 hX
   rcases h8 with ⟨-,h9⟩ | ⟨-,h9⟩
   ·exact (hne p hp).1 h9
   ·exact (hne p hp).2 h9
 cases e with
 | normal=>exact key h3
 | ret=>exact key h3
 | _=>exact h3.elim
theorem vO (cuts:List Nat) {P:Program} {tt:TypeId->Option TI} (ht:oE P tt) (hmix:P.follows .mixedOrders=true) {g:FuncId} {fn:Func} {c:Code} {n:Nat} (hf:FnAt P g fn c n) (as:List Value) (v:Value) (w:World) (hl:Nat.ble as.length n=true)
    (h:d7 (aY P tt n w [] [] cuts) c (fk 0 (as.map SV.c)) [] (sE (aY P tt n w [] [] cuts) fn.results.toList v [])):Calls P g as.toArray w fun e w'=>e=.returned v/\Below w.heap.size w w':=by
 have hx':fU (fun _=>none) (as.map SV.c) as:=by
  clear hl h
  induction as with
  | nil=>trivial
  | cons s as ih=>exact ⟨rfl,ih⟩
 have hs:=i9 (E:=(aY P tt n w [] [] cuts).toEnv) hx' (Nat.le_of_ble_eq_true (by rw [List.length_map];exact hl))
 refine calls_of_wp hf.fnc hf.body ?_
 rw [hf.slots]
 refine wp_mono (cJ (E:=aY P tt n w [] [] cuts) ht hmix c _ _ _ hf.code h (fun _=>none) _ w hs ?_) (tJ (E:=aY P tt n w [] [] cuts) ht fun ρ' m w' h2 _=>⟨rfl,h2.os,h2.tape,h2.output,h2.size,fun k hk=>h2.old k hk (by simp)⟩)
 exact ⟨rfl,rfl,rfl,Nat.le_refl _,fun _ _ _=>rfl,fun d B hd=>by simp [aw] at hd,fun _ _=>rfl,fun d B hd=>by simp [aw] at hd,fun d B b hd=>by simp [aw] at hd,fun d e k hd=>(by cases hd),fun d k B hp=>by simp at hp⟩
theorem Lst.size {E:Env} {v:Value} {sz n:Nat} {A:Array Value} (h:Lst E v sz n A):A.size=n*sz:=h.1
theorem Lst.shape {E:Env} {v:Value} {sz n:Nat} {A:Array Value} (h:Lst E v sz n A):∃ a cap,v=.slice a n cap/\n<=cap/\(0 < n->∃ b o,a=some ⟨b,o,none⟩/\∀ w,OldW E w->∀ j u,A[j]? = some u->w.cell? ⟨b,o+j,none⟩=some u):=h.2.2.2
theorem G6 {E:VE} (hE:VOk E) {b o off:Nat} {A:Array Value} {ty:TypeId} {i:TI} {v:Value} (h:∀ w,OldW E.toEnv w->∀ j u,A[j]? = some u->w.cell? ⟨b,o+j,none⟩=some u) (hi:E.tt ty=some i) (hr:i.row=false) (hv:A[off]? = some v) {p:Nat} (hp:p=o+off):bH E.toEnv (Instr.loadAt ty (.pointer (some ⟨b,p,none⟩))) v:=fun w hw=>by
 subst hp
 exact eo (hE ty i hi) (h w hw off v hv) hr
theorem J8 {E:VE} (hE:VOk E) {b o off:Nat} {A:Array Value} {ty:TypeId} {i:TI} (h:∀ w,OldW E.toEnv w->∀ j u,A[j]? = some u->w.cell? ⟨b,o+j,none⟩=some u) (hi:E.tt ty=some i) (hr:i.row=true) (hn:off+i.size<=A.size) {p:Nat} (hp:p=o+off):bH E.toEnv (Instr.loadAt ty (.pointer (some ⟨b,p,none⟩))) (.agg (A.extract off (off+i.size))):=fun w hw=>by
 subst hp
 have hs:(A.extract off (off+i.size)).toList.length=i.size:=by simp;omega
 obtain ⟨d,hd,hdr,_⟩:=(hE ty i hi).desc
 have:=run_loadAt_mid (P:=E.P) w b (o+off) ty (A.extract off (off+i.size)).toList d (fun j v hj=>by
  rw [Nat.add_assoc]
  refine h w hw (off+j) v ?_
  rw [Array.getElem?_toList,Array.getElem?_extract] at hj
  split at hj
  ·exact hj
  ·cases hj) hd (hdr.trans hr) (by rw [(hE ty i hi).size,hs])
 simpa only [Array.toArray_toList] using this
end Go.SX
