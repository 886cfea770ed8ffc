/- a table of types that agrees with the program: checked at on; no condition. -/
import Derived.Test.YtklehfchdoikeaaGreatDoorP6
set_option maxRecDepth 100000
set_option maxHeartbeats 4000000
namespace Go.SX
open Go Go.RowKit
def TI.of (P:Program) (ty:TypeId):Option TI :=
 match P.info? ty,P.underlying ty with
 | some j,some d =>
  match j.zero with
  | some z =>
   if Nat.beq z.cells.size j.size=true then
    match d with
    | .struct fs=>some { row:=d.isRow,size:=j.size,zero:=z.cells,kind:=1,fields:=fs.toList.map fun f=>(f.offset,f.type) }
    | .array n e=>some { row:=d.isRow,size:=j.size,zero:=z.cells,kind:=2,len:=n,elem:=e }
    | .slice e=>some { row:=d.isRow,size:=j.size,zero:=z.cells,kind:=3,elem:=e }
    | .int k=>some { row:=d.isRow,size:=j.size,zero:=z.cells,kind:=4,ik:=k }
    | .bool=>some { row:=d.isRow,size:=j.size,zero:=z.cells,kind:=5 }
    | _=>some { row:=d.isRow,size:=j.size,zero:=z.cells,kind:=0 }
   else none
  | none=>none
 | _,_=>none
theorem TI.of_ok {P:Program} {ty:TypeId} {i:TI} (h:TI.of P ty=some i):TIok P ty i:=by
 unfold TI.of at h
 split at h
 ·rename_i j d h1 h2
  split at h
  ·rename_i z hz
   split at h
   ·rename_i hs
    have hs:=Nat.eq_of_beq_eq_true hs
    split at h<;>cases h<;>refine ⟨by rw [h1];rfl,⟨_,h2,rfl,?_⟩,by rw [h1];show Option.map _ j.zero=_;rw [hz];rfl,hs⟩
    ·exact ⟨_,rfl,rfl⟩
    ·rfl
    ·rfl
    ·rfl
    ·rfl
    ·trivial
   ·cases h
  ·cases h
 ·cases h
def TI.l1 (P:Program) (tt:TypeId->Option TI):Nat->List (Option TI)
 | 0=>[]
 | k+1=>(match tt k with | none=>none | some _=>TI.of P k) :: TI.l1 P tt k
def TI.l2 (tt:TypeId->Option TI):Nat->List (Option TI)
 | 0=>[]
 | k+1=>tt k :: TI.l2 tt k
theorem TI.l_at {P:Program} {tt:TypeId->Option TI}:∀ {n:Nat},TI.l1 P tt n=TI.l2 tt n->∀ k i,k < n->tt k=some i->TI.of P k=some i
 | n+1,h,k,i,hk,hi=>by
  rw [TI.l1,TI.l2] at h
  have h1:=(List.cons.inj h).1
  have h2:=(List.cons.inj h).2
  by_cases e:k=n
  ·subst e
   rw [hi] at h1
   exact h1
  ·exact TI.l_at h2 k i (by omega) hi
theorem Oc {P:Program} {tt:TypeId->Option TI} (n:Nat) (h1:∀ ty,n<=ty->tt ty=none) (h2:TI.l1 P tt n=TI.l2 tt n):oE P tt:=fun ty i h=>by
 by_cases e:ty < n
 ·exact TI.of_ok (TI.l_at h2 ty i e h)
 ·rw [h1 ty (Nat.le_of_not_lt e)] at h;cases h
def tS (e:Nat):TI:={ row:=false,size:=1,zero:=#[.slice none 0 0],kind:=3,elem:=e }
def tI (k:IntKind):TI:={ row:=false,size:=1,zero:=#[.int k 0],kind:=4,ik:=k }
def tV (v:Value):TI:={ row:=false,size:=1,zero:=#[v] }
end Go.SX
namespace Go.Proofs.YtklehfchdoikeaaGreatDoor
open Go Go.RowKit Go.SX
/-! ### interface values: made, and called -/
section
variable {E:VE} {o:Oper} {f:bB} {m:aA} {T:List Key->Prop} {K:VK}
theorem iE {t:TypeId} {x:Operand} {v:Value} (ho:o.op=.makeInterface t x) (hx:evF (aB f) x=SV.c v) (hu:∃ d,E.P.underlying t=some d/\∀ ms,d≠.interface ms)
    (h:K (SV.c (.iface t v)) [] []):br E o f m T K:=by
 obtain ⟨d,hd,hn⟩:=hu
 refine .inl ⟨SV.c (.iface t v),[],[],aT fun f' m' ρ a w hf hmm hF h2=>?_,aX,h⟩
 have hxx:=az hF x
 rw [hf x (by rw [ho];simp [Op.operands]),hx] at hxx
 have hxx:=bf hxx
 refine ⟨ρ,.iface t v,w,?_,Ext.refl _,rfl,by rw [fJ];exact h2⟩
 have hr:(Instr.makeInterface t v).run E.P w=.ok (.iface t v) w:=by
  simp only [Instr.makeInterface,Sem.run_bind,run_underlying hd,Result.andThen_ok]
  cases d<;>first | rfl | exact absurd rfl (hn _)
 simp only [execOp,ho,hxx,Sem.run_bind,hr,Result.andThen_ok,Sem.run_pure]
def EY (P:Program) (T:TypeId) (v:Value) (name:String) (g:FuncId) (r:Value):Prop:=∀ w,(method (P.types.size+Made.depth) T v name).run P w=.ok (g,r) w
theorem zv {c:Call} {recv:Operand} {name:String} {g:FuncId} {t:TypeId} {v r:Value} (ho:o.op=.call c) (hc:c.callee=.invoke recv name) (hx:evF (aB f) recv=SV.c (.iface t v)) (hm:EY E.P t v name g r) (he:Enters E.P g):Lo E o f g (SV.c r :: c.args.toList.map (evF (aB f))):=by
 intro f' ρ a hf h1
 have hf:=fun x hx=>di (o:=o) hf (x:=x) hx
 have hxx:=az h1 recv
 rw [hf recv (by rw [ho];simp [Op.operands,Call.operands,hc]),hx] at hxx
 have hxx:=bf hxx
 have hy:=pw h1 c.args.toList
 rw [jO ho hf] at hy
 refine ⟨r :: c.args.toList.map a.eval,⟨rfl,hy⟩,fun w=>?_⟩
 have e1:(#[Value.iface t v]++c.args.map a.eval)[0]? = some (Value.iface t v):=by rw [<- Array.getElem?_toList];simp
 have e2:(#[Value.iface t v]++c.args.map a.eval).extract 1 (#[Value.iface t v]++c.args.map a.eval).size=c.args.map a.eval:=by
  apply Array.ext'
  simp only [Array.toList_extract,Array.size_append]
  simp
  exact List.take_of_length_le (by simp)
 have e3:#[r]++c.args.map a.eval=(r :: c.args.toList.map a.eval).toArray:=by
  apply Array.ext'
  simp
 have hm:=hm w
 simp only [execOp,ho,resolve,hc,hxx,Sem.run_bind,Sem.run_pure,Result.andThen_ok,invoke,e1,e2,callMethod,run_program,hm,e3,he.run]
theorem wt {c:Call} {recv:Operand} {name:String} {g:FuncId} {t:TypeId} {v r:Value} (ho:o.op=.call c) (hc:c.callee=.invoke recv name) (hx:evF (aB f) recv=SV.c (.iface t v)) (hm:EY E.P t v name g r)
    (h:vC E m T K g (SV.c r :: c.args.toList.map (evF (aB f)))):br E o f m T K:=rn (zv ho hc hx hm) h
end
end Go.Proofs.YtklehfchdoikeaaGreatDoor
namespace Go.SX
theorem nf {p C:Prop} [Decidable p] (h:decide p=false) (hp:p):C:=absurd hp (ag h)
end Go.SX
namespace Go.SX
open Go Go.RowKit
def Pn (t:Tmp) (n:Nat) (k0:Key) (B:Blk):VQ:=fun e f m=>match e with
 | .normal=>aB f t=SV.sl k0 0 n n/\aw m k0=some B
 | .ret=>aB f t=SV.sl k0 0 n n/\aw m k0=some B
 | _=>False
theorem Jq {P:Program} {tt:TypeId->Option TI} (ht:oE P tt) (hmix:P.follows .mixedOrders=true) {g:FuncId} {fn:Func} {c:Code} {n:Nat} (hf:FnAt P g fn c n) (E0:Env) (hP:E0.P=P) (as:List SV) (t:Tmp) (len:Nat) (key k0:Key) (ty:TypeId) (m0:Nat) (A:Array Value)
    (hres:fn.results.toList=[.tmp t]) (hp:as.all (fun s=>(eY s).isSome)=true) (hl:Nat.ble as.length n=true)
    (h:∀ w,d7 (iP P tt n w) c (fk 0 as) [] (Pn t len k0 (Blk.row ty m0 A))):Own E0 g as [] (SV.sl key 0 len len) [(key,Blk.row ty m0 A)]:=by
 subst hP
 refine ⟨hf.enters,fun p hp=>by simp at hp,fun ρ w xs hinj hlt hnew hx _ hO _=>?_⟩
 have hx':fU (fun _=>none) as xs:=by
  clear hl h
  induction as generalizing xs with
  | nil=>cases xs with
   | nil=>trivial
   | cons=>exact hx.elim
  | cons s as ih =>
   cases xs with
   | nil=>exact hx.elim
   | cons x xs =>
    simp only [List.all_cons,Bool.and_eq_true] at hp
    refine ⟨?_,ih hp.2 xs hx.2⟩
    match s,hp.1,hx.1 with
    | .inl u,_,h=>exact h
 have hs:=i9 (E:=(iP E0.P tt n w).toEnv) hx' (Nat.le_of_ble_eq_true hl)
 have hk:ρ key=none:=hnew (key,Blk.row ty m0 A) (by simp) (by simp [aw])
 refine calls_of_wp hf.fnc hf.body ?_
 rw [hf.slots]
 refine wp_mono (cJ (E:=iP E0.P tt n w) ht hmix c _ _ _ hf.code (h w) (fun _=>none) _ w hs ?_) ?_
 ·exact ⟨rfl,rfl,rfl,Nat.le_refl _,fun _ _ _=>rfl,fun d B hd=>by simp [aw] at hd,fun _ _=>rfl,fun d B hd=>by simp [aw] at hd,fun d B b hd=>by simp [aw] at hd,fun d e k hd=>(by cases hd),fun d k B hp=>by simp at hp⟩
 rintro e a w' ⟨f,m,ρ1,h1,h2,h3⟩
 have key2:aB f t=SV.sl k0 0 len len/\aw m k0=some (Blk.row ty m0 A)->a.defers=[]/\∃ v,(results fn a.tmps).run E0.P w'=.ok v w'/\(∃ ρ' x,Ending.returned v=.returned x/\SV.rel ρ' (SV.sl key 0 len len) x/\After ρ ρ' [(key,Blk.row ty m0 A)] w w'):=by
  rintro ⟨h4,h5⟩
  refine ⟨h1.defers,a.tmps.getD t undef,?_,ρ.set key ((ρ1 k0).getD 0),_,rfl,?_,?_⟩
  ·refine iy (vs:=[a.tmps.getD t undef]) (by rw [hres];rfl) fun i r v h4 h5=>?_
   rw [hres] at h4
   cases i with
   | zero=>simp at h4 h5;subst h4;subst h5;simp [qA,Array.getD_eq_getD_getElem?]
   | succ i=>simp at h4
  ·have h6:=h1.rel t
   rw [h4] at h6
   obtain ⟨b,hb,e⟩:=h6
   exact ⟨b,by simp [Rho.set,hb],e⟩
  ·obtain ⟨k,o,h6,h7,h8,h9⟩:=h2.blk k0 _ h5 rfl
   have h7:w.heap.size<=k:=by
    rcases h7 with h7 | h7
    ·exact h7
    ·simp at h7
   refine ⟨h2.os,h2.tape,h2.output,h2.size,fun k hk _=>h2.old k hk (by simp),fun d B hd=>?_,fun d hd=>?_,fun d e j hd he=>?_,Rho.set_ext hk⟩
   ·simp only [aw] at hd
    split at hd
    ·rename_i e
     subst e
     cases hd
     exact ⟨k,o,by simp [Rho.set,h6],.inr h7,h8,h9⟩
    ·cases hd
   ·simp only [aw] at hd
    split at hd
    ·cases hd
    ·rename_i e
     simp [Rho.set,Ne.symm e]
   ·simp only [Rho.set,h6,Option.getD_some] at hd he
    split at hd<;>split at he
    ·rename_i e1 e2;rw [e1,e2]
    ·rename_i e1 e2
     cases hd
     have:=hlt _ _ he
     omega
    ·rename_i e1 e2
     cases he
     have:=hlt _ _ hd
     omega
    ·exact hinj _ _ _ hd he
 cases e with
 | normal=>exact key2 h3
 | ret=>exact key2 h3
 | _=>exact h3.elim
end Go.SX
namespace Go.Proofs.YtklehfchdoikeaaGreatDoor
open Go Go.RowKit Go.SX
/-! ### lists of length nought that are written out, as rows, and what is laid behind them -/
section
variable {E:VE} {o:Oper} {f:bB} {m:aA} {T:List Key->Prop} {K:VK}
theorem pT (hE:VOk E) {t:TypeId} {parts:Array (Nat×Operand)} {d:Key} {i j:TI} (ho:o.op=.buildSlice t 0 parts) (hp:parts=#[]) (_hd:o.dst=some d) (hi:E.tt t=some i) (hk:i.kind=3) (hj:E.tt i.elem=some j) (hm:aw m d=none) (hpk:E.pk.any (·.1 == d)=false)
    (h:K (SV.sl d 0 0 0) [d] [(d,Blk.row i.elem 0 #[])]):br E o f m T K:=by
 subst hp
 refine .inl ⟨_,_,_,aT (R:=[d]) (v:=SV.sl d 0 0 0) (U:=[(d,Blk.row i.elem 0 #[])]) fun f' m' ρ a w hf hmm h1 h2=>?_,bS,h⟩
 have hm':m' d=none:=(hmm d (by simp)).trans hm
 obtain ⟨dd,hu,_,hsay⟩:=(hE _ i hi).desc
 simp only [TI.says,hk] at hsay
 subst hsay
 refine ⟨ρ.set d w.heap.size,.slice (some ⟨w.heap.size,0,none⟩) 0 0,w.alloc (.cells #[] i.elem),?_,Rho.set_ext (h2.dom d hm'),⟨w.heap.size,by simp [Rho.set],rfl⟩,h2.alloc hm' hpk ⟨rfl,rfl⟩⟩
 have hb:(Instr.buildSlice t 0 (#[].map fun (i,x)=>(i,a.eval x))).run E.P w=.ok (.slice (some ⟨w.heap.size,0,none⟩) 0 0) (w.alloc (.cells #[] i.elem)):=by
  unfold Instr.buildSlice
  simp only [Sem.run_bind,run_underlying hu,Result.andThen_ok,run_sizeOf (hE _ _ hj)]
  rw [if_neg (by show ¬ (16777216 < 0*j.size);omega)]
  simp only [Sem.run_bind,Sem.run_pure,Result.andThen_ok,Nat.zero_mul,if_pos]
  have e0:∀ g:Nat->Value,(Array.range 0).map g=#[]:=fun g=>by
   apply Array.ext'
   simp
  rw [e0]
  simp [Instr.fill,newRow]
 simp only [execOp,ho,Sem.run_bind,Sem.run_pure]
 rw [hb]
 simp
theorem mt (hE:VOk E) {c:Call} {x y:Operand} {t:TypeId} {i j:TI} {d dN:Key} {s:SV} {R:List Key} {k:Nat} {X:Array Value} {q:TypeInfo} (ho:o.op=.call c) (hc:c.callee=.builtin .append) (hargs:c.args.toList=[x,y]) (hty:c.argTypes.toList=[t,t])
    (hx:evF (aB f) x=SV.sl d 0 0 0) (hy:evF (aB f) y=s) (hi:E.tt t=some i) (hk:i.kind=3) (hj:E.tt i.elem=some j) (_hj0:0 < j.size) (hent:aw m dN=none) (hsrc:Src E.toEnv (aw m) R s j.size k X) (hn:0 < k) (h63:k<=maxLen)
    (hq:E.P.info? i.elem=some q) (hby:k*q.bytes<=140737488355328) (hT:T (dN :: R))
    (h:∀ g cap,K (SV.c (.slice (some ⟨g,0,none⟩) k cap)) (dN :: R) [(dN,Blk.own (.slice (some ⟨g,0,none⟩) k cap) i.elem j.size k X)]):br E o f m T K:=by
 refine .inr ⟨dN :: R,I2 dN i.elem j.size k X,?_,?_,hT,?_⟩
 ·intro f' m' hf hm ρ a w h1 h2 K' Q hK
  have hf:=fun x hx=>di (o:=o) hf (x:=x) hx
  have hxx:=az h1 x
  rw [hf x (by rw [ho];exact bV (by rw [hargs];simp)),hx] at hxx
  obtain ⟨b,hb,hxv⟩:=hxx
  have hyy:=az h1 y
  rw [hf y (by rw [ho];exact bV (by rw [hargs];simp)),hy] at hyy
  obtain ⟨hX,hX1,hsrc⟩:=hsrc
  obtain ⟨ad,cc,hyv,hcells⟩:=hsrc m' ρ w _ (fun d' hd'=>hm d' (by simp [hd'])) h2 hyy
  obtain ⟨dd,hu,_,hs⟩:=(hE t i hi).desc
  simp only [TI.says,hk] at hs
  subst hs
  have hsz:=(hE _ j hj).size
  have hzr:=(hE _ j hj).zero
  rw [hq] at hsz hzr
  simp only [Option.map_some,Option.some.injEq] at hsz
  simp only [Option.bind_some,Option.map_eq_some_iff] at hzr
  obtain ⟨z,hz,hzc⟩:=hzr
  have hzs:z.cells.size=q.size:=by rw [hzc,hsz];exact (hE _ j hj).zsize
  have hl:X.toList.length=k*q.size:=by rw [hsz];simpa using hX
  have hentm:m' dN=none:=by rw [hm dN (by simp)];exact hent
  have hr:=run_append_grow (P:=E.P) w t o.type i.elem q z hu hq hz ⟨b,0,none⟩ 0 0 [] (by simp) (fun j v h=>by cases h) ad k cc X.toList hl (fun j' u hj'=>hcells j' u (by simpa using hj')) (by omega) (by unfold maxLen at h63;omega) (growslice_fits (by omega) (by rw [Nat.zero_add];exact hby))
  have hge:=grownCap_ge w (0+k) 0 i.elem
  have hcm:grownCap w (0+k) 0 i.elem<=maxLen:=grownCap_le_maxLen w (0+k) 0 i.elem (by omega)
  have e1:c.args.map a.eval=#[.slice (some ⟨b,0,none⟩) 0 0,.slice (some ad) k cc]:=by
   apply Array.ext'
   rw [Array.toList_map,hargs]
   simp [hxv,hyv]
  have e2:c.argTypes=#[t,t]:=by apply Array.ext';rw [hty]
  unfold Oper.wp
  rw [Nat.zero_add] at hr hge hcm
  generalize grownCap w k 0 i.elem=cap at hr hge hcm
  generalize hcur:([].toArray++X.toList.toArray++Builtin.zeroCells z.cells (cap - k))=cur at hr
  have hrun:(execOp a.eval o).run E.P w=.ok (.value (.slice (some ⟨w.heap.size,0,none⟩) k cap)) (w.drew.alloc (.cells cur i.elem)):=by
   simp only [execOp,ho,resolve,hc,e1,e2,Sem.run_bind,Sem.run_pure,Result.andThen_ok,invoke,builtin,hr]
  rw [hrun]
  have hX2:X.size=k*j.size:=hX
  refine hK ρ _ _ (SV.c (.slice (some ⟨w.heap.size,0,none⟩) k cap)) [(dN,Blk.own (.slice (some ⟨w.heap.size,0,none⟩) k cap) i.elem j.size k X)] ⟨_,_,rfl,rfl⟩ (Ext.refl _) rfl ?_
  refine h2.set_loose (no:=none) (.inl ⟨hentm,rfl⟩) rfl rfl rfl (by show _<=(w.drew.heap.push _).size;rw [Array.size_push];exact Nat.le_succ _) (fun k hk' _=>heap_alloc_old w.drew _ k hk') rfl ?_ (fun b hb=>?_)
  ·refine ⟨by simpa using hX2,.inr ⟨w.heap.size,cap,cur,rfl,Nat.zero_le _,heap_alloc_new w.drew _,hge,hcm,?_,?_⟩⟩
   ·rw [<- hcur]
    simp only [Array.size_append,List.size_toArray,size_zeroCells,hzs,hsz]
    simp only [List.length_nil,Nat.zero_add,hl,hsz,<- Nat.add_mul]
    congr 1
    omega
   ·rw [<- hcur,<- hX2]
    simp
  ·have hb:w.heap.size=b:=by simpa [Blk.num,Value.ownBlock] using hb
   exact .inr (by omega)
 ·rintro s' U ⟨g,cap,rfl,rfl⟩ d' B hB
  simp only [lk] at hB
  by_cases e:dN=d'
  ·simp [e]
  ·rw [if_neg e] at hB;cases hB
 ·rintro s' U ⟨g,cap,rfl,rfl⟩
  exact h g cap
end
end Go.Proofs.YtklehfchdoikeaaGreatDoor
namespace Go.SX
open Go Go.RowKit
section
variable {P:Program} {ops:Array Oper} {Q:Exit->Act->World->Prop} {π iv:List Nat}
end
end Go.SX
