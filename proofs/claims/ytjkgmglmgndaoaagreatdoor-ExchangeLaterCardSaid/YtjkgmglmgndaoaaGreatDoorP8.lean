/- a table of types that agrees with the program: checked at once. An abstract walk: functions that hand out a list in a block of their own; no condition. -/
import Derived.Test.YtjkgmglmgndaoaaGreatDoorP7
set_option maxRecDepth 100000
set_option maxHeartbeats 4000000
namespace Go.SX
open Go Go.RowKit
def TI.of (P:Program) (ty:TypeId):Option TI :=
 match P.info? ty,P.underlying ty with
 | some j,some d =>
  match j.zero with
  | some z =>
   if Nat.beq z.cells.size j.size=true then
    match d with
    | .struct fs=>some { row:=d.isRow,size:=j.size,zero:=z.cells,kind:=1,fields:=fs.toList.map fun f=>(f.offset,f.type) }
    | .array n e=>some { row:=d.isRow,size:=j.size,zero:=z.cells,kind:=2,len:=n,elem:=e }
    | .slice e=>some { row:=d.isRow,size:=j.size,zero:=z.cells,kind:=3,elem:=e }
    | .int k=>some { row:=d.isRow,size:=j.size,zero:=z.cells,kind:=4,ik:=k }
    | .bool=>some { row:=d.isRow,size:=j.size,zero:=z.cells,kind:=5 }
    | _=>some { row:=d.isRow,size:=j.size,zero:=z.cells,kind:=0 }
   else none
  | none=>none
 | _,_=>none
theorem TI.of_ok {P:Program} {ty:TypeId} {i:TI} (h:TI.of P ty=some i):TIok P ty i:=by
 unfold TI.of at h
 split at h
 ·rename_i j d h1 h2
  split at h
  ·rename_i z hz
   split at h
   ·rename_i hs
    have hs:=Nat.eq_of_beq_eq_true hs
    split at h<;>cases h<;>refine ⟨by rw [h1];rfl,⟨_,h2,rfl,?_⟩,by rw [h1];show Option.map _ j.zero=_;rw [hz];rfl,hs⟩
    ·exact ⟨_,rfl,rfl⟩
    ·rfl
    ·rfl
    ·rfl
    ·rfl
    ·trivial
   ·cases h
  ·cases h
 ·cases h
def TI.l1 (P:Program) (tt:TypeId→Option TI):Nat→List (Option TI)
 | 0=>[]
 | k+1=>(match tt k with | none=>none | some _=>TI.of P k) :: TI.l1 P tt k
def TI.l2 (tt:TypeId→Option TI):Nat→List (Option TI)
 | 0=>[]
 | k+1=>tt k :: TI.l2 tt k
theorem TI.l_at {P:Program} {tt:TypeId→Option TI}:∀ {n:Nat},TI.l1 P tt n=TI.l2 tt n→∀ k i,k < n→tt k=some i→TI.of P k=some i
 | n+1,h,k,i,hk,hi=>by
  rw [TI.l1,TI.l2] at h
  have h1:=(List.cons.inj h).1
  have h2:=(List.cons.inj h).2
  by_cases e:k=n
  ·subst e
   rw [hi] at h1
   exact h1
  ·exact TI.l_at h2 k i (by omega) hi
theorem tt_of {P:Program} {tt:TypeId→Option TI} (n:Nat) (h1:∀ ty,n≤ty→tt ty=none) (h2:TI.l1 P tt n=TI.l2 tt n):TTok P tt:=fun ty i h=>by
 by_cases e:ty < n
 ·exact TI.of_ok (TI.l_at h2 ty i e h)
 ·rw [h1 ty (Nat.le_of_not_lt e)] at h;cases h
def tS (e:Nat):TI:={ row:=false,size:=1,zero:=#[.slice none 0 0],kind:=3,elem:=e }
def tI (k:IntKind):TI:={ row:=false,size:=1,zero:=#[.int k 0],kind:=4,ik:=k }
def tV (v:Value):TI:={ row:=false,size:=1,zero:=#[v] }
def newSQ (t:Tmp) (n:Nat) (k0:Key) (B:Blk):VQ:=fun e f m=>match e with
 | .normal=>getF f t=SV.sl k0 0 n n∧getM m k0=some B
 | .ret=>getF f t=SV.sl k0 0 n n∧getM m k0=some B
 | _=>False
theorem sx_newS {P:Program} {tt:TypeId→Option TI} (ht:TTok P tt) (hmix:P.follows .mixedOrders=true) {g:FuncId} {fn:Func} {c:Code} {n:Nat} (hf:FnAt P g fn c n) (E0:Env) (hP:E0.P=P) (as:List SV) (t:Tmp) (len:Nat) (key k0:Key) (ty:TypeId) (m0:Nat) (A:Array Value)
    (hres:fn.results.toList=[.tmp t]) (hp:as.all (fun s=>(plainV s).isSome)=true) (hl:Nat.ble as.length n=true)
    (h:∀ w,vcode (envP P tt n w) c (initF 0 as) [] (newSQ t len k0 (Blk.row ty m0 A))):Own E0 g as [] (SV.sl key 0 len len) [(key,Blk.row ty m0 A)]:=by
 subst hP
 refine ⟨hf.enters,fun p hp=>by simp at hp,fun ρ w xs hinj hlt hnew hx _ hO _=>?_⟩
 have hx':rels (fun _=>none) as xs:=by
  clear hl h
  induction as generalizing xs with
  | nil=>cases xs with
   | nil=>trivial
   | cons=>exact hx.elim
  | cons s as ih =>
   cases xs with
   | nil=>exact hx.elim
   | cons x xs =>
    simp only [List.all_cons,Bool.and_eq_true] at hp
    refine ⟨?_,ih hp.2 xs hx.2⟩
    match s,hp.1,hx.1 with
    | .inl u,_,h=>exact h
 have hs:=start_fr (E:=(envP E0.P tt n w).toEnv) hx' (Nat.le_of_ble_eq_true hl)
 have hk:ρ key=none:=hnew (key,Blk.row ty m0 A) (by simp) (by simp [getM])
 refine calls_of_wp hf.fnc hf.body ?_
 rw [hf.slots]
 refine wp_mono (vcode_wp (E:=envP E0.P tt n w) ht hmix c _ _ _ hf.code (h w) (fun _=>none) _ w hs ?_) ?_
 ·exact ⟨rfl,rfl,rfl,Nat.le_refl _,fun _ _ _=>rfl,fun d B hd=>by simp [getM] at hd,fun _ _=>rfl,fun d B hd=>by simp [getM] at hd,fun d B b hd=>by simp [getM] at hd,fun d e k hd=>(by cases hd),fun d k B hp=>by simp at hp⟩
 rintro e a w' ⟨f,m,ρ1,h1,h2,h3⟩
 have key2:getF f t=SV.sl k0 0 len len∧getM m k0=some (Blk.row ty m0 A)→a.defers=[]∧∃ v,(results fn a.tmps).run E0.P w'=.ok v w'∧(∃ ρ' x,Ending.returned v=.returned x∧SV.rel ρ' (SV.sl key 0 len len) x∧After ρ ρ' [(key,Blk.row ty m0 A)] w w'):=by
  rintro ⟨h4,h5⟩
  refine ⟨h1.defers,a.tmps.getD t undef,?_,ρ.set key ((ρ1 k0).getD 0),_,rfl,?_,?_⟩
  ·refine results_run (vs:=[a.tmps.getD t undef]) (by rw [hres];rfl) fun i r v h4 h5=>?_
   rw [hres] at h4
   cases i with
   | zero=>simp at h4 h5;subst h4;subst h5;simp [run1,Array.getD_eq_getD_getElem?]
   | succ i=>simp at h4
  ·have h6:=h1.rel t
   rw [h4] at h6
   obtain ⟨b,hb,e⟩:=h6
   exact ⟨b,by simp [Rho.set,hb],e⟩
  ·obtain ⟨k,o,h6,h7,h8,h9⟩:=h2.blk k0 _ h5 rfl
   have h7:w.heap.size≤k:=by
    rcases h7 with h7 | h7
    ·exact h7
    ·simp at h7
   refine ⟨h2.os,h2.tape,h2.output,h2.size,fun k hk _=>h2.old k hk (by simp),fun d B hd=>?_,fun d hd=>?_,fun d e j hd he=>?_,Rho.set_ext hk⟩
   ·simp only [getM] at hd
    split at hd
    ·rename_i e
     subst e
     cases hd
     exact ⟨k,o,by simp [Rho.set,h6],.inr h7,h8,h9⟩
    ·cases hd
   ·simp only [getM] at hd
    split at hd
    ·cases hd
    ·rename_i e
     simp [Rho.set,Ne.symm e]
   ·simp only [Rho.set,h6,Option.getD_some] at hd he
    split at hd<;>split at he
    ·rename_i e1 e2;rw [e1,e2]
    ·rename_i e1 e2
     cases hd
     have:=hlt _ _ he
     omega
    ·rename_i e1 e2
     cases he
     have:=hlt _ _ hd
     omega
    ·exact hinj _ _ _ hd he
 cases e with
 | normal=>exact key2 h3
 | ret=>exact key2 h3
 | _=>exact h3.elim
end Go.SX
