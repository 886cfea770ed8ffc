/- the laws comparisons of balances, entries, portfolios. the reference: a day put into a list of days. the reference: the days. the reference: finish. the reference: act. the reference: At. entries, holdings and balances that came in. which portfolios are valid: the program and the reference. what At returns is valid: plain law. sums of entries: plain law; no condition. -/
import Derived.Test.YtekfkdddadcalaaGreatDoorP28
set_option maxRecDepth 100000
set_option maxHeartbeats 4000000
namespace Go.Proofs.YtekfkdddadcalaaGreatDoor
open Go Go.RowKit Go.SX
def eqA (x y:Bs×Int):Bool:=decide (x.1=y.1) && ((x.2 == y.2) && true)
def eqK (x y:Ky×Int):Bool:=decide (x.1.1=y.1.1) && ((x.1.2 == y.1.2) && ((x.2 == y.2) && true))
theorem eqA_self (x:Bs×Int):eqA x x=true:=by simp [eqA]
theorem eqK_self (x:Ky×Int):eqK x x=true:=by simp [eqK]
theorem eq_hol_raw {d:Nat} (x y:Bs×Int) (w:World):(Op.equalIn (d+1+1) 66 (.agg (sumA x)) (.agg (sumA y))).run Tryz.prog w=.ok (eqA x y) w:=by
 rw [run_equalIn_struct w (d+1) 66 _ _ (by simp only [Program.fieldsOf,Tryz.underlying66]) (by kernel_rfl)]
 rw [show (Tryz.prog.fieldsOf 66).toList=[⟨ "Instrument",9,0,false,"","",0⟩,⟨ "Quantity",3,1,false,"","",16⟩] from by simp only [Program.fieldsOf,Tryz.underlying66]]
 refine eqF_cons (by decide) (part_cell tok9 rfl rfl w) (part_cell tok9 rfl rfl w) (eq_str _ _ w) fun _=>?_
 exact eqF_cons (by decide) (part_cell tok3 rfl rfl w) (part_cell tok3 rfl rfl w) (eq_int64 _ Tryz.underlying3 _ _ w) fun _=>eqF_nil
theorem guard_hol:Tryz.prog.eqGuardType Tryz.prog.depth 66=false:=by kernel_rfl
theorem neq_hol {E:Env} (hE:E.P=Tryz.prog) (x y:Bs×Int) {u v:Operand}:Runs E (do eqGuard .neq 66 u v (.agg (sumA x)) (.agg (sumA y));binOp .neq 66 (.agg (sumA x)) (.agg (sumA y))) (.bool (!(eqA x y))) :=
 runs_neq (by rw [hE];exact guard_hol) fun w=>by rw [hE];exact eq_hol_raw x y w
theorem neqs_hol {E:Env} (hE:E.P=Tryz.prog) (x:Bs×Int) {u v:Operand}:Runs E (do eqGuard .neq 66 u v (.agg (sumA x)) (.agg (sumA x));binOp .neq 66 (.agg (sumA x)) (.agg (sumA x))) (.bool false):=by
 have:=neq_hol hE x x (u:=u) (v:=v)
 rwa [eqA_self] at this
theorem eq_bal_raw {d:Nat} (x y:Ky×Int) (w:World):(Op.equalIn (d+1+1) 49 (.agg (sumK x)) (.agg (sumK y))).run Tryz.prog w=.ok (eqK x y) w:=by
 rw [run_equalIn_struct w (d+1) 49 _ _ (by simp only [Program.fieldsOf,Tryz.underlying49]) (by kernel_rfl)]
 rw [show (Tryz.prog.fieldsOf 49).toList=[⟨ "Currency",9,0,false,"","",0⟩,⟨ "Day",3,1,false,"","",16⟩,⟨ "Amount",3,2,false,"","",24⟩] from by simp only [Program.fieldsOf,Tryz.underlying49]]
 refine eqF_cons (by decide) (part_cell tok9 rfl rfl w) (part_cell tok9 rfl rfl w) (eq_str _ _ w) fun _=>?_
 refine eqF_cons (by decide) (part_cell tok3 rfl rfl w) (part_cell tok3 rfl rfl w) (eq_int64 _ Tryz.underlying3 _ _ w) fun _=>?_
 exact eqF_cons (by decide) (part_cell tok3 rfl rfl w) (part_cell tok3 rfl rfl w) (eq_int64 _ Tryz.underlying3 _ _ w) fun _=>eqF_nil
theorem guard_bal:Tryz.prog.eqGuardType Tryz.prog.depth 49=false:=by kernel_rfl
theorem eql_bal {E:Env} (hE:E.P=Tryz.prog) (x y:Ky×Int) {u v:Operand}:Runs E (do eqGuard .eql 49 u v (.agg (sumK x)) (.agg (sumK y));binOp .eql 49 (.agg (sumK x)) (.agg (sumK y))) (.bool (eqK x y)) :=
 runs_eql (by rw [hE];exact guard_bal) fun w=>by rw [hE];exact eq_bal_raw x y w
theorem neqs_bal {E:Env} (hE:E.P=Tryz.prog) (x:Ky×Int) {u v:Operand}:Runs E (do eqGuard .neq 49 u v (.agg (sumK x)) (.agg (sumK x));binOp .neq 49 (.agg (sumK x)) (.agg (sumK x))) (.bool false):=by
 have:=runs_neq (E:=E) (t:=49) (x:=u) (y:=v) (by rw [hE];exact guard_bal) fun w=>by rw [hE];exact eq_bal_raw x x w
 rwa [eqK_self] at this
theorem offB (j:Nat):offAt 0 ((j:Nat):Int) ti49.size=j*3:=by
 show offAt 0 ((j:Nat):Int) 3=j*3
 simp [offAt]
theorem offH (j:Nat):offAt 0 ((j:Nat):Int) ti66.size=j*2:=by
 show offAt 0 ((j:Nat):Int) 2=j*2
 simp [offAt]
theorem sameB_o {E:Env} (hE:E.P=Tryz.prog) {x y:Value} {C:List (Ky×Int)} {n:Nat} (hx:IsL x n) (hy:IsL y n) (hn:n=C.length) (hb:n≤1000000000000):OwnC E 55 [SV.c x,SV.c y] [(9520,Blk.own x 49 3 n (cat sumK C)),(9521,Blk.own y 49 3 n (cat sumK C))] (fun r U=>r=.bool true∧U=[(9520,Blk.own x 49 3 n (cat sumK C)),(9521,Blk.own y 49 3 n (cat sumK C))]):=by
 refine sx_ownC [] tt_ok mixed at55 E hE [SV.c x,SV.c y] [(9520,Blk.own x 49 3 n (cat sumK C)),(9521,Blk.own y 49 3 n (cat sumK C))] _ rfl rfl fun w X β hT=>?_
 have hE':(envC Tryz.prog tt Tryz.f55.ntmps w X (tiedK [(9520,Blk.own x 49 3 n (cat sumK C)),(9521,Blk.own y 49 3 n (cat sumK C))] β)).toEnv.P=Tryz.prog:=rfl
 obtain ⟨xa,xc,rfl⟩:=hx.len
 obtain ⟨ya,yc,rfl⟩:=hy.len
 refine ⟨_,fun w' _=>run_len_sl Tryz.underlying38 w',_,fun w' _=>run_len_sl Tryz.underlying38 w',?_⟩
 refine ⟨fun c=>absurd c (by simp),fun _=>?_⟩
 refine ⟨fun q f m=>∃ i:Nat,q=n - i∧i≤n∧f=[(0,SV.c (.slice xa n xc)),(1,SV.c (.slice ya n yc)),(5,SV.c (.int .i64 (i:Nat)))]∧m=[(9520,Blk.own (.slice xa n xc) 49 3 n (cat sumK C)),(9521,Blk.own (.slice ya n yc) 49 3 n (cat sumK C))],n,⟨_,_,⟨0,by omega,by omega,rfl,rfl⟩,⟨rfl,rfl,rfl,trivial⟩,⟨.inl rfl,.inl rfl,trivial⟩,rfl⟩,?_⟩
 rintro q f m ⟨i,rfl,hi,rfl,rfl⟩
 refine ⟨_,fun w' _=>run_len_sl Tryz.underlying38 w',fun h=>?_,fun h=>?_⟩
 ·have h:i < n:=by have:=of_decide_eq_true h;omega
  rcases hx with ⟨hs1,hs2⟩ | ⟨g0,c0,hs1⟩
  ·omega
  cases hs1
  rcases hy with ⟨hs1,hs2⟩ | ⟨g1,c1,hs1⟩
  ·omega
  cases hs1
  obtain ⟨y,hy⟩:∃ y,C[i]? = some y:=⟨_,List.getElem?_eq_getElem (by omega)⟩
  have L1:=cat_extract sumK_size hy
  have hsz:(cat sumK C).size=n*3:=by rw [Go.SX.cat_size sumK_size,hn]
  have N1:=fun (u v:Operand)=>neqs_bal hE' y (u:=u) (v:=v)
  generalize hYA:sumK y=YA at L1 N1
  have F1:Fits YA 3:=by rw [← hYA];exact sumK_fits y
  refine ⟨by omega,by omega,.inr ⟨9520,g0,_,n,_,_,_,_,rfl,rfl,(by rw [offB,hsz];show i*3+3≤n*3;omega),YA,(by rw [offB];exact L1),?_⟩⟩
  refine ⟨by omega,by omega,.inr ⟨9521,g1,_,n,_,_,_,_,rfl,rfl,(by rw [offB,hsz];show i*3+3≤n*3;omega),YA,(by rw [offB];exact L1),?_⟩⟩
  refine ⟨_,N1 _ _,by kernel_rfl,nofun,fun _=>?_⟩
  exact ⟨n - (i+1),_,_,by omega,⟨i+1,rfl,by omega,rfl,rfl⟩,⟨rfl,rfl,c_int (i64_succ (by omega)),trivial⟩,⟨.inl rfl,.inl rfl,trivial⟩,rfl⟩
 ·have h:i=n:=by have:=of_decide_eq_false h;omega
  subst h
  exact ⟨[_,_],[],⟨rfl,rfl⟩,⟨.inl rfl,.inl rfl,trivial⟩,rfl⟩
theorem same_o {E:Env} (hE:E.P=Tryz.prog) {xh xc xp yh yc yp:Value} {g:Led} (hh:IsL xh g.h.length) (hc:IsL xc g.c.length) (hp:IsL xp g.p.length) (kh:IsL yh g.h.length) (kc:IsL yc g.c.length) (kp:IsL yp g.p.length) (hl:g.h.length≤10000000000∧g.c.length≤10000000000∧g.p.length≤10000000000):OwnC E 23 [SV.c (.agg #[xh,xc,xp]),SV.c (.agg #[yh,yc,yp])] [(9506,Blk.own xh 66 2 g.h.length (cat sumA g.h)),(9507,Blk.own xc 49 3 g.c.length (cat sumK g.c)),(9508,Blk.own xp 49 3 g.p.length (cat sumK g.p)),(9516,Blk.own yh 66 2 g.h.length (cat sumA g.h)),(9517,Blk.own yc 49 3 g.c.length (cat sumK g.c)),(9518,Blk.own yp 49 3 g.p.length (cat sumK g.p))] (fun r U=>r=.bool true∧U=[(9506,Blk.own xh 66 2 g.h.length (cat sumA g.h)),(9507,Blk.own xc 49 3 g.c.length (cat sumK g.c)),(9508,Blk.own xp 49 3 g.p.length (cat sumK g.p)),(9516,Blk.own yh 66 2 g.h.length (cat sumA g.h)),(9517,Blk.own yc 49 3 g.c.length (cat sumK g.c)),(9518,Blk.own yp 49 3 g.p.length (cat sumK g.p))]):=by
 refine sx_ownC [] tt_ok mixed at23 E hE [SV.c (.agg #[xh,xc,xp]),SV.c (.agg #[yh,yc,yp])] [(9506,Blk.own xh 66 2 g.h.length (cat sumA g.h)),(9507,Blk.own xc 49 3 g.c.length (cat sumK g.c)),(9508,Blk.own xp 49 3 g.p.length (cat sumK g.p)),(9516,Blk.own yh 66 2 g.h.length (cat sumA g.h)),(9517,Blk.own yc 49 3 g.c.length (cat sumK g.c)),(9518,Blk.own yp 49 3 g.p.length (cat sumK g.p))] _ rfl rfl fun w X β hT=>?_
 have hE':(envC Tryz.prog tt Tryz.f23.ntmps w X (tiedK [(9506,Blk.own xh 66 2 g.h.length (cat sumA g.h)),(9507,Blk.own xc 49 3 g.c.length (cat sumK g.c)),(9508,Blk.own xp 49 3 g.p.length (cat sumK g.p)),(9516,Blk.own yh 66 2 g.h.length (cat sumA g.h)),(9517,Blk.own yc 49 3 g.c.length (cat sumK g.c)),(9518,Blk.own yp 49 3 g.p.length (cat sumK g.p))] β)).toEnv.P=Tryz.prog:=rfl
 have BC:=sameB_o hE' hc kc rfl (by omega)
 have BP:=sameB_o hE' hp kp rfl (by omega)
 obtain ⟨xha,xhc,rfl⟩:=hh.len
 obtain ⟨yha,yhc,rfl⟩:=kh.len
 refine ⟨rfl,rfl,_,rfl,_,fun w' _=>run_len_sl Tryz.underlying37 w',_,rfl,_,fun w' _=>run_len_sl Tryz.underlying37 w',?_⟩
 refine ⟨fun c=>absurd c (by simp),fun _=>?_⟩
 refine ⟨fun q f m=>∃ i:Nat,q=g.h.length - i∧i≤g.h.length∧f=[(2,SV.ptr 2 0),(3,SV.ptr 3 0),(5,SV.c (.int .i64 (i:Nat)))]∧m=(2,Blk.row 40 3 #[.slice xha g.h.length xhc,xc,xp]) :: (3,Blk.row 40 3 #[.slice yha g.h.length yhc,yc,yp]) :: [(9506,Blk.own (.slice xha g.h.length xhc) 66 2 g.h.length (cat sumA g.h)),(9507,Blk.own xc 49 3 g.c.length (cat sumK g.c)),(9508,Blk.own xp 49 3 g.p.length (cat sumK g.p)),(9516,Blk.own (.slice yha g.h.length yhc) 66 2 g.h.length (cat sumA g.h)),(9517,Blk.own yc 49 3 g.c.length (cat sumK g.c)),(9518,Blk.own yp 49 3 g.p.length (cat sumK g.p))],g.h.length,⟨_,_,⟨0,by omega,by omega,rfl,rfl⟩,⟨rfl,rfl,rfl,trivial⟩,⟨rfl,rfl,.inl rfl,.inl rfl,.inl rfl,.inl rfl,.inl rfl,.inl rfl,trivial⟩,rfl⟩,?_⟩
 rintro q f m ⟨i,rfl,hi,rfl,rfl⟩
 refine ⟨_,rfl,_,fun w' _=>run_len_sl Tryz.underlying37 w',fun h=>?_,fun h=>?_⟩
 ·have h:i < g.h.length:=by have:=of_decide_eq_true h;omega
  rcases hh with ⟨hs1,hs2⟩ | ⟨g0,c0,hs1⟩
  ·omega
  cases hs1
  rcases kh with ⟨hs1,hs2⟩ | ⟨g1,c1,hs1⟩
  ·omega
  cases hs1
  obtain ⟨y,hy⟩:∃ y,g.h[i]? = some y:=⟨_,List.getElem?_eq_getElem (by omega)⟩
  have L1:=cat_extract sumA_size hy
  have hsz:(cat sumA g.h).size=g.h.length*2:=Go.SX.cat_size sumA_size _
  have N1:=fun (u v:Operand)=>neqs_hol hE' y (u:=u) (v:=v)
  generalize hYA:sumA y=YA at L1 N1
  refine ⟨_,rfl,by omega,by omega,.inr ⟨9506,g0,_,g.h.length,_,_,_,_,rfl,rfl,(by rw [offH,hsz];show i*2+2≤g.h.length*2;omega),YA,(by rw [offH];exact L1),?_⟩⟩
  refine ⟨_,rfl,by omega,by omega,.inr ⟨9516,g1,_,g.h.length,_,_,_,_,rfl,rfl,(by rw [offH,hsz];show i*2+2≤g.h.length*2;omega),YA,(by rw [offH];exact L1),?_⟩⟩
  refine ⟨_,N1 _ _,by kernel_rfl,nofun,fun _=>?_⟩
  exact ⟨g.h.length - (i+1),_,_,by omega,⟨i+1,rfl,by omega,rfl,rfl⟩,⟨rfl,rfl,c_int (i64_succ (by omega)),trivial⟩,⟨rfl,rfl,.inl rfl,.inl rfl,.inl rfl,.inl rfl,.inl rfl,.inl rfl,trivial⟩,rfl⟩
 ·have h:i=g.h.length:=by have:=of_decide_eq_false h;omega
  subst h
  refine ⟨_,rfl,_,rfl,.inr (.inr (.inl ⟨[(9520,9507),(9521,9517)],[_,_],[_,_],_,[_,_],BC,rfl,⟨.inl rfl,.inl rfl,trivial⟩,rfl,rfl,?_⟩))⟩
  refine ⟨fun _=>?_,nofun⟩
  refine ⟨_,rfl,_,rfl,.inr (.inr (.inl ⟨[(9520,9508),(9521,9518)],[_,_],[_,_],_,[_,_],BP,rfl,⟨.inl rfl,.inl rfl,trivial⟩,rfl,rfl,?_⟩))⟩
  exact ⟨[_,_,_,_,_,_],[],⟨rfl,rfl⟩,⟨.inl rfl,.inl rfl,.inl rfl,.inl rfl,.inl rfl,.inl rfl,trivial⟩,rfl⟩
def finN (g:Led):Led×Int:=pfL ⟨nzf g.h,nzf g.c,nzf g.p⟩
def FinQ (g:Led) (vh vc vp:Value) (r:Value) (U:MemL):Prop:=∃ xh xc xp,IsL xh (finN g).1.h.length∧IsL xc (finN g).1.c.length∧IsL xp (finN g).1.p.length∧r=.tuple #[.agg #[xh,xc,xp],.int .i64 (finN g).2]∧U=[(9701,Blk.own vh 66 2 g.h.length (cat sumA g.h)),(9702,Blk.own vc 49 3 g.c.length (cat sumK g.c)),(9703,Blk.own vp 49 3 g.p.length (cat sumK g.p)),(9506,Blk.own xh 66 2 (finN g).1.h.length (cat sumA (finN g).1.h)),(9507,Blk.own xc 49 3 (finN g).1.c.length (cat sumK (finN g).1.c)),(9508,Blk.own xp 49 3 (finN g).1.p.length (cat sumK (finN g).1.p))]
theorem FinQ.bad {g:Led} {vh vc vp:Value} {e:Int} (h:finN g=(.zero,e)):FinQ g vh vc vp (.tuple #[.agg #[.slice none 0 0,.slice none 0 0,.slice none 0 0],.int .i64 e]) [(9701,Blk.own vh 66 2 g.h.length (cat sumA g.h)),(9702,Blk.own vc 49 3 g.c.length (cat sumK g.c)),(9703,Blk.own vp 49 3 g.p.length (cat sumK g.p)),(9506,Blk.own (.slice none 0 0) 66 2 0 #[]),(9507,Blk.own (.slice none 0 0) 49 3 0 #[]),(9508,Blk.own (.slice none 0 0) 49 3 0 #[])]:=by
 refine ⟨.slice none 0 0,.slice none 0 0,.slice none 0 0,by rw [h];exact .nil,by rw [h];exact .nil,by rw [h];exact .nil,by rw [h],by rw [h];rfl⟩
end Go.Proofs.YtekfkdddadcalaaGreatDoor
namespace Go.Proofs.YtekfkdddadcalaaGreatDoor
open Go Go.RowKit Go.SX
section
variable {H:Type} {enc:TypeId×Value→H} {w:World} {base:Nat} {sp:Nat→Bool} {held:Bool}
end
end Go.Proofs.YtekfkdddadcalaaGreatDoor
namespace Go.Proofs.YtekfkdddadcalaaGreatDoor
open Go Go.RowKit Go.SX
theorem setA_mem {κ:Type} {lt:κ→κ→Bool} (O:StrictO lt) {l:List (κ×Int)} (hs:SrtA lt l) {k:κ} {v:Int} {x:κ×Int} (h:x∈setA lt l k v):x∈l∨(x=(k,v)∧v≠0):=by
 obtain ⟨p,s,e,-,-,-,h4⟩:=setA_parts O k v hs
 have hm:∀ x∈p++s,x∈l:=fun x hx=>by
  rcases h4 with e | ⟨n,e⟩<;>rw [e]
  ·exact hx
  ·rcases List.mem_append.1 hx with hx | hx<;>simp [hx]
 rw [e] at h
 split at h
 ·exact .inl (hm x h)
 ·rename_i hv
  rcases List.mem_append.1 h with h | h
  ·exact .inl (hm x (by simp [h]))
  ·rcases List.mem_cons.1 h with rfl | h
   ·exact .inr ⟨rfl,hv⟩
   ·exact .inl (hm x (by simp [h]))
structure KOk (g:Led):Prop where
 ok:LedOk g
 h:∀ x∈g.h,insOk x.1=true
 c:∀ x∈g.c,curOk x.1.1=true∧x.1.2=0
 p:∀ x∈g.p,curOk x.1.1=true∧inB x.1.2 0 73048=true
theorem KOk.zero:KOk .zero:=⟨.zero,(fun _ h=>by cases h),(fun _ h=>by cases h),(fun _ h=>by cases h)⟩
structure NOk (x:EC):Prop where
 e:EOk x
 i:x.qty≠0→insOk x.ins=true
 c:x.amt≠0→curOk x.cur=true
 s:inB x.settle 0 73048=true
theorem NOk.of {x:EC} (h:validE x=true):NOk x:=by
 have he:=EOk.of h
 unfold validE at h
 simp only [Bool.and_eq_true] at h
 obtain ⟨-,h⟩:=h
 split at h
 ·obtain ⟨h1,h2,h3,h4⟩:=EC.beq_nil h
  have h5:x.settle=0:=by
   unfold EC.beq EC.nil at h
   simp only [Bool.and_eq_true,beq_iff_eq] at h
   exact h.2.2.2.1
  exact ⟨he,fun h=>absurd h3 h,fun h=>absurd h4 h,inB_iff.2 (by omega)⟩
 ·simp only [Bool.and_eq_true,bodyE,inB_iff,decide_eq_true_eq] at h
  obtain ⟨⟨h1,h2,h3,h5⟩,h4⟩:=h
  refine ⟨he,fun hq=>?_,fun _=>h5,inB_iff.2 (by omega)⟩
  unfold kindE at h4
  split at h4
  ·simp only [Bool.and_eq_true] at h4
   exact h4.1
  ·split at h4
   ·simp only [Bool.and_eq_true,beq_iff_eq] at h4
    exact absurd h4.2 hq
   ·cases h4
theorem pay_kok {f:List (Ky×Int)} (hs:SrtA ltK2 f∧NzA f) {P:Ky→Prop} (h:∀ x∈f,P x.1) {k:Ky} {n:Int} (hn:w64 n=n) (hk:n≠0→P k):∀ x∈payL f k n,P x.1:=fun x hx=>by
 rcases setA_mem ltK2_ok hs.1 hx with hx | ⟨rfl,hv⟩
 ·exact h x hx
 ·by_cases h0:n=0
  ·subst h0
   rw [Int.add_zero] at hv
   have hg:getA f k≠0:=fun h=>hv (by rw [h];rfl)
   exact h (k,getA f k) (getA_mem hg)
  ·exact hk h0
def sumBy (f:EC→Int):List EC→Int
 | []=>0
 | x :: r=>f x+sumBy f r
theorem sumBy_app (f:EC→Int):∀ (l m:List EC),sumBy f (l++m)=sumBy f l+sumBy f m
 | [],m=>by simp [sumBy]
 | x :: r,m=>by
  rw [List.cons_append,sumBy,sumBy_app f r m,sumBy];omega
theorem sumBy_perm {f:EC→Int} {l m:List EC} (h:l.Perm m):sumBy f l=sumBy f m:=by
 induction h with
 | nil=>rfl
 | cons x _ ih=>rw [sumBy,sumBy,ih]
 | swap x y l=>rw [sumBy,sumBy,sumBy,sumBy];omega
 | trans _ _ h1 h2=>rw [h1,h2]
theorem sumBy_congr {f g:EC→Int}:∀ {l:List EC},(∀ x∈l,f x=g x)→sumBy f l=sumBy g l
 | [],_=>rfl
 | x :: r,h=>by rw [sumBy,sumBy,h x (by simp),sumBy_congr fun y hy=>h y (by simp [hy])]
theorem sumBy_filter (f:EC→Int) (p:EC→Bool):∀ (l:List EC),sumBy f (l.filter p)=sumBy (fun x=>if p x=true then f x else 0) l
 | []=>rfl
 | x :: r=>by
  rw [List.filter_cons,sumBy]
  by_cases h:p x=true
  ·rw [if_pos h,if_pos h,sumBy,sumBy_filter f p r]
  ·rw [if_neg h,if_neg h,sumBy_filter f p r];omega
def sH (s:Bs):List EC→Int:=sumBy fun x=>if x.ins=s then x.qty else 0
def sC (day:Int) (k:Ky):List EC→Int:=sumBy fun x=>if x.settle≤day∧(x.cur,(0:Int))=k then x.amt else 0
def sP (day:Int) (k:Ky):List EC→Int:=sumBy fun x=>if ¬ x.settle≤day∧(x.cur,x.settle)=k then x.amt else 0
structure ZOk (x:EC):Prop where
 e:EOk x
 z:x.kind≠1→x.qty=0
 a : -1000000000000000≤x.amt∧x.amt≤1000000000000000
theorem ZOk.of {x:EC} (h:validE x=true):ZOk x:=by
 have he:=EOk.of h
 unfold validE at h
 simp only [Bool.and_eq_true] at h
 obtain ⟨-,h⟩:=h
 split at h
 ·obtain ⟨h1,h2,h3,h4⟩:=EC.beq_nil h
  exact ⟨he,fun _=>h3,by omega⟩
 ·simp only [Bool.and_eq_true,bodyE,inB_iff,decide_eq_true_eq] at h
  obtain ⟨⟨h1,h2,h3,h5⟩,h4⟩:=h
  refine ⟨he,fun hk=>?_,by omega⟩
  unfold kindE at h4
  rw [if_neg hk] at h4
  split at h4
  ·simp only [Bool.and_eq_true,beq_iff_eq] at h4
   exact h4.2
  ·cases h4
def AmB (n:Nat) (f:List (Ky×Int)):Prop:=∀ k,-(1000000000000000*(n:Int))≤getA f k∧getA f k≤1000000000000000*(n:Int)
theorem AmB.nil (n:Nat):AmB n []:=fun k=>by show _≤(0:Int)∧(0:Int)≤_;omega
theorem AmB.mono {n m:Nat} {f:List (Ky×Int)} (h:AmB n f) (hm:n≤m):AmB m f:=fun k=>by have:=h k;omega
theorem pay_get {f:List (Ky×Int)} (hs:SrtA ltK2 f) {n:Nat} (hb:AmB n f) (hn:n≤8192) (k:Ky) {v:Int} (hv : -1000000000000000≤v∧v≤1000000000000000):(∀ k',getA (payL f k v) k'=getA f k'+if k=k' then v else 0)∧AmB (n+1) (payL f k v):=by
 have h0:=hb k
 have ew:w64 (getA f k+v)=getA f k+v:=w64_in (by omega)
 have hg:∀ k',getA (payL f k v) k'=getA f k'+if k=k' then v else 0:=fun k'=>by
  unfold payL
  rw [(setA_upd ltK2_ok hs k _).get,ew]
  by_cases e:k'=k
  ·rw [if_pos e,if_pos e.symm,e]
  ·rw [if_neg e,if_neg (fun h=>e h.symm)];omega
 refine ⟨hg,fun k'=>?_⟩
 rw [hg]
 have h1:=hb k'
 split<;>omega
theorem ent_sum {day:Int} {g g':Led} (h:LedOk g) {n:Nat} (hn:n≤8192) (hc:AmB n g.c) (hp:AmB n g.p) {x:EC} (hx:ZOk x) (e:entL day g x=.ok g'):(∀ s,getA g'.h s=getA g.h s+sH s [x])∧(∀ k,getA g'.c k=getA g.c k+sC day k [x])∧(∀ k,getA g'.p k=getA g.p k+sP day k [x])∧AmB (n+1) g'.c∧AmB (n+1) g'.p:=by
 have hS:(∀ k,getA (settleL day g x).c k=getA g.c k+sC day k [x])∧(∀ k,getA (settleL day g x).p k=getA g.p k+sP day k [x])∧AmB (n+1) (settleL day g x).c∧AmB (n+1) (settleL day g x).p:=by
  unfold settleL
  by_cases hd:x.settle≤day
  ·rw [if_pos hd]
   obtain ⟨h1,h2⟩:=pay_get h.c.1 hc hn (x.cur,0) hx.a
   refine ⟨fun k=>?_,fun k=>?_,h2,hp.mono (by omega)⟩
   ·show getA (payL g.c (x.cur,0) x.amt) k=_
    rw [h1]
    unfold sC;rw [sumBy,sumBy]
    by_cases hk:(x.cur,(0:Int))=k
    ·rw [if_pos hk,if_pos ⟨hd,hk⟩];omega
    ·rw [if_neg hk,if_neg (fun h=>hk h.2)];omega
   ·unfold sP;rw [sumBy,sumBy,if_neg (fun h=>h.1 hd)]
    show getA g.p k=_
    omega
  ·rw [if_neg hd]
   obtain ⟨h1,h2⟩:=pay_get h.p.1 hp hn (x.cur,x.settle) hx.a
   refine ⟨fun k=>?_,fun k=>?_,hc.mono (by omega),h2⟩
   ·unfold sC;rw [sumBy,sumBy,if_neg (fun h=>hd h.1)]
    show getA g.c k=_
    omega
   ·show getA (payL g.p (x.cur,x.settle) x.amt) k=_
    rw [h1]
    unfold sP;rw [sumBy,sumBy]
    by_cases hk:(x.cur,x.settle)=k
    ·rw [if_pos hk,if_pos ⟨hd,hk⟩];omega
    ·rw [if_neg hk,if_neg (fun h=>hk h.2)];omega
 unfold entL at e
 split at e
 ·rename_i hk
  cases e
  refine ⟨fun s=>?_,hS⟩
  rw [settle_h]
  unfold sH;rw [sumBy,sumBy,hx.z (by omega)]
  split<;>omega
 ·split at e
  ·cases e
  ·rename_i H hH
   cases e
   obtain ⟨-,eH,-,-⟩:=h.hok.hold hH
   refine ⟨fun s=>?_,hS⟩
   show getA H s=_
   rw [eH,(setA_upd ltB_ok h.h.1 x.ins _).get]
   unfold sH;rw [sumBy,sumBy]
   by_cases hs:s=x.ins
   ·rw [if_pos hs,if_pos hs.symm,hs];omega
   ·rw [if_neg hs,if_neg (fun h=>hs h.symm)];omega
theorem run_sum {day:Int}:∀ (X:List EC) {g g':Led} {n:Nat},LedOk g→n+X.length≤8192→AmB n g.c→AmB n g.p→(∀ x∈X,ZOk x)→runL day g (X.map (Sum.inr:EC→Ev))=.ok g'→(∀ s,getA g'.h s=getA g.h s+sH s X)∧(∀ k,getA g'.c k=getA g.c k+sC day k X)∧(∀ k,getA g'.p k=getA g.p k+sP day k X)∧AmB (n+X.length) g'.c∧AmB (n+X.length) g'.p∧LedOk g'
 | [],g,g',n,h,_,hc,hp,_,e=>by
  cases e
  exact ⟨fun s=>by show _=_+(0:Int);omega,fun s=>by show _=_+(0:Int);omega,fun s=>by show _=_+(0:Int);omega,hc,hp,h⟩
 | x :: X,g,g',n,h,hn,hc,hp,hx,e=>by
  rw [List.map_cons,runL] at e
  have es:stepL day g (Sum.inr x)=entL day g x:=rfl
  rw [es] at e
  simp only [List.length_cons] at hn ⊢
  cases e1:entL day g x with
  | error e'=>rw [e1] at e;cases e
  | ok g1 =>
   rw [e1] at e
   obtain ⟨a1,a2,a3,a4,a5⟩:=ent_sum h (by omega) hc hp (hx x (by simp)) e1
   obtain ⟨b1,b2,b3,b4,b5,b6⟩:=run_sum X (ent_okL h e1).1 (by omega) a4 a5 (fun y hy=>hx y (by simp [hy])) e
   have two:∀ f,sumBy f (x :: X)=sumBy f [x]+sumBy f X:=fun f=>sumBy_app f [x] X
   refine ⟨fun s=>?_,fun k=>?_,fun k=>?_,by rw [show n+(X.length+1)=n+1+X.length by omega];exact b4,by rw [show n+(X.length+1)=n+1+X.length by omega];exact b5,b6⟩
   ·rw [b1,a1];unfold sH;rw [two];omega
   ·rw [b2,a2];unfold sC;rw [two];omega
   ·rw [b3,a3];unfold sP;rw [two];omega
end Go.Proofs.YtekfkdddadcalaaGreatDoor
