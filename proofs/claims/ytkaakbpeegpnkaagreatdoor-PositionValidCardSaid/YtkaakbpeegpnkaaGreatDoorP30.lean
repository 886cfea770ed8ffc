/- the laws comparisons of balances, entries, portfolios. the reference: finish. entries, holdings and balances that came in; no condition. -/
import Derived.Test.YtkaakbpeegpnkaaGreatDoorP29
namespace Go.Proofs.YtkaakbpeegpnkaaGreatDoor
open Go Go.RowKit Go.SX
def eqA (x y:Bs×Int):Bool:=decide (x.1=y.1) && ((x.2 == y.2) && true)
def eqK (x y:Ky×Int):Bool:=decide (x.1.1=y.1.1) && ((x.1.2 == y.1.2) && ((x.2 == y.2) && true))
theorem eqA_self (x:Bs×Int):eqA x x=true:=by simp [eqA]
theorem eqK_self (x:Ky×Int):eqK x x=true:=by simp [eqK]
theorem EC.beq_self (x:EC):x.beq x=true:=by simp [EC.beq]
set_option maxRecDepth 100000 in
theorem eq_hol_raw {d:Nat} (x y:Bs×Int) (w:World):(Op.equalIn (d+1+1) 90 (.agg (sumA x)) (.agg (sumA y))).run Tryz.prog w=.ok (eqA x y) w:=by
 rw [run_equalIn_struct w (d+1) 90 _ _ (by simp only [Program.fieldsOf,Tryz.underlying90]) (by kernel_rfl)]
 rw [show (Tryz.prog.fieldsOf 90).toList=[⟨ "Instrument",9,0,false,"","",0⟩,⟨ "Quantity",3,1,false,"","",16⟩] from by simp only [Program.fieldsOf,Tryz.underlying90]]
 refine eqF_cons (by decide) (part_cell tok9 rfl rfl w) (part_cell tok9 rfl rfl w) (eq_str _ _ w) fun _=>?_
 exact eqF_cons (by decide) (part_cell tok3 rfl rfl w) (part_cell tok3 rfl rfl w) (eq_int64 _ Tryz.underlying3 _ _ w) fun _=>eqF_nil
theorem guard_hol:Tryz.prog.eqGuardType Tryz.prog.depth 90=false:=by kernel_rfl
theorem neq_hol {E:Env} (hE:E.P=Tryz.prog) (x y:Bs×Int) {u v:Operand}:Runs E (do eqGuard .neq 90 u v (.agg (sumA x)) (.agg (sumA y));binOp .neq 90 (.agg (sumA x)) (.agg (sumA y))) (.bool (!(eqA x y))) :=
 runs_neq (by rw [hE];exact guard_hol) fun w=>by rw [hE];exact eq_hol_raw x y w
theorem neqs_hol {E:Env} (hE:E.P=Tryz.prog) (x:Bs×Int) {u v:Operand}:Runs E (do eqGuard .neq 90 u v (.agg (sumA x)) (.agg (sumA x));binOp .neq 90 (.agg (sumA x)) (.agg (sumA x))) (.bool false):=by
 have:=neq_hol hE x x (u:=u) (v:=v)
 rwa [eqA_self] at this
set_option maxRecDepth 100000 in
theorem eq_bal_raw {d:Nat} (x y:Ky×Int) (w:World):(Op.equalIn (d+1+1) 85 (.agg (sumK x)) (.agg (sumK y))).run Tryz.prog w=.ok (eqK x y) w:=by
 rw [run_equalIn_struct w (d+1) 85 _ _ (by simp only [Program.fieldsOf,Tryz.underlying85]) (by kernel_rfl)]
 rw [show (Tryz.prog.fieldsOf 85).toList=[⟨ "Currency",9,0,false,"","",0⟩,⟨ "Day",3,1,false,"","",16⟩,⟨ "Amount",3,2,false,"","",24⟩] from by simp only [Program.fieldsOf,Tryz.underlying85]]
 refine eqF_cons (by decide) (part_cell tok9 rfl rfl w) (part_cell tok9 rfl rfl w) (eq_str _ _ w) fun _=>?_
 refine eqF_cons (by decide) (part_cell tok3 rfl rfl w) (part_cell tok3 rfl rfl w) (eq_int64 _ Tryz.underlying3 _ _ w) fun _=>?_
 exact eqF_cons (by decide) (part_cell tok3 rfl rfl w) (part_cell tok3 rfl rfl w) (eq_int64 _ Tryz.underlying3 _ _ w) fun _=>eqF_nil
theorem guard_bal:Tryz.prog.eqGuardType Tryz.prog.depth 85=false:=by kernel_rfl
theorem eql_bal {E:Env} (hE:E.P=Tryz.prog) (x y:Ky×Int) {u v:Operand}:Runs E (do eqGuard .eql 85 u v (.agg (sumK x)) (.agg (sumK y));binOp .eql 85 (.agg (sumK x)) (.agg (sumK y))) (.bool (eqK x y)) :=
 runs_eql (by rw [hE];exact guard_bal) fun w=>by rw [hE];exact eq_bal_raw x y w
theorem neqs_bal {E:Env} (hE:E.P=Tryz.prog) (x:Ky×Int) {u v:Operand}:Runs E (do eqGuard .neq 85 u v (.agg (sumK x)) (.agg (sumK x));binOp .neq 85 (.agg (sumK x)) (.agg (sumK x))) (.bool false):=by
 have:=runs_neq (E:=E) (t:=85) (x:=u) (y:=v) (by rw [hE];exact guard_bal) fun w=>by rw [hE];exact eq_bal_raw x x w
 rwa [eqK_self] at this
theorem neqs_entry {E:Env} (hE:E.P=Tryz.prog) (x:EC) {u v:Operand}:Runs E (do eqGuard .neq 47 u v (.agg x.A) (.agg x.A);binOp .neq 47 (.agg x.A) (.agg x.A)) (.bool false):=by
 have:=neq_entry hE x x (u:=u) (v:=v)
 rwa [EC.beq_self] at this
theorem offB (j:Nat):offAt 0 ((j:Nat):Int) ti85.size=j*3:=by
 show offAt 0 ((j:Nat):Int) 3=j*3
 simp [offAt]
theorem offH (j:Nat):offAt 0 ((j:Nat):Int) ti90.size=j*2:=by
 show offAt 0 ((j:Nat):Int) 2=j*2
 simp [offAt]
theorem offE (j:Nat):offAt 0 ((j:Nat):Int) ti47.size=j*10:=by
 show offAt 0 ((j:Nat):Int) 10=j*10
 simp [offAt]
set_option smartUnfolding false in
set_option maxRecDepth 100000 in
theorem sameB_o {E:Env} (hE:E.P=Tryz.prog) {x y:Value} {C:List (Ky×Int)} {n:Nat} (hx:IsL x n) (hy:IsL y n) (hn:n=C.length) (hb:n≤1000000000000):OwnC E 46 [SV.c x,SV.c y] [(9520,Blk.own x 85 3 n (cat sumK C)),(9521,Blk.own y 85 3 n (cat sumK C))] (fun r U=>r=.bool true∧U=[(9520,Blk.own x 85 3 n (cat sumK C)),(9521,Blk.own y 85 3 n (cat sumK C))]):=by
 refine sx_ownC [] tt_ok mixed at46 E hE [SV.c x,SV.c y] [(9520,Blk.own x 85 3 n (cat sumK C)),(9521,Blk.own y 85 3 n (cat sumK C))] _ rfl rfl fun w X β hT=>?_
 have hE':(envC Tryz.prog tt Tryz.f46.ntmps w X (tiedK [(9520,Blk.own x 85 3 n (cat sumK C)),(9521,Blk.own y 85 3 n (cat sumK C))] β)).toEnv.P=Tryz.prog:=rfl
 obtain ⟨xa,xc,rfl⟩:=hx.len
 obtain ⟨ya,yc,rfl⟩:=hy.len
 refine ⟨_,fun w' _=>run_len_sl Tryz.underlying28 w',_,fun w' _=>run_len_sl Tryz.underlying28 w',?_⟩
 refine ⟨fun c=>absurd c (by simp),fun _=>?_⟩
 refine ⟨fun q f m=>∃ i:Nat,q=n - i∧i≤n∧f=[(0,SV.c (.slice xa n xc)),(1,SV.c (.slice ya n yc)),(5,SV.c (.int .i64 (i:Nat)))]∧m=[(9520,Blk.own (.slice xa n xc) 85 3 n (cat sumK C)),(9521,Blk.own (.slice ya n yc) 85 3 n (cat sumK C))],n,⟨_,_,⟨0,by omega,by omega,rfl,rfl⟩,⟨rfl,rfl,rfl,trivial⟩,⟨.inl rfl,.inl rfl,trivial⟩,rfl⟩,?_⟩
 rintro q f m ⟨i,rfl,hi,rfl,rfl⟩
 refine ⟨_,fun w' _=>run_len_sl Tryz.underlying28 w',fun h=>?_,fun h=>?_⟩
 ·have h:i < n:=by have:=of_decide_eq_true h;omega
  rcases hx with ⟨hs1,hs2⟩ | ⟨g0,c0,hs1⟩
  ·omega
  cases hs1
  rcases hy with ⟨hs1,hs2⟩ | ⟨g1,c1,hs1⟩
  ·omega
  cases hs1
  obtain ⟨y,hy⟩:∃ y,C[i]? = some y:=⟨_,List.getElem?_eq_getElem (by omega)⟩
  have L1:=cat_extract sumK_size hy
  have hsz:(cat sumK C).size=n*3:=by rw [Go.SX.cat_size sumK_size,hn]
  have N1:=fun (u v:Operand)=>neqs_bal hE' y (u:=u) (v:=v)
  generalize hYA:sumK y=YA at L1 N1
  have F1:Fits YA 3:=by rw [← hYA];exact sumK_fits y
  refine ⟨by omega,by omega,.inr ⟨9520,g0,_,n,_,_,_,_,rfl,rfl,(by rw [offB,hsz];show i*3+3≤n*3;omega),YA,(by rw [offB];exact L1),?_⟩⟩
  refine ⟨by omega,by omega,.inr ⟨9521,g1,_,n,_,_,_,_,rfl,rfl,(by rw [offB,hsz];show i*3+3≤n*3;omega),YA,(by rw [offB];exact L1),?_⟩⟩
  refine ⟨_,N1 _ _,by kernel_rfl,nofun,fun _=>?_⟩
  exact ⟨n - (i+1),_,_,by omega,⟨i+1,rfl,by omega,rfl,rfl⟩,⟨rfl,rfl,c_int (i64_succ (by omega)),trivial⟩,⟨.inl rfl,.inl rfl,trivial⟩,rfl⟩
 ·have h:i=n:=by have:=of_decide_eq_false h;omega
  subst h
  exact ⟨[_,_],[],⟨rfl,rfl⟩,⟨.inl rfl,.inl rfl,trivial⟩,rfl⟩
set_option smartUnfolding false in
set_option maxRecDepth 100000 in
theorem sameE_o {E:Env} (hE:E.P=Tryz.prog) {x y:Value} {C:List EC} {n:Nat} (hx:IsL x n) (hy:IsL y n) (hn:n=C.length) (hb:n≤1000000000000):OwnC E 12 [SV.c x,SV.c y] [(9522,Blk.own x 47 10 n (cat EC.A C)),(9523,Blk.own y 47 10 n (cat EC.A C))] (fun r U=>r=.bool true∧U=[(9522,Blk.own x 47 10 n (cat EC.A C)),(9523,Blk.own y 47 10 n (cat EC.A C))]):=by
 refine sx_ownC [] tt_ok mixed at12 E hE [SV.c x,SV.c y] [(9522,Blk.own x 47 10 n (cat EC.A C)),(9523,Blk.own y 47 10 n (cat EC.A C))] _ rfl rfl fun w X β hT=>?_
 have hE':(envC Tryz.prog tt Tryz.f12.ntmps w X (tiedK [(9522,Blk.own x 47 10 n (cat EC.A C)),(9523,Blk.own y 47 10 n (cat EC.A C))] β)).toEnv.P=Tryz.prog:=rfl
 obtain ⟨xa,xc,rfl⟩:=hx.len
 obtain ⟨ya,yc,rfl⟩:=hy.len
 refine ⟨_,fun w' _=>run_len_sl Tryz.underlying22 w',_,fun w' _=>run_len_sl Tryz.underlying22 w',?_⟩
 refine ⟨fun c=>absurd c (by simp),fun _=>?_⟩
 refine ⟨fun q f m=>∃ i:Nat,q=n - i∧i≤n∧f=[(0,SV.c (.slice xa n xc)),(1,SV.c (.slice ya n yc)),(5,SV.c (.int .i64 (i:Nat)))]∧m=[(9522,Blk.own (.slice xa n xc) 47 10 n (cat EC.A C)),(9523,Blk.own (.slice ya n yc) 47 10 n (cat EC.A C))],n,⟨_,_,⟨0,by omega,by omega,rfl,rfl⟩,⟨rfl,rfl,rfl,trivial⟩,⟨.inl rfl,.inl rfl,trivial⟩,rfl⟩,?_⟩
 rintro q f m ⟨i,rfl,hi,rfl,rfl⟩
 refine ⟨_,fun w' _=>run_len_sl Tryz.underlying22 w',fun h=>?_,fun h=>?_⟩
 ·have h:i < n:=by have:=of_decide_eq_true h;omega
  rcases hx with ⟨hs1,hs2⟩ | ⟨g0,c0,hs1⟩
  ·omega
  cases hs1
  rcases hy with ⟨hs1,hs2⟩ | ⟨g1,c1,hs1⟩
  ·omega
  cases hs1
  obtain ⟨y,hy⟩:∃ y,C[i]? = some y:=⟨_,List.getElem?_eq_getElem (by omega)⟩
  have L1:=cat_extract EC.size hy
  have hsz:(cat EC.A C).size=n*10:=by rw [Go.SX.cat_size EC.size,hn]
  have N1:=fun (u v:Operand)=>neqs_entry hE' y (u:=u) (v:=v)
  generalize hYA:y.A=YA at L1 N1
  have F1:Fits YA 10:=by rw [← hYA];exact y.fits
  refine ⟨by omega,by omega,.inr ⟨9522,g0,_,n,_,_,_,_,rfl,rfl,(by rw [offE,hsz];show i*10+10≤n*10;omega),YA,(by rw [offE];exact L1),?_⟩⟩
  refine ⟨by omega,by omega,.inr ⟨9523,g1,_,n,_,_,_,_,rfl,rfl,(by rw [offE,hsz];show i*10+10≤n*10;omega),YA,(by rw [offE];exact L1),?_⟩⟩
  refine ⟨_,N1 _ _,by kernel_rfl,nofun,fun _=>?_⟩
  exact ⟨n - (i+1),_,_,by omega,⟨i+1,rfl,by omega,rfl,rfl⟩,⟨rfl,rfl,c_int (i64_succ (by omega)),trivial⟩,⟨.inl rfl,.inl rfl,trivial⟩,rfl⟩
 ·have h:i=n:=by have:=of_decide_eq_false h;omega
  subst h
  exact ⟨[_,_],[],⟨rfl,rfl⟩,⟨.inl rfl,.inl rfl,trivial⟩,rfl⟩
set_option smartUnfolding false in
set_option maxRecDepth 100000 in
set_option maxHeartbeats 2000000 in
theorem same_o {E:Env} (hE:E.P=Tryz.prog) {xh xc xp yh yc yp:Value} {g:Led} (hh:IsL xh g.h.length) (hc:IsL xc g.c.length) (hp:IsL xp g.p.length) (kh:IsL yh g.h.length) (kc:IsL yc g.c.length) (kp:IsL yp g.p.length) (hl:g.h.length≤10000000000∧g.c.length≤10000000000∧g.p.length≤10000000000):OwnC E 13 [SV.c (.agg #[xh,xc,xp]),SV.c (.agg #[yh,yc,yp])] [(9506,Blk.own xh 90 2 g.h.length (cat sumA g.h)),(9507,Blk.own xc 85 3 g.c.length (cat sumK g.c)),(9508,Blk.own xp 85 3 g.p.length (cat sumK g.p)),(9516,Blk.own yh 90 2 g.h.length (cat sumA g.h)),(9517,Blk.own yc 85 3 g.c.length (cat sumK g.c)),(9518,Blk.own yp 85 3 g.p.length (cat sumK g.p))] (fun r U=>r=.bool true∧U=[(9506,Blk.own xh 90 2 g.h.length (cat sumA g.h)),(9507,Blk.own xc 85 3 g.c.length (cat sumK g.c)),(9508,Blk.own xp 85 3 g.p.length (cat sumK g.p)),(9516,Blk.own yh 90 2 g.h.length (cat sumA g.h)),(9517,Blk.own yc 85 3 g.c.length (cat sumK g.c)),(9518,Blk.own yp 85 3 g.p.length (cat sumK g.p))]):=by
 refine sx_ownC [] tt_ok mixed at13 E hE [SV.c (.agg #[xh,xc,xp]),SV.c (.agg #[yh,yc,yp])] [(9506,Blk.own xh 90 2 g.h.length (cat sumA g.h)),(9507,Blk.own xc 85 3 g.c.length (cat sumK g.c)),(9508,Blk.own xp 85 3 g.p.length (cat sumK g.p)),(9516,Blk.own yh 90 2 g.h.length (cat sumA g.h)),(9517,Blk.own yc 85 3 g.c.length (cat sumK g.c)),(9518,Blk.own yp 85 3 g.p.length (cat sumK g.p))] _ rfl rfl fun w X β hT=>?_
 have hE':(envC Tryz.prog tt Tryz.f13.ntmps w X (tiedK [(9506,Blk.own xh 90 2 g.h.length (cat sumA g.h)),(9507,Blk.own xc 85 3 g.c.length (cat sumK g.c)),(9508,Blk.own xp 85 3 g.p.length (cat sumK g.p)),(9516,Blk.own yh 90 2 g.h.length (cat sumA g.h)),(9517,Blk.own yc 85 3 g.c.length (cat sumK g.c)),(9518,Blk.own yp 85 3 g.p.length (cat sumK g.p))] β)).toEnv.P=Tryz.prog:=rfl
 have BC:=sameB_o hE' hc kc rfl (by omega)
 have BP:=sameB_o hE' hp kp rfl (by omega)
 obtain ⟨xha,xhc,rfl⟩:=hh.len
 obtain ⟨yha,yhc,rfl⟩:=kh.len
 refine ⟨rfl,rfl,_,rfl,_,fun w' _=>run_len_sl Tryz.underlying27 w',_,rfl,_,fun w' _=>run_len_sl Tryz.underlying27 w',?_⟩
 refine ⟨fun c=>absurd c (by simp),fun _=>?_⟩
 refine ⟨fun q f m=>∃ i:Nat,q=g.h.length - i∧i≤g.h.length∧f=[(2,SV.ptr 2 0),(3,SV.ptr 3 0),(5,SV.c (.int .i64 (i:Nat)))]∧m=(2,Blk.row 30 3 #[.slice xha g.h.length xhc,xc,xp]) :: (3,Blk.row 30 3 #[.slice yha g.h.length yhc,yc,yp]) :: [(9506,Blk.own (.slice xha g.h.length xhc) 90 2 g.h.length (cat sumA g.h)),(9507,Blk.own xc 85 3 g.c.length (cat sumK g.c)),(9508,Blk.own xp 85 3 g.p.length (cat sumK g.p)),(9516,Blk.own (.slice yha g.h.length yhc) 90 2 g.h.length (cat sumA g.h)),(9517,Blk.own yc 85 3 g.c.length (cat sumK g.c)),(9518,Blk.own yp 85 3 g.p.length (cat sumK g.p))],g.h.length,⟨_,_,⟨0,by omega,by omega,rfl,rfl⟩,⟨rfl,rfl,rfl,trivial⟩,⟨rfl,rfl,.inl rfl,.inl rfl,.inl rfl,.inl rfl,.inl rfl,.inl rfl,trivial⟩,rfl⟩,?_⟩
 rintro q f m ⟨i,rfl,hi,rfl,rfl⟩
 refine ⟨_,rfl,_,fun w' _=>run_len_sl Tryz.underlying27 w',fun h=>?_,fun h=>?_⟩
 ·have h:i < g.h.length:=by have:=of_decide_eq_true h;omega
  rcases hh with ⟨hs1,hs2⟩ | ⟨g0,c0,hs1⟩
  ·omega
  cases hs1
  rcases kh with ⟨hs1,hs2⟩ | ⟨g1,c1,hs1⟩
  ·omega
  cases hs1
  obtain ⟨y,hy⟩:∃ y,g.h[i]? = some y:=⟨_,List.getElem?_eq_getElem (by omega)⟩
  have L1:=cat_extract sumA_size hy
  have hsz:(cat sumA g.h).size=g.h.length*2:=Go.SX.cat_size sumA_size _
  have N1:=fun (u v:Operand)=>neqs_hol hE' y (u:=u) (v:=v)
  generalize hYA:sumA y=YA at L1 N1
  refine ⟨_,rfl,by omega,by omega,.inr ⟨9506,g0,_,g.h.length,_,_,_,_,rfl,rfl,(by rw [offH,hsz];show i*2+2≤g.h.length*2;omega),YA,(by rw [offH];exact L1),?_⟩⟩
  refine ⟨_,rfl,by omega,by omega,.inr ⟨9516,g1,_,g.h.length,_,_,_,_,rfl,rfl,(by rw [offH,hsz];show i*2+2≤g.h.length*2;omega),YA,(by rw [offH];exact L1),?_⟩⟩
  refine ⟨_,N1 _ _,by kernel_rfl,nofun,fun _=>?_⟩
  exact ⟨g.h.length - (i+1),_,_,by omega,⟨i+1,rfl,by omega,rfl,rfl⟩,⟨rfl,rfl,c_int (i64_succ (by omega)),trivial⟩,⟨rfl,rfl,.inl rfl,.inl rfl,.inl rfl,.inl rfl,.inl rfl,.inl rfl,trivial⟩,rfl⟩
 ·have h:i=g.h.length:=by have:=of_decide_eq_false h;omega
  subst h
  refine ⟨_,rfl,_,rfl,.inr (.inr (.inl ⟨[(9520,9507),(9521,9517)],[_,_],[_,_],_,[_,_],BC,rfl,⟨.inl rfl,.inl rfl,trivial⟩,rfl,rfl,?_⟩))⟩
  refine ⟨fun _=>?_,nofun⟩
  refine ⟨_,rfl,_,rfl,.inr (.inr (.inl ⟨[(9520,9508),(9521,9518)],[_,_],[_,_],_,[_,_],BP,rfl,⟨.inl rfl,.inl rfl,trivial⟩,rfl,rfl,?_⟩))⟩
  exact ⟨[_,_,_,_,_,_],[],⟨rfl,rfl⟩,⟨.inl rfl,.inl rfl,.inl rfl,.inl rfl,.inl rfl,.inl rfl,trivial⟩,rfl⟩
def finN (g:Led):Led×Int:=pfL ⟨nzf g.h,nzf g.c,nzf g.p⟩
def FinQ (g:Led) (vh vc vp:Value) (r:Value) (U:MemL):Prop:=∃ xh xc xp,IsL xh (finN g).1.h.length∧IsL xc (finN g).1.c.length∧IsL xp (finN g).1.p.length∧r=.tuple #[.agg #[xh,xc,xp],.int .i64 (finN g).2]∧U=[(9701,Blk.own vh 90 2 g.h.length (cat sumA g.h)),(9702,Blk.own vc 85 3 g.c.length (cat sumK g.c)),(9703,Blk.own vp 85 3 g.p.length (cat sumK g.p)),(9506,Blk.own xh 90 2 (finN g).1.h.length (cat sumA (finN g).1.h)),(9507,Blk.own xc 85 3 (finN g).1.c.length (cat sumK (finN g).1.c)),(9508,Blk.own xp 85 3 (finN g).1.p.length (cat sumK (finN g).1.p))]
theorem FinQ.bad {g:Led} {vh vc vp:Value} {e:Int} (h:finN g=(.zero,e)):FinQ g vh vc vp (.tuple #[.agg #[.slice none 0 0,.slice none 0 0,.slice none 0 0],.int .i64 e]) [(9701,Blk.own vh 90 2 g.h.length (cat sumA g.h)),(9702,Blk.own vc 85 3 g.c.length (cat sumK g.c)),(9703,Blk.own vp 85 3 g.p.length (cat sumK g.p)),(9506,Blk.own (.slice none 0 0) 90 2 0 #[]),(9507,Blk.own (.slice none 0 0) 85 3 0 #[]),(9508,Blk.own (.slice none 0 0) 85 3 0 #[])]:=by
 refine ⟨.slice none 0 0,.slice none 0 0,.slice none 0 0,by rw [h];exact .nil,by rw [h];exact .nil,by rw [h];exact .nil,by rw [h],by rw [h];rfl⟩
set_option smartUnfolding false in
set_option maxRecDepth 100000 in
set_option maxHeartbeats 2000000 in
theorem finish_r {E:Env} (hE:E.P=Tryz.prog) {g:Led} {vh vc vp:Value} (hh:IsL vh g.h.length) (_hc:IsL vc g.c.length) (_hp:IsL vp g.p.length) (hl:g.h.length≤10000000000∧g.c.length≤10000000000∧g.p.length≤10000000000):OwnC E 38 [SV.c (.agg #[vh,vc,vp])] [(9701,Blk.own vh 90 2 g.h.length (cat sumA g.h)),(9702,Blk.own vc 85 3 g.c.length (cat sumK g.c)),(9703,Blk.own vp 85 3 g.p.length (cat sumK g.p))] (FinQ g vh vc vp):=by
 refine sx_ownC [7] tt_ok mixed at38 E hE [SV.c (.agg #[vh,vc,vp])] [(9701,Blk.own vh 90 2 g.h.length (cat sumA g.h)),(9702,Blk.own vc 85 3 g.c.length (cat sumK g.c)),(9703,Blk.own vp 85 3 g.p.length (cat sumK g.p))] _ rfl rfl fun w X β hT=>?_
 have hE':(envC Tryz.prog tt Tryz.f38.ntmps w X (tiedK [(9701,Blk.own vh 90 2 g.h.length (cat sumA g.h)),(9702,Blk.own vc 85 3 g.c.length (cat sumK g.c)),(9703,Blk.own vp 85 3 g.p.length (cat sumK g.p))] β) [7]).toEnv.P=Tryz.prog:=rfl
 obtain ⟨ha,hcap,rfl⟩:=hh.len
 refine ⟨rfl,?_⟩
 refine ⟨fun f m=>∃ (s:Value) (k:Nat),k=(nzf g.h).length∧IsL s k∧f=[(1,SV.ptr 1 0),(2,SV.ptr 2 0),(4,SV.ptr 4 0)]∧m=[(1,Blk.row 30 3 #[.slice ha g.h.length hcap,vc,vp]),(2,Blk.row 30 3 #[.slice none 0 0,.slice none 0 0,.slice none 0 0]),(4,Blk.row 30 3 #[s,.slice none 0 0,.slice none 0 0]),(9506,Blk.own s 90 2 k (cat sumA (nzf g.h))),(9701,Blk.own (.slice ha g.h.length hcap) 90 2 g.h.length (cat sumA g.h)),(9702,Blk.own vc 85 3 g.c.length (cat sumK g.c)),(9703,Blk.own vp 85 3 g.p.length (cat sumK g.p))],?_,?_⟩
 ·refine ⟨fun q f m=>∃ (i k:Nat) (s:Value),q=g.h.length - i∧i≤g.h.length∧k=(nzf (g.h.take i)).length∧IsL s k∧f=[(1,SV.ptr 1 0),(2,SV.ptr 2 0),(4,SV.ptr 4 0),(5,SV.c (.int .i64 (i:Nat)))]∧m=[(1,Blk.row 30 3 #[.slice ha g.h.length hcap,vc,vp]),(2,Blk.row 30 3 #[.slice none 0 0,.slice none 0 0,.slice none 0 0]),(4,Blk.row 30 3 #[s,.slice none 0 0,.slice none 0 0]),(9506,Blk.own s 90 2 k (cat sumA (nzf (g.h.take i)))),(9701,Blk.own (.slice ha g.h.length hcap) 90 2 g.h.length (cat sumA g.h)),(9702,Blk.own vc 85 3 g.c.length (cat sumK g.c)),(9703,Blk.own vp 85 3 g.p.length (cat sumK g.p))],g.h.length,⟨_,_,⟨0,0,.slice none 0 0,by omega,by omega,rfl,.nil,rfl,rfl⟩,⟨rfl,rfl,rfl,rfl,trivial⟩,⟨rfl,rfl,rfl,.inr ⟨rfl,rfl,rfl⟩,.inl rfl,.inl rfl,.inl rfl,trivial⟩,rfl⟩,?_⟩
  rintro q f m ⟨i,k,s,rfl,hi,hk,hs,rfl,rfl⟩
  refine ⟨_,rfl,_,fun w' _=>run_len_sl Tryz.underlying27 w',fun c=>?_,fun c=>?_⟩
  ·have c:i < g.h.length:=by have:=of_decide_eq_true c;omega
   rcases hh with ⟨hs1,hs2⟩ | ⟨g0,c0,hs1⟩
   ·omega
   cases hs1
   obtain ⟨y,hy⟩:∃ y,g.h[i]? = some y:=⟨_,List.getElem?_eq_getElem c⟩
   have L1:=cat_extract sumA_size hy
   have hsz:(cat sumA g.h).size=g.h.length*2:=Go.SX.cat_size sumA_size _
   have LQ:(cat sumA g.h)[i*2+1]? = some (.int .i64 y.2):=cat_get sumA_size g.h i y 1 hy (by decide)
   have X1:(sumA y).extract 0 (0+1*2)=sumA y:=by simp [sumA]
   have hNT:=nzf_take hy
   have hkl:=nzf_len g.h i
   obtain ⟨q,hq,hqb⟩:=info_hol
   refine ⟨_,rfl,by omega,by omega,.inr ⟨9701,g0,_,g.h.length,_,_,_,_,rfl,rfl,.int .i64 y.2,(by rw [offH];exact LQ),?_⟩⟩
   refine ⟨fun c1=>?_,fun c1=>?_⟩
   ·have c1:(y.2 != 0)=true:=c1
    have c1:y.2≠0:=by simpa using c1
    rw [if_neg c1] at hNT
    refine ⟨_,rfl,_,rfl,by omega,by omega,.inr ⟨9701,g0,_,g.h.length,_,_,_,_,rfl,rfl,(by rw [offH,hsz];show i*2+2≤g.h.length*2;omega),sumA y,(by rw [offH];exact L1),?_⟩⟩
    refine .inl ⟨by decide,by decide,_,fill_hol1 y,rfl,by decide,9506,k,_,.inl rfl,by decide,(sumA_fits y).one,rfl,_,X1,?_⟩
    refine ⟨by omega,by unfold maxLen;omega,⟨q,hq,by rw [hqb];omega⟩,by change _=true;kernel_rfl,fun g2 cap2=>?_⟩
    refine ⟨by decide,rfl,#[.slice (some ⟨g2,0,none⟩) (k+1) cap2,.slice none 0 0,.slice none 0 0],rfl,by kernel_rfl,?_⟩
    exact ⟨g.h.length - (i+1),_,_,by omega,⟨i+1,k+1,.slice (some ⟨g2,0,none⟩) (k+1) cap2,rfl,by omega,by rw [hNT,List.length_append,← hk];rfl,.some,rfl,rfl⟩,⟨rfl,rfl,rfl,c_int (i64_succ (by omega)),trivial⟩,⟨rfl,rfl,rfl,.inl (own_eq (by rw [hNT,cat_snoc])),.inl rfl,.inl rfl,.inl rfl,trivial⟩,rfl⟩
   ·have c1:(y.2 != 0)=false:=c1
    have c1:y.2=0:=by simpa using c1
    rw [if_pos c1] at hNT
    exact ⟨g.h.length - (i+1),_,_,by omega,⟨i+1,k,s,rfl,by omega,by rw [hNT];exact hk,hs,rfl,rfl⟩,⟨rfl,rfl,rfl,c_int (i64_succ (by omega)),trivial⟩,⟨rfl,rfl,rfl,.inl (by rw [hNT];rfl),.inl rfl,.inl rfl,.inl rfl,trivial⟩,rfl⟩
  ·have c:i=g.h.length:=by have:=of_decide_eq_false c;omega
   have ht:g.h.take i=g.h:=List.take_of_length_le (by omega)
   rw [ht] at hk
   exact ⟨_,_,⟨s,k,hk,hs,rfl,rfl⟩,⟨rfl,rfl,rfl,trivial⟩,⟨rfl,rfl,rfl,.inl (by rw [ht];rfl),.inl rfl,.inl rfl,.inl rfl,trivial⟩,rfl⟩
 ·rintro f1 m1 ⟨s,k,hk,hs,rfl,rfl⟩
  have BC:=bal_ro hE' (x:=vc) (C:=g.c) rfl (by omega)
  have BP:=bal_ro hE' (x:=vp) (C:=g.p) rfl (by omega)
  refine ⟨_,rfl,?_⟩
  refine .inr (.inr (.inr ⟨[(9611,9702),(9602,9507)],[9507],[_],[_],_,BC,rfl,⟨.inl rfl,trivial⟩,rfl,trivial,?_⟩))
  rintro r U ⟨xc,nc,hnc,hxc,rfl,rfl⟩
  refine ⟨by kernel_rfl,?_⟩
  obtain ⟨sa,sc,rfl⟩:=hs.len
  obtain ⟨xca,xcc,rfl⟩:=hxc.len
  refine ⟨by decide,isL_one hxc,#[.slice sa k sc,.slice xca nc xcc,.slice none 0 0],rfl,?_⟩
  refine ⟨_,rfl,?_⟩
  refine .inr (.inr (.inr ⟨[(9611,9703),(9602,9508)],[9508],[_],[_],_,BP,rfl,⟨.inl rfl,trivial⟩,rfl,trivial,?_⟩))
  rintro r U ⟨xp,np,hnp,hxp,rfl,rfl⟩
  refine ⟨by kernel_rfl,?_⟩
  obtain ⟨xpa,xpc,rfl⟩:=hxp.len
  refine ⟨by decide,isL_one hxp,#[.slice sa k sc,.slice xca nc xcc,.slice xpa np xpc],rfl,?_⟩
  have hmE:∀ b:Bool,(amtB (nzf g.c) && amtB (nzf g.p))=b→¬ ((nzf g.h).length > 64∨(nzf g.c).length > 8)→finE ⟨nzf g.h,nzf g.c,nzf g.p⟩=if b then 0 else 33:=fun b hb hm=>by
   rw [← hb];unfold finE;rw [if_neg hm];rfl
  have bad1:(nzf g.h).length > 64∨(nzf g.c).length > 8→finN g=(.zero,123):=fun h=>by
   have:finE ⟨nzf g.h,nzf g.c,nzf g.p⟩=123:=by unfold finE;rw [if_pos h]
   unfold finN pfL;rw [this];rfl
  refine ⟨_,rfl,_,fun w' _=>run_len_sl Tryz.underlying27 w',?_⟩
  refine ⟨fun c=>?_,fun c=>?_⟩
  ·have c:¬ k > 64:=by have:=of_decide_eq_false (show decide (((k:Nat):Int) > 64)=false from c);omega
   refine ⟨_,rfl,_,fun w' _=>run_len_sl Tryz.underlying28 w',fun c2=>?_,fun c2=>?_⟩
   ·have c2:nc > 8:=by have:=of_decide_eq_true (show decide (((nc:Nat):Int) > 8)=true from c2);omega
    refine ⟨_,rfl,nil3_fits,?_⟩
    exact ⟨_,[],FinQ.bad (bad1 (.inr (by omega))),⟨.inl rfl,.inl rfl,.inl rfl,.inr ⟨rfl,rfl,rfl⟩,.inr ⟨rfl,rfl,rfl⟩,.inr ⟨rfl,rfl,rfl⟩,trivial⟩,rfl⟩
   ·have c2:¬ nc > 8:=by have:=of_decide_eq_false (show decide (((nc:Nat):Int) > 8)=false from c2);omega
    have hmE:=fun b hb=>hmE b hb (by omega)
    have bad2:(amtB (nzf g.c) && amtB (nzf g.p))=false→finN g=(.zero,33):=fun h=>by
     unfold finN pfL;rw [hmE false h];rfl
    refine ⟨fun c3=>?_,fun c3=>?_⟩
    ·have c3:(!amtB (nzf g.c))=false:=c3
     have c3:amtB (nzf g.c)=true:=by simpa using c3
     refine ⟨fun c4=>?_,fun c4=>?_⟩
     ·have c4:(!amtB (nzf g.p))=true:=c4
      have c4:amtB (nzf g.p)=false:=by simpa using c4
      refine ⟨_,rfl,nil3_fits,?_⟩
      exact ⟨_,[],FinQ.bad (bad2 (by rw [c4,Bool.and_false])),⟨.inl rfl,.inl rfl,.inl rfl,.inr ⟨rfl,rfl,rfl⟩,.inr ⟨rfl,rfl,rfl⟩,.inr ⟨rfl,rfl,rfl⟩,trivial⟩,rfl⟩
     ·have c4:(!amtB (nzf g.p))=false:=c4
      have c4:amtB (nzf g.p)=true:=by simpa using c4
      have hF:finN g=(⟨nzf g.h,nzf g.c,nzf g.p⟩,0):=by
       unfold finN pfL;rw [hmE true (by rw [c3,c4];rfl)];rfl
      have Q:FinQ g (.slice ha g.h.length hcap) vc vp (.tuple #[.agg #[.slice sa k sc,.slice xca nc xcc,.slice xpa np xpc],.int .i64 0]) [(9701,Blk.own (.slice ha g.h.length hcap) 90 2 g.h.length (cat sumA g.h)),(9702,Blk.own vc 85 3 g.c.length (cat sumK g.c)),(9703,Blk.own vp 85 3 g.p.length (cat sumK g.p)),(9506,Blk.own (.slice sa k sc) 90 2 k (cat sumA (nzf g.h))),(9507,Blk.own (.slice xca nc xcc) 85 3 nc (cat sumK (nzf g.c))),(9508,Blk.own (.slice xpa np xpc) 85 3 np (cat sumK (nzf g.p)))]:=⟨_,_,_,by rw [hF];show IsL _ (nzf g.h).length;rw [← hk];exact hs,by rw [hF];show IsL _ (nzf g.c).length;rw [← hnc];exact hxc,by rw [hF];show IsL _ (nzf g.p).length;rw [← hnp];exact hxp,by rw [hF],by rw [hF,hk,hnc,hnp]⟩
      exact ⟨fits3 rfl rfl rfl,_,[],Q,⟨.inl rfl,.inl rfl,.inl rfl,.inl rfl,.inl rfl,.inl rfl,trivial⟩,rfl⟩
    ·have c3:(!amtB (nzf g.c))=true:=by simpa using c3
     have c3:amtB (nzf g.c)=false:=by simpa using c3
     refine ⟨fun _=>?_,nofun⟩
     refine ⟨_,rfl,nil3_fits,?_⟩
     exact ⟨_,[],FinQ.bad (bad2 (by rw [c3,Bool.false_and])),⟨.inl rfl,.inl rfl,.inl rfl,.inr ⟨rfl,rfl,rfl⟩,.inr ⟨rfl,rfl,rfl⟩,.inr ⟨rfl,rfl,rfl⟩,trivial⟩,rfl⟩
  ·have c:k > 64:=by have:=of_decide_eq_true (show decide (((k:Nat):Int) > 64)=true by simpa using c);omega
   refine ⟨fun _=>?_,nofun⟩
   refine ⟨_,rfl,nil3_fits,?_⟩
   exact ⟨_,[],FinQ.bad (bad1 (.inl (by omega))),⟨.inl rfl,.inl rfl,.inl rfl,.inr ⟨rfl,rfl,rfl⟩,.inr ⟨rfl,rfl,rfl⟩,.inr ⟨rfl,rfl,rfl⟩,trivial⟩,rfl⟩
end Go.Proofs.YtkaakbpeegpnkaaGreatDoor
namespace Go.Proofs.YtkaakbpeegpnkaaGreatDoor
open Go Go.RowKit Go.SX
section
variable {H:Type} {enc:TypeId×Value→H} {w:World} {base:Nat} {sp:Nat→Bool} {held:Bool}
set_option maxRecDepth 100000 in
theorem rd_entry {fuel:Nat} {cs:List Value} {x:DataW H×List MemPlace} (h:DataW.trod enc Tryz.prog w base sp held fuel 47 cs=some x):∃ a:EC,a.In∧cs=a.A.toList:=by
 obtain ⟨xs,n,-,-,hl,hn,hf⟩:=DataW.trod_struct Tryz.underlying47 h
 have hn:xs.length=10:=hn
 match xs,hn with
 | [y0,y1,y2,y3,y4,y5,y6,y7,y8,y9],_ =>
 have ci:Tryz.prog.cellsOf 3=1:=by kernel_rfl
 have cs':Tryz.prog.cellsOf 9=1:=by kernel_rfl
 have cb:Tryz.prog.cellsOf 4=1:=by kernel_rfl
 have ca:Tryz.prog.cellsOf 47=10:=by kernel_rfl
 have f0:DataW.trod enc Tryz.prog w base sp held n 3 ((cs.drop 0).take (Tryz.prog.cellsOf 3))=some y0:=hf 0 _ rfl
 have f1:DataW.trod enc Tryz.prog w base sp held n 9 ((cs.drop 1).take (Tryz.prog.cellsOf 9))=some y1:=hf 1 _ rfl
 have f2:DataW.trod enc Tryz.prog w base sp held n 3 ((cs.drop 2).take (Tryz.prog.cellsOf 3))=some y2:=hf 2 _ rfl
 have f3:DataW.trod enc Tryz.prog w base sp held n 3 ((cs.drop 3).take (Tryz.prog.cellsOf 3))=some y3:=hf 3 _ rfl
 have f4:DataW.trod enc Tryz.prog w base sp held n 9 ((cs.drop 4).take (Tryz.prog.cellsOf 9))=some y4:=hf 4 _ rfl
 have f5:DataW.trod enc Tryz.prog w base sp held n 3 ((cs.drop 5).take (Tryz.prog.cellsOf 3))=some y5:=hf 5 _ rfl
 have f6:DataW.trod enc Tryz.prog w base sp held n 3 ((cs.drop 6).take (Tryz.prog.cellsOf 3))=some y6:=hf 6 _ rfl
 have f7:DataW.trod enc Tryz.prog w base sp held n 9 ((cs.drop 7).take (Tryz.prog.cellsOf 9))=some y7:=hf 7 _ rfl
 have f8:DataW.trod enc Tryz.prog w base sp held n 3 ((cs.drop 8).take (Tryz.prog.cellsOf 3))=some y8:=hf 8 _ rfl
 have f9:DataW.trod enc Tryz.prog w base sp held n 4 ((cs.drop 9).take (Tryz.prog.cellsOf 4))=some y9:=hf 9 _ rfl
 rw [ci] at f0 f2 f3 f5 f6 f8
 rw [cs'] at f1 f4 f7
 rw [cb] at f9
 obtain ⟨kind,e0,-⟩:=rd_i64 f0
 obtain ⟨key,e1,k1⟩:=rd_str f1
 obtain ⟨day,e2,-⟩:=rd_i64 f2
 obtain ⟨settle,e3,-⟩:=rd_i64 f3
 obtain ⟨ins,e4,k4⟩:=rd_str f4
 obtain ⟨qty,e5,-⟩:=rd_i64 f5
 obtain ⟨amt,e6,-⟩:=rd_i64 f6
 obtain ⟨cur,e7,k7⟩:=rd_str f7
 obtain ⟨known,e8,-⟩:=rd_i64 f8
 obtain ⟨void,e9,-⟩:=DataW.trod_bool Tryz.underlying4 f9
 refine ⟨⟨kind,key,day,settle,ins,qty,amt,cur,known,void⟩,⟨k1,k4,k7⟩,?_⟩
 have s0:=split_at e0
 rw [List.drop_zero] at s0
 rw [s0,split_at e1,split_at e2,split_at e3,split_at e4,split_at e5,split_at e6,split_at e7,split_at e8,split_at e9,List.drop_eq_nil_of_le (by omega),List.append_nil]
 rfl
theorem rd_holding {fuel:Nat} {cs:List Value} {x:DataW H×List MemPlace} (h:DataW.trod enc Tryz.prog w base sp held fuel 90 cs=some x):∃ a:Bs×Int,a.1.length≤9223372036854775807∧cs=(sumA a).toList:=by
 obtain ⟨xs,n,-,-,hl,hn,hf⟩:=DataW.trod_struct Tryz.underlying90 h
 have hn:xs.length=2:=hn
 match xs,hn with
 | [y0,y1],_ =>
 have ci:Tryz.prog.cellsOf 3=1:=by kernel_rfl
 have cs':Tryz.prog.cellsOf 9=1:=by kernel_rfl
 have ca:Tryz.prog.cellsOf 90=2:=by kernel_rfl
 have f0:DataW.trod enc Tryz.prog w base sp held n 9 ((cs.drop 0).take (Tryz.prog.cellsOf 9))=some y0:=hf 0 _ rfl
 have f1:DataW.trod enc Tryz.prog w base sp held n 3 ((cs.drop 1).take (Tryz.prog.cellsOf 3))=some y1:=hf 1 _ rfl
 rw [cs'] at f0
 rw [ci] at f1
 obtain ⟨ins,e0,k0⟩:=rd_str f0
 obtain ⟨qty,e1,-⟩:=rd_i64 f1
 refine ⟨(ins,qty),k0,?_⟩
 have s0:=split_at e0
 rw [List.drop_zero] at s0
 rw [s0,split_at e1,List.drop_eq_nil_of_le (by omega),List.append_nil]
 rfl
theorem rd_balance {fuel:Nat} {cs:List Value} {x:DataW H×List MemPlace} (h:DataW.trod enc Tryz.prog w base sp held fuel 85 cs=some x):∃ a:Ky×Int,a.1.1.length≤9223372036854775807∧cs=(sumK a).toList:=by
 obtain ⟨xs,n,-,-,hl,hn,hf⟩:=DataW.trod_struct Tryz.underlying85 h
 have hn:xs.length=3:=hn
 match xs,hn with
 | [y0,y1,y2],_ =>
 have ci:Tryz.prog.cellsOf 3=1:=by kernel_rfl
 have cs':Tryz.prog.cellsOf 9=1:=by kernel_rfl
 have ca:Tryz.prog.cellsOf 85=3:=by kernel_rfl
 have f0:DataW.trod enc Tryz.prog w base sp held n 9 ((cs.drop 0).take (Tryz.prog.cellsOf 9))=some y0:=hf 0 _ rfl
 have f1:DataW.trod enc Tryz.prog w base sp held n 3 ((cs.drop 1).take (Tryz.prog.cellsOf 3))=some y1:=hf 1 _ rfl
 have f2:DataW.trod enc Tryz.prog w base sp held n 3 ((cs.drop 2).take (Tryz.prog.cellsOf 3))=some y2:=hf 2 _ rfl
 rw [cs'] at f0
 rw [ci] at f1 f2
 obtain ⟨cur,e0,k0⟩:=rd_str f0
 obtain ⟨day,e1,-⟩:=rd_i64 f1
 obtain ⟨amt,e2,-⟩:=rd_i64 f2
 refine ⟨((cur,day),amt),k0,?_⟩
 have s0:=split_at e0
 rw [List.drop_zero] at s0
 rw [s0,split_at e1,split_at e2,List.drop_eq_nil_of_le (by omega),List.append_nil]
 rfl
end
end Go.Proofs.YtkaakbpeegpnkaaGreatDoor
