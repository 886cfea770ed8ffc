/- the laws comparisons of balances, entries, portfolios. the r; no condition. -/
import Derived.Test.YtekfkdddadcalaaGreatDoorPositionSpoiltQ30
set_option maxRecDepth 100000
set_option maxHeartbeats 4000000
namespace Go.Proofs.YtekfkdddadcalaaGreatDoor
open Go Go.RowKit Go.SX
def eqA (x y:Bs×Int):Bool:=decide (x.1=y.1) && ((x.2 == y.2) && true)
def eqK (x y:Ky×Int):Bool:=decide (x.1.1=y.1.1) && ((x.1.2 == y.1.2) && ((x.2 == y.2) && true))
theorem Db (x:Bs×Int):eqA x x=true:=by simp [eqA]
theorem vo (x:Ky×Int):eqK x x=true:=by simp [eqK]
theorem EC.beq_self (x:EC):x.beq x=true:=by simp [EC.beq]
theorem w7 {d:Nat} (x y:Bs×Int) (w:World):(Op.equalIn (d+1+1) 66 (.agg (ao x)) (.agg (ao y))).run Tryz.prog w=.ok (eqA x y) w:=by
 rw [run_equalIn_struct w (d+1) 66 _ _ (by simp only [Program.fieldsOf,Tryz.underlying66]) (by kernel_rfl)]
 rw [show (Tryz.prog.fieldsOf 66).toList=[⟨ "Instrument",9,0,false,"","",0⟩,⟨ "Quantity",3,1,false,"","",16⟩] from by simp only [Program.fieldsOf,Tryz.underlying66]]
 refine aU (by decide) (ar jd rfl rfl w) (ar jd rfl rfl w) (iN _ _ w) fun _=>?_
 exact aU (by decide) (ar ee rfl rfl w) (ar ee rfl rfl w) (cH _ Tryz.underlying3 _ _ w) fun _=>jQ
theorem Aa:Tryz.prog.eqGuardType Tryz.prog.depth 66=false:=by kernel_rfl
theorem EL {E:Env} (hE:E.P=Tryz.prog) (x y:Bs×Int) {u v:Operand}:bD E (do eqGuard .neq 66 u v (.agg (ao x)) (.agg (ao y));binOp .neq 66 (.agg (ao x)) (.agg (ao y))) (.bool (!(eqA x y))) :=
 jg (by rw [hE];exact Aa) fun w=>by rw [hE];exact w7 x y w
theorem Ci {E:Env} (hE:E.P=Tryz.prog) (x:Bs×Int) {u v:Operand}:bD E (do eqGuard .neq 66 u v (.agg (ao x)) (.agg (ao x));binOp .neq 66 (.agg (ao x)) (.agg (ao x))) (.bool false):=by
 have:=EL hE x x (u:=u) (v:=v)
 rwa [Db] at this
theorem pY {d:Nat} (x y:Ky×Int) (w:World):(Op.equalIn (d+1+1) 49 (.agg (ai x)) (.agg (ai y))).run Tryz.prog w=.ok (eqK x y) w:=by
 rw [run_equalIn_struct w (d+1) 49 _ _ (by simp only [Program.fieldsOf,Tryz.underlying49]) (by kernel_rfl)]
 rw [show (Tryz.prog.fieldsOf 49).toList=[⟨ "Currency",9,0,false,"","",0⟩,⟨ "Day",3,1,false,"","",16⟩,⟨ "Amount",3,2,false,"","",24⟩] from by simp only [Program.fieldsOf,Tryz.underlying49]]
 refine aU (by decide) (ar jd rfl rfl w) (ar jd rfl rfl w) (iN _ _ w) fun _=>?_
 refine aU (by decide) (ar ee rfl rfl w) (ar ee rfl rfl w) (cH _ Tryz.underlying3 _ _ w) fun _=>?_
 exact aU (by decide) (ar ee rfl rfl w) (ar ee rfl rfl w) (cH _ Tryz.underlying3 _ _ w) fun _=>jQ
theorem rc:Tryz.prog.eqGuardType Tryz.prog.depth 49=false:=by kernel_rfl
theorem Fd {E:Env} (hE:E.P=Tryz.prog) (x y:Ky×Int) {u v:Operand}:bD E (do eqGuard .eql 49 u v (.agg (ai x)) (.agg (ai y));binOp .eql 49 (.agg (ai x)) (.agg (ai y))) (.bool (eqK x y)) :=
 jh (by rw [hE];exact rc) fun w=>by rw [hE];exact pY x y w
theorem Cj {E:Env} (hE:E.P=Tryz.prog) (x:Ky×Int) {u v:Operand}:bD E (do eqGuard .neq 49 u v (.agg (ai x)) (.agg (ai x));binOp .neq 49 (.agg (ai x)) (.agg (ai x))) (.bool false):=by
 have:=jg (E:=E) (t:=49) (x:=u) (y:=v) (by rw [hE];exact rc) fun w=>by rw [hE];exact pY x x w
 rwa [vo] at this
theorem wJ {E:Env} (hE:E.P=Tryz.prog) (x:EC) {u v:Operand}:bD E (do eqGuard .neq 31 u v (.agg x.A) (.agg x.A);binOp .neq 31 (.agg x.A) (.agg x.A)) (.bool false):=by
 have:=zM hE x x (u:=u) (v:=v)
 rwa [EC.beq_self] at this
theorem EG (j:Nat):aZ 0 ((j:Nat):Int) ln.size=j*3:=by
 show aZ 0 ((j:Nat):Int) 3=j*3
 simp [aZ]
theorem wH (j:Nat):aZ 0 ((j:Nat):Int) rW.size=j*2:=by
 show aZ 0 ((j:Nat):Int) 2=j*2
 simp [aZ]
theorem ux (j:Nat):aZ 0 ((j:Nat):Int) dE.size=j*10:=by
 show aZ 0 ((j:Nat):Int) 10=j*10
 simp [aZ]
theorem xP {E:Env} (hE:E.P=Tryz.prog) {x y:Value} {C:List (Ky×Int)} {n:Nat} (hx:IsL x n) (hy:IsL y n) (hn:n=C.length) (hb:n<=1000000000000):OwnC E 55 [SV.c x,SV.c y] [(9520,Blk.own x 49 3 n (cat ai C)),(9521,Blk.own y 49 3 n (cat ai C))] (fun r U=>r=.bool true/\U=[(9520,Blk.own x 49 3 n (cat ai C)),(9521,Blk.own y 49 3 n (cat ai C))]):=by
 refine av [] af ah M8 E hE [SV.c x,SV.c y] [(9520,Blk.own x 49 3 n (cat ai C)),(9521,Blk.own y 49 3 n (cat ai C))] _ rfl rfl fun w X β hT=>?_
 have hE':(aR Tryz.prog tt Tryz.f55.ntmps w X (aA [(9520,Blk.own x 49 3 n (cat ai C)),(9521,Blk.own y 49 3 n (cat ai C))] β)).toEnv.P=Tryz.prog:=rfl
 obtain ⟨xa,xc,rfl⟩:=hx.len
 obtain ⟨ya,yc,rfl⟩:=hy.len
 refine ⟨_,fun w' _=>am Tryz.underlying38 w',_,fun w' _=>am Tryz.underlying38 w',?_⟩
 refine ⟨fun c=>absurd c (by simp),fun _=>?_⟩
 refine ⟨fun q f m=>∃ i:Nat,q=n - i/\i<=n/\f=[(0,SV.c (.slice xa n xc)),(1,SV.c (.slice ya n yc)),(5,SV.c (.int .i64 (i:Nat)))]/\m=[(9520,Blk.own (.slice xa n xc) 49 3 n (cat ai C)),(9521,Blk.own (.slice ya n yc) 49 3 n (cat ai C))],n,⟨_,_,⟨0,by omega,by omega,rfl,rfl⟩,⟨rfl,rfl,rfl,trivial⟩,⟨.inl rfl,.inl rfl,trivial⟩,rfl⟩,?_⟩
 rintro q f m ⟨i,rfl,hi,rfl,rfl⟩
 refine ⟨_,fun w' _=>am Tryz.underlying38 w',fun h=>?_,fun h=>?_⟩
 ·have h:i < n:=by have:=ab h;omega
  rcases hx with ⟨hs1,hs2⟩ | ⟨g0,c0,hs1⟩
  ·omega
  cases hs1
  rcases hy with ⟨hs1,hs2⟩ | ⟨g1,c1,hs1⟩
  ·omega
  cases hs1
  obtain ⟨y,hy⟩:∃ y,C[i]? = some y:=⟨_,List.getElem?_eq_getElem (by omega)⟩
  have L1:=bc aS hy
  have hsz:(cat ai C).size=n*3:=by rw [Go.SX.cat_size aS,hn]
  have N1:=fun (u v:Operand)=>Cj hE' y (u:=u) (v:=v)
  generalize hYA:ai y=YA at L1 N1
  have F1:Fits YA 3:=by rw [<- hYA];exact cv y
  refine ⟨by omega,by omega,.inr ⟨9520,g0,_,n,_,_,_,_,rfl,rfl,(by rw [EG,hsz];show i*3+3<=n*3;omega),YA,(by rw [EG];exact L1),?_⟩⟩
  refine ⟨by omega,by omega,.inr ⟨9521,g1,_,n,_,_,_,_,rfl,rfl,(by rw [EG,hsz];show i*3+3<=n*3;omega),YA,(by rw [EG];exact L1),?_⟩⟩
  refine ⟨_,N1 _ _,by kernel_rfl,nofun,fun _=>?_⟩
  exact ⟨n - (i+1),_,_,by omega,⟨i+1,rfl,by omega,rfl,rfl⟩,⟨rfl,rfl,ag (au (by omega)),trivial⟩,⟨.inl rfl,.inl rfl,trivial⟩,rfl⟩
 ·have h:i=n:=by have:=ae h;omega
  subst h
  exact ⟨[_,_],[],⟨rfl,rfl⟩,⟨.inl rfl,.inl rfl,trivial⟩,rfl⟩
theorem Ef {E:Env} (hE:E.P=Tryz.prog) {x y:Value} {C:List EC} {n:Nat} (hx:IsL x n) (hy:IsL y n) (hn:n=C.length) (hb:n<=1000000000000):OwnC E 35 [SV.c x,SV.c y] [(9522,Blk.own x 31 10 n (cat EC.A C)),(9523,Blk.own y 31 10 n (cat EC.A C))] (fun r U=>r=.bool true/\U=[(9522,Blk.own x 31 10 n (cat EC.A C)),(9523,Blk.own y 31 10 n (cat EC.A C))]):=by
 refine av [] af ah Nr E hE [SV.c x,SV.c y] [(9522,Blk.own x 31 10 n (cat EC.A C)),(9523,Blk.own y 31 10 n (cat EC.A C))] _ rfl rfl fun w X β hT=>?_
 have hE':(aR Tryz.prog tt Tryz.f35.ntmps w X (aA [(9522,Blk.own x 31 10 n (cat EC.A C)),(9523,Blk.own y 31 10 n (cat EC.A C))] β)).toEnv.P=Tryz.prog:=rfl
 obtain ⟨xa,xc,rfl⟩:=hx.len
 obtain ⟨ya,yc,rfl⟩:=hy.len
 refine ⟨_,fun w' _=>am Tryz.underlying26 w',_,fun w' _=>am Tryz.underlying26 w',?_⟩
 refine ⟨fun c=>absurd c (by simp),fun _=>?_⟩
 refine ⟨fun q f m=>∃ i:Nat,q=n - i/\i<=n/\f=[(0,SV.c (.slice xa n xc)),(1,SV.c (.slice ya n yc)),(5,SV.c (.int .i64 (i:Nat)))]/\m=[(9522,Blk.own (.slice xa n xc) 31 10 n (cat EC.A C)),(9523,Blk.own (.slice ya n yc) 31 10 n (cat EC.A C))],n,⟨_,_,⟨0,by omega,by omega,rfl,rfl⟩,⟨rfl,rfl,rfl,trivial⟩,⟨.inl rfl,.inl rfl,trivial⟩,rfl⟩,?_⟩
 rintro q f m ⟨i,rfl,hi,rfl,rfl⟩
 refine ⟨_,fun w' _=>am Tryz.underlying26 w',fun h=>?_,fun h=>?_⟩
 ·have h:i < n:=by have:=ab h;omega
  rcases hx with ⟨hs1,hs2⟩ | ⟨g0,c0,hs1⟩
  ·omega
  cases hs1
  rcases hy with ⟨hs1,hs2⟩ | ⟨g1,c1,hs1⟩
  ·omega
  cases hs1
  obtain ⟨y,hy⟩:∃ y,C[i]? = some y:=⟨_,List.getElem?_eq_getElem (by omega)⟩
  have L1:=bc EC.size hy
  have hsz:(cat EC.A C).size=n*10:=by rw [Go.SX.cat_size EC.size,hn]
  have N1:=fun (u v:Operand)=>wJ hE' y (u:=u) (v:=v)
  generalize hYA:y.A=YA at L1 N1
  have F1:Fits YA 10:=by rw [<- hYA];exact y.fits
  refine ⟨by omega,by omega,.inr ⟨9522,g0,_,n,_,_,_,_,rfl,rfl,(by rw [ux,hsz];show i*10+10<=n*10;omega),YA,(by rw [ux];exact L1),?_⟩⟩
  refine ⟨by omega,by omega,.inr ⟨9523,g1,_,n,_,_,_,_,rfl,rfl,(by rw [ux,hsz];show i*10+10<=n*10;omega),YA,(by rw [ux];exact L1),?_⟩⟩
  refine ⟨_,N1 _ _,by kernel_rfl,nofun,fun _=>?_⟩
  exact ⟨n - (i+1),_,_,by omega,⟨i+1,rfl,by omega,rfl,rfl⟩,⟨rfl,rfl,ag (au (by omega)),trivial⟩,⟨.inl rfl,.inl rfl,trivial⟩,rfl⟩
 ·have h:i=n:=by have:=ae h;omega
  subst h
  exact ⟨[_,_],[],⟨rfl,rfl⟩,⟨.inl rfl,.inl rfl,trivial⟩,rfl⟩
theorem GP {E:Env} (hE:E.P=Tryz.prog) {xh xc xp yh yc yp:Value} {g:Led} (hh:IsL xh g.h.length) (hc:IsL xc g.c.length) (hp:IsL xp g.p.length) (kh:IsL yh g.h.length) (kc:IsL yc g.c.length) (kp:IsL yp g.p.length) (hl:g.h.length<=10000000000/\g.c.length<=10000000000/\g.p.length<=10000000000):OwnC E 23 [SV.c (.agg #[xh,xc,xp]),SV.c (.agg #[yh,yc,yp])] [(9506,Blk.own xh 66 2 g.h.length (cat ao g.h)),(9507,Blk.own xc 49 3 g.c.length (cat ai g.c)),(9508,Blk.own xp 49 3 g.p.length (cat ai g.p)),(9516,Blk.own yh 66 2 g.h.length (cat ao g.h)),(9517,Blk.own yc 49 3 g.c.length (cat ai g.c)),(9518,Blk.own yp 49 3 g.p.length (cat ai g.p))] (fun r U=>r=.bool true/\U=[(9506,Blk.own xh 66 2 g.h.length (cat ao g.h)),(9507,Blk.own xc 49 3 g.c.length (cat ai g.c)),(9508,Blk.own xp 49 3 g.p.length (cat ai g.p)),(9516,Blk.own yh 66 2 g.h.length (cat ao g.h)),(9517,Blk.own yc 49 3 g.c.length (cat ai g.c)),(9518,Blk.own yp 49 3 g.p.length (cat ai g.p))]):=by
 refine av [] af ah Ny E hE [SV.c (.agg #[xh,xc,xp]),SV.c (.agg #[yh,yc,yp])] [(9506,Blk.own xh 66 2 g.h.length (cat ao g.h)),(9507,Blk.own xc 49 3 g.c.length (cat ai g.c)),(9508,Blk.own xp 49 3 g.p.length (cat ai g.p)),(9516,Blk.own yh 66 2 g.h.length (cat ao g.h)),(9517,Blk.own yc 49 3 g.c.length (cat ai g.c)),(9518,Blk.own yp 49 3 g.p.length (cat ai g.p))] _ rfl rfl fun w X β hT=>?_
 have hE':(aR Tryz.prog tt Tryz.f23.ntmps w X (aA [(9506,Blk.own xh 66 2 g.h.length (cat ao g.h)),(9507,Blk.own xc 49 3 g.c.length (cat ai g.c)),(9508,Blk.own xp 49 3 g.p.length (cat ai g.p)),(9516,Blk.own yh 66 2 g.h.length (cat ao g.h)),(9517,Blk.own yc 49 3 g.c.length (cat ai g.c)),(9518,Blk.own yp 49 3 g.p.length (cat ai g.p))] β)).toEnv.P=Tryz.prog:=rfl
 have BC:=xP hE' hc kc rfl (by omega)
 have BP:=xP hE' hp kp rfl (by omega)
 obtain ⟨xha,xhc,rfl⟩:=hh.len
 obtain ⟨yha,yhc,rfl⟩:=kh.len
 refine ⟨rfl,rfl,_,rfl,_,fun w' _=>am Tryz.underlying37 w',_,rfl,_,fun w' _=>am Tryz.underlying37 w',?_⟩
 refine ⟨fun c=>absurd c (by simp),fun _=>?_⟩
 refine ⟨fun q f m=>∃ i:Nat,q=g.h.length - i/\i<=g.h.length/\f=[(2,SV.ptr 2 0),(3,SV.ptr 3 0),(5,SV.c (.int .i64 (i:Nat)))]/\m=(2,Blk.row 40 3 #[.slice xha g.h.length xhc,xc,xp]) :: (3,Blk.row 40 3 #[.slice yha g.h.length yhc,yc,yp]) :: [(9506,Blk.own (.slice xha g.h.length xhc) 66 2 g.h.length (cat ao g.h)),(9507,Blk.own xc 49 3 g.c.length (cat ai g.c)),(9508,Blk.own xp 49 3 g.p.length (cat ai g.p)),(9516,Blk.own (.slice yha g.h.length yhc) 66 2 g.h.length (cat ao g.h)),(9517,Blk.own yc 49 3 g.c.length (cat ai g.c)),(9518,Blk.own yp 49 3 g.p.length (cat ai g.p))],g.h.length,⟨_,_,⟨0,by omega,by omega,rfl,rfl⟩,⟨rfl,rfl,rfl,trivial⟩,⟨rfl,rfl,.inl rfl,.inl rfl,.inl rfl,.inl rfl,.inl rfl,.inl rfl,trivial⟩,rfl⟩,?_⟩
 rintro q f m ⟨i,rfl,hi,rfl,rfl⟩
 refine ⟨_,rfl,_,fun w' _=>am Tryz.underlying37 w',fun h=>?_,fun h=>?_⟩
 ·have h:i < g.h.length:=by have:=ab h;omega
  rcases hh with ⟨hs1,hs2⟩ | ⟨g0,c0,hs1⟩
  ·omega
  cases hs1
  rcases kh with ⟨hs1,hs2⟩ | ⟨g1,c1,hs1⟩
  ·omega
  cases hs1
  obtain ⟨y,hy⟩:∃ y,g.h[i]? = some y:=⟨_,List.getElem?_eq_getElem (by omega)⟩
  have L1:=bc aM hy
  have hsz:(cat ao g.h).size=g.h.length*2:=Go.SX.cat_size aM _
  have N1:=fun (u v:Operand)=>Ci hE' y (u:=u) (v:=v)
  generalize hYA:ao y=YA at L1 N1
  refine ⟨_,rfl,by omega,by omega,.inr ⟨9506,g0,_,g.h.length,_,_,_,_,rfl,rfl,(by rw [wH,hsz];show i*2+2<=g.h.length*2;omega),YA,(by rw [wH];exact L1),?_⟩⟩
  refine ⟨_,rfl,by omega,by omega,.inr ⟨9516,g1,_,g.h.length,_,_,_,_,rfl,rfl,(by rw [wH,hsz];show i*2+2<=g.h.length*2;omega),YA,(by rw [wH];exact L1),?_⟩⟩
  refine ⟨_,N1 _ _,by kernel_rfl,nofun,fun _=>?_⟩
  exact ⟨g.h.length - (i+1),_,_,by omega,⟨i+1,rfl,by omega,rfl,rfl⟩,⟨rfl,rfl,ag (au (by omega)),trivial⟩,⟨rfl,rfl,.inl rfl,.inl rfl,.inl rfl,.inl rfl,.inl rfl,.inl rfl,trivial⟩,rfl⟩
 ·have h:i=g.h.length:=by have:=ae h;omega
  subst h
  refine ⟨_,rfl,_,rfl,.inr (.inr (.inl ⟨[(9520,9507),(9521,9517)],[_,_],[_,_],_,[_,_],BC,rfl,⟨.inl rfl,.inl rfl,trivial⟩,rfl,rfl,?_⟩))⟩
  refine ⟨fun _=>?_,nofun⟩
  refine ⟨_,rfl,_,rfl,.inr (.inr (.inl ⟨[(9520,9508),(9521,9518)],[_,_],[_,_],_,[_,_],BP,rfl,⟨.inl rfl,.inl rfl,trivial⟩,rfl,rfl,?_⟩))⟩
  exact ⟨[_,_,_,_,_,_],[],⟨rfl,rfl⟩,⟨.inl rfl,.inl rfl,.inl rfl,.inl rfl,.inl rfl,.inl rfl,trivial⟩,rfl⟩
theorem x7 (j:Nat):aZ 0 ((j:Nat):Int) eQ.size=j*76:=by
 show aZ 0 ((j:Nat):Int) 76=j*76
 simp [aZ]
theorem Hm {E:Env} (hE:E.P=Tryz.prog) {va vx:Value} {al:List AC} {xs:List EC} {na nx:Nat} {day:Int} (ha:IsL va na) (hx:IsL vx nx) (hna:na=al.length) (hnx:nx=xs.length) (hb:na<=100000000000/\nx<=100000000000):OwnC E 68 [SV.c va,SV.c vx,SV.c (.int .i64 day)] [(9630,Blk.own va 61 76 na (cat AC.A al)),(9631,Blk.own vx 31 10 nx (cat EC.A xs))] (fun r U=>IsL r (tk al xs day).length/\U=[(9630,Blk.own va 61 76 na (cat AC.A al)),(9631,Blk.own vx 31 10 nx (cat EC.A xs)),(9620,Blk.own r 3 1 (tk al xs day).length (bd (tk al xs day)))]):=by
 refine av [6] af ah MZ E hE [SV.c va,SV.c vx,SV.c (.int .i64 day)] [(9630,Blk.own va 61 76 na (cat AC.A al)),(9631,Blk.own vx 31 10 nx (cat EC.A xs))] _ rfl rfl fun w X β hT=>?_
 have hE':(aR Tryz.prog tt Tryz.f68.ntmps w X (aA [(9630,Blk.own va 61 76 na (cat AC.A al)),(9631,Blk.own vx 31 10 nx (cat EC.A xs))] β) [6]).toEnv.P=Tryz.prog:=rfl
 obtain ⟨aa,ac,rfl⟩:=ha.len
 obtain ⟨xa,xc,rfl⟩:=hx.len
 refine ⟨fun f m=>∃ y,IsL y (dy day [] (al.map AC.day)).length/\(∃ a c,y=.slice a (dy day [] (al.map AC.day)).length c/\(dy day [] (al.map AC.day)).length<=c)/\f=[(1,SV.c (.slice xa nx xc)),(2,SV.c (.int .i64 day)),(7,SV.c y)]/\m=[(9630,Blk.own (.slice aa na ac) 61 76 na (cat AC.A al)),(9631,Blk.own (.slice xa nx xc) 31 10 nx (cat EC.A xs)),(9620,Blk.own y 3 1 (dy day [] (al.map AC.day)).length (bd (dy day [] (al.map AC.day))))],?_,?_⟩
 ·refine ⟨fun q f m=>∃ (i:Nat) (y:Value) (L:List Int),q=na - i/\i<=na/\L=dy day [] ((al.map AC.day).take i)/\IsL y L.length/\(∃ a c,y=.slice a L.length c/\L.length<=c)/\f=[(0,SV.c (.slice aa na ac)),(1,SV.c (.slice xa nx xc)),(2,SV.c (.int .i64 day)),(7,SV.c y),(8,SV.c (.int .i64 (i:Nat)))]/\m=[(9630,Blk.own (.slice aa na ac) 61 76 na (cat AC.A al)),(9631,Blk.own (.slice xa nx xc) 31 10 nx (cat EC.A xs)),(9620,Blk.own y 3 1 L.length (bd L))],na,⟨_,_,⟨0,.slice none 0 0,[],by omega,by omega,rfl,.nil,⟨none,0,rfl,by decide⟩,rfl,rfl⟩,⟨rfl,rfl,rfl,rfl,rfl,trivial⟩,⟨.inl rfl,.inl rfl,.inr ⟨rfl,rfl,rfl⟩,trivial⟩,rfl⟩,?_⟩
  rintro q f m ⟨i,y,L,rfl,hi,hL,hy,hk,rfl,rfl⟩
  refine ⟨_,fun w' _=>am Tryz.underlying51 w',fun c=>?_,fun c=>?_⟩
  ·have c:i < na:=by have:=ab c;omega
   rcases ha with ⟨hs1,hs2⟩ | ⟨g0,c0,hs1⟩
   ·omega
   cases hs1
   obtain ⟨z,hz⟩:∃ z,al[i]? = some z:=⟨_,List.getElem?_eq_getElem (by omega)⟩
   have LA:(cat AC.A al)[i*76+4]? = some (.int .i64 z.day):=(bN AC.size al i z 4 hz (by decide)).trans z.g4
   have hd:(al.map AC.day)[i]? = some z.day:=by rw [List.getElem?_map,hz];rfl
   have hlen:L.length<=200000000000:=by
    have:=jS day ((al.map AC.day).take i) []
    rw [hL]
    simp only [List.length_take,List.length_map,List.length_nil] at this
    omega
   have IR:=OwnC.caps (F0 hE' (d:=z.day) (most:=day) hy hk rfl (by omega))
   refine ⟨by omega,by omega,.inr ⟨9630,g0,_,na,_,_,_,_,rfl,rfl,.int .i64 z.day,(by rw [x7];exact LA),?_⟩⟩
   refine .inr (.inr (.inr ⟨[],[],[_,_,_],[_],_,IR,rfl,⟨.inl rfl,trivial⟩,rfl,trivial,?_⟩))
   rintro r U ⟨⟨hr,rfl⟩,hcap⟩
   have hcap:=hcap 9620 _ _ _ _ _ rfl
   refine ⟨by kernel_rfl,?_⟩
   exact ⟨na - (i+1),_,_,by omega,⟨i+1,r,ef L z.day day,rfl,by omega,by rw [Av hd,hL],hr,hcap,rfl,rfl⟩,⟨rfl,rfl,rfl,rfl,ag (au (by omega)),trivial⟩,⟨.inl rfl,.inl rfl,.inl rfl,trivial⟩,rfl⟩
  ·have c:i=na:=by have:=ae c;omega
   have hLL:L=dy day [] (al.map AC.day):=by rw [hL,List.take_of_length_le (by rw [List.length_map];omega)]
   rw [hLL] at hy hk
   exact ⟨_,_,⟨y,hy,hk,rfl,rfl⟩,⟨rfl,rfl,rfl,trivial⟩,⟨.inl rfl,.inl rfl,.inl (by rw [hLL];rfl),trivial⟩,rfl⟩
 ·rintro f1 m1 ⟨y0,hy0,hk0,rfl,rfl⟩
  refine ⟨fun q f m=>∃ (i:Nat) (y:Value) (L:List Int),q=nx - i/\i<=nx/\L=dy day [] (al.map AC.day++(xs.map EC.day).take i)/\IsL y L.length/\(∃ a c,y=.slice a L.length c/\L.length<=c)/\f=[(1,SV.c (.slice xa nx xc)),(2,SV.c (.int .i64 day)),(7,SV.c y),(9,SV.c (.int .i64 (i:Nat)))]/\m=[(9630,Blk.own (.slice aa na ac) 61 76 na (cat AC.A al)),(9631,Blk.own (.slice xa nx xc) 31 10 nx (cat EC.A xs)),(9620,Blk.own y 3 1 L.length (bd L))],nx,⟨_,_,⟨0,y0,dy day [] (al.map AC.day),by omega,by omega,by rw [List.take_zero,List.append_nil],hy0,hk0,rfl,rfl⟩,⟨rfl,rfl,rfl,rfl,trivial⟩,⟨.inl rfl,.inl rfl,.inl rfl,trivial⟩,rfl⟩,?_⟩
  rintro q f m ⟨i,y,L,rfl,hi,hL,hy,hk,rfl,rfl⟩
  refine ⟨_,fun w' _=>am Tryz.underlying26 w',fun c=>?_,fun c=>?_⟩
  ·have c:i < nx:=by have:=ab c;omega
   rcases hx with ⟨hs1,hs2⟩ | ⟨g0,c0,hs1⟩
   ·omega
   cases hs1
   obtain ⟨z,hz⟩:∃ z,xs[i]? = some z:=⟨_,List.getElem?_eq_getElem (by omega)⟩
   have LA:(cat EC.A xs)[i*10+2]? = some (.int .i64 z.day):=(bN EC.size xs i z 2 hz (by decide)).trans z.g2
   have hd:(xs.map EC.day)[i]? = some z.day:=by rw [List.getElem?_map,hz];rfl
   have hlen:L.length<=200000000000:=by
    have:=jS day (al.map AC.day++(xs.map EC.day).take i) []
    rw [hL]
    simp only [List.length_append,List.length_take,List.length_map,List.length_nil] at this
    omega
   have IR:=OwnC.caps (F0 hE' (d:=z.day) (most:=day) hy hk rfl (by omega))
   refine ⟨by omega,by omega,.inr ⟨9631,g0,_,nx,_,_,_,_,rfl,rfl,.int .i64 z.day,(by rw [ux];exact LA),?_⟩⟩
   refine .inr (.inr (.inr ⟨[],[],[_,_,_],[_],_,IR,rfl,⟨.inl rfl,trivial⟩,rfl,trivial,?_⟩))
   rintro r U ⟨⟨hr,rfl⟩,hcap⟩
   have hcap:=hcap 9620 _ _ _ _ _ rfl
   refine ⟨by kernel_rfl,?_⟩
   exact ⟨nx - (i+1),_,_,by omega,⟨i+1,r,ef L z.day day,rfl,by omega,by rw [fR hd,<- List.append_assoc,Aw,<- hL];rfl,hr,hcap,rfl,rfl⟩,⟨rfl,rfl,rfl,ag (au (by omega)),trivial⟩,⟨.inl rfl,.inl rfl,.inl rfl,trivial⟩,rfl⟩
  ·have c:i=nx:=by have:=ae c;omega
   have hLL:L=tk al xs day:=by rw [hL,List.take_of_length_le (by rw [List.length_map];omega)];rfl
   clear hL
   subst hLL
   exact ⟨[_,_,_],[],⟨hy,rfl⟩,⟨.inl rfl,.inl rfl,.inl rfl,trivial⟩,rfl⟩
def fv (g:Led):Led×Int:=pfL ⟨nzf g.h,nzf g.c,nzf g.p⟩
def FinQ (g:Led) (vh vc vp:Value) (r:Value) (U:az):Prop:=∃ xh xc xp,IsL xh (fv g).1.h.length/\IsL xc (fv g).1.c.length/\IsL xp (fv g).1.p.length/\r=.tuple #[.agg #[xh,xc,xp],.int .i64 (fv g).2]/\U=[(9701,Blk.own vh 66 2 g.h.length (cat ao g.h)),(9702,Blk.own vc 49 3 g.c.length (cat ai g.c)),(9703,Blk.own vp 49 3 g.p.length (cat ai g.p)),(9506,Blk.own xh 66 2 (fv g).1.h.length (cat ao (fv g).1.h)),(9507,Blk.own xc 49 3 (fv g).1.c.length (cat ai (fv g).1.c)),(9508,Blk.own xp 49 3 (fv g).1.p.length (cat ai (fv g).1.p))]
theorem FinQ.bad {g:Led} {vh vc vp:Value} {e:Int} (h:fv g=(.zero,e)):FinQ g vh vc vp (.tuple #[.agg #[.slice none 0 0,.slice none 0 0,.slice none 0 0],.int .i64 e]) [(9701,Blk.own vh 66 2 g.h.length (cat ao g.h)),(9702,Blk.own vc 49 3 g.c.length (cat ai g.c)),(9703,Blk.own vp 49 3 g.p.length (cat ai g.p)),(9506,Blk.own (.slice none 0 0) 66 2 0 #[]),(9507,Blk.own (.slice none 0 0) 49 3 0 #[]),(9508,Blk.own (.slice none 0 0) 49 3 0 #[])]:=by
 refine ⟨.slice none 0 0,.slice none 0 0,.slice none 0 0,by rw [h];exact .nil,by rw [h];exact .nil,by rw [h];exact .nil,by rw [h],by rw [h];rfl⟩
theorem CZ {E:Env} (hE:E.P=Tryz.prog) {g:Led} {vh vc vp:Value} (hh:IsL vh g.h.length) (_hc:IsL vc g.c.length) (_hp:IsL vp g.p.length) (hl:g.h.length<=10000000000/\g.c.length<=10000000000/\g.p.length<=10000000000):OwnC E 71 [SV.c (.agg #[vh,vc,vp])] [(9701,Blk.own vh 66 2 g.h.length (cat ao g.h)),(9702,Blk.own vc 49 3 g.c.length (cat ai g.c)),(9703,Blk.own vp 49 3 g.p.length (cat ai g.p))] (FinQ g vh vc vp):=by
 refine av [7] af ah MW E hE [SV.c (.agg #[vh,vc,vp])] [(9701,Blk.own vh 66 2 g.h.length (cat ao g.h)),(9702,Blk.own vc 49 3 g.c.length (cat ai g.c)),(9703,Blk.own vp 49 3 g.p.length (cat ai g.p))] _ rfl rfl fun w X β hT=>?_
 have hE':(aR Tryz.prog tt Tryz.f71.ntmps w X (aA [(9701,Blk.own vh 66 2 g.h.length (cat ao g.h)),(9702,Blk.own vc 49 3 g.c.length (cat ai g.c)),(9703,Blk.own vp 49 3 g.p.length (cat ai g.p))] β) [7]).toEnv.P=Tryz.prog:=rfl
 obtain ⟨ha,hcap,rfl⟩:=hh.len
 refine ⟨rfl,?_⟩
 refine ⟨fun f m=>∃ (s:Value) (k:Nat),k=(nzf g.h).length/\IsL s k/\f=[(1,SV.ptr 1 0),(2,SV.ptr 2 0),(4,SV.ptr 4 0)]/\m=[(1,Blk.row 40 3 #[.slice ha g.h.length hcap,vc,vp]),(2,Blk.row 40 3 #[.slice none 0 0,.slice none 0 0,.slice none 0 0]),(4,Blk.row 40 3 #[s,.slice none 0 0,.slice none 0 0]),(9506,Blk.own s 66 2 k (cat ao (nzf g.h))),(9701,Blk.own (.slice ha g.h.length hcap) 66 2 g.h.length (cat ao g.h)),(9702,Blk.own vc 49 3 g.c.length (cat ai g.c)),(9703,Blk.own vp 49 3 g.p.length (cat ai g.p))],?_,?_⟩
 ·refine ⟨fun q f m=>∃ (i k:Nat) (s:Value),q=g.h.length - i/\i<=g.h.length/\k=(nzf (g.h.take i)).length/\IsL s k/\f=[(1,SV.ptr 1 0),(2,SV.ptr 2 0),(4,SV.ptr 4 0),(5,SV.c (.int .i64 (i:Nat)))]/\m=[(1,Blk.row 40 3 #[.slice ha g.h.length hcap,vc,vp]),(2,Blk.row 40 3 #[.slice none 0 0,.slice none 0 0,.slice none 0 0]),(4,Blk.row 40 3 #[s,.slice none 0 0,.slice none 0 0]),(9506,Blk.own s 66 2 k (cat ao (nzf (g.h.take i)))),(9701,Blk.own (.slice ha g.h.length hcap) 66 2 g.h.length (cat ao g.h)),(9702,Blk.own vc 49 3 g.c.length (cat ai g.c)),(9703,Blk.own vp 49 3 g.p.length (cat ai g.p))],g.h.length,⟨_,_,⟨0,0,.slice none 0 0,by omega,by omega,rfl,.nil,rfl,rfl⟩,⟨rfl,rfl,rfl,rfl,trivial⟩,⟨rfl,rfl,rfl,.inr ⟨rfl,rfl,rfl⟩,.inl rfl,.inl rfl,.inl rfl,trivial⟩,rfl⟩,?_⟩
  rintro q f m ⟨i,k,s,rfl,hi,hk,hs,rfl,rfl⟩
  refine ⟨_,rfl,_,fun w' _=>am Tryz.underlying37 w',fun c=>?_,fun c=>?_⟩
  ·have c:i < g.h.length:=by have:=ab c;omega
   rcases hh with ⟨hs1,hs2⟩ | ⟨g0,c0,hs1⟩
   ·omega
   cases hs1
   obtain ⟨y,hy⟩:∃ y,g.h[i]? = some y:=⟨_,List.getElem?_eq_getElem c⟩
   have L1:=bc aM hy
   have hsz:(cat ao g.h).size=g.h.length*2:=Go.SX.cat_size aM _
   have LQ:(cat ao g.h)[i*2+1]? = some (.int .i64 y.2):=bN aM g.h i y 1 hy (by decide)
   have X1:(ao y).extract 0 (0+1*2)=ao y:=by simp [ao]
   have hNT:=uz hy
   have hkl:=EJ g.h i
   obtain ⟨q,hq,hqb⟩:=mc
   refine ⟨_,rfl,by omega,by omega,.inr ⟨9701,g0,_,g.h.length,_,_,_,_,rfl,rfl,.int .i64 y.2,(by rw [wH];exact LQ),?_⟩⟩
   refine ⟨fun c1=>?_,fun c1=>?_⟩
   ·have c1:(y.2 != 0)=true:=c1
    have c1:y.2≠0:=by simpa using c1
    rw [if_neg c1] at hNT
    refine ⟨_,rfl,_,rfl,by omega,by omega,.inr ⟨9701,g0,_,g.h.length,_,_,_,_,rfl,rfl,(by rw [wH,hsz];show i*2+2<=g.h.length*2;omega),ao y,(by rw [wH];exact L1),?_⟩⟩
    refine .inl ⟨by decide,by decide,_,eZ y,rfl,by decide,9506,k,_,.inl rfl,by decide,(bW y).one,rfl,_,X1,?_⟩
    refine ⟨by omega,by unfold maxLen;omega,⟨q,hq,by rw [hqb];omega⟩,by change _=true;kernel_rfl,fun g2 cap2=>?_⟩
    refine ⟨by decide,rfl,#[.slice (some ⟨g2,0,none⟩) (k+1) cap2,.slice none 0 0,.slice none 0 0],rfl,by kernel_rfl,?_⟩
    exact ⟨g.h.length - (i+1),_,_,by omega,⟨i+1,k+1,.slice (some ⟨g2,0,none⟩) (k+1) cap2,rfl,by omega,by rw [hNT,List.length_append,<- hk];rfl,.some,rfl,rfl⟩,⟨rfl,rfl,rfl,ag (au (by omega)),trivial⟩,⟨rfl,rfl,rfl,.inl (aC (by rw [hNT,vJ])),.inl rfl,.inl rfl,.inl rfl,trivial⟩,rfl⟩
   ·have c1:(y.2 != 0)=false:=c1
    have c1:y.2=0:=by simpa using c1
    rw [if_pos c1] at hNT
    exact ⟨g.h.length - (i+1),_,_,by omega,⟨i+1,k,s,rfl,by omega,by rw [hNT];exact hk,hs,rfl,rfl⟩,⟨rfl,rfl,rfl,ag (au (by omega)),trivial⟩,⟨rfl,rfl,rfl,.inl (by rw [hNT];rfl),.inl rfl,.inl rfl,.inl rfl,trivial⟩,rfl⟩
  ·have c:i=g.h.length:=by have:=ae c;omega
   have ht:g.h.take i=g.h:=List.take_of_length_le (by omega)
   rw [ht] at hk
   exact ⟨_,_,⟨s,k,hk,hs,rfl,rfl⟩,⟨rfl,rfl,rfl,trivial⟩,⟨rfl,rfl,rfl,.inl (by rw [ht];rfl),.inl rfl,.inl rfl,.inl rfl,trivial⟩,rfl⟩
 ·rintro f1 m1 ⟨s,k,hk,hs,rfl,rfl⟩
  have BC:=DD hE' (x:=vc) (C:=g.c) rfl (by omega)
  have BP:=DD hE' (x:=vp) (C:=g.p) rfl (by omega)
  refine ⟨_,rfl,?_⟩
  refine .inr (.inr (.inr ⟨[(9611,9702),(9602,9507)],[9507],[_],[_],_,BC,rfl,⟨.inl rfl,trivial⟩,rfl,trivial,?_⟩))
  rintro r U ⟨xc,nc,hnc,hxc,rfl,rfl⟩
  refine ⟨by kernel_rfl,?_⟩
  obtain ⟨sa,sc,rfl⟩:=hs.len
  obtain ⟨xca,xcc,rfl⟩:=hxc.len
  refine ⟨by decide,bg hxc,#[.slice sa k sc,.slice xca nc xcc,.slice none 0 0],rfl,?_⟩
  refine ⟨_,rfl,?_⟩
  refine .inr (.inr (.inr ⟨[(9611,9703),(9602,9508)],[9508],[_],[_],_,BP,rfl,⟨.inl rfl,trivial⟩,rfl,trivial,?_⟩))
  rintro r U ⟨xp,np,hnp,hxp,rfl,rfl⟩
  refine ⟨by kernel_rfl,?_⟩
  obtain ⟨xpa,xpc,rfl⟩:=hxp.len
  refine ⟨by decide,bg hxp,#[.slice sa k sc,.slice xca nc xcc,.slice xpa np xpc],rfl,?_⟩
  have hmE:∀ b:Bool,(c9 (nzf g.c) && c9 (nzf g.p))=b->¬ ((nzf g.h).length > 64\/(nzf g.c).length > 8)->mq ⟨nzf g.h,nzf g.c,nzf g.p⟩=if b then 0 else 33:=fun b hb hm=>by
   rw [<- hb];unfold mq;rw [if_neg hm];rfl
  have bad1:(nzf g.h).length > 64\/(nzf g.c).length > 8->fv g=(.zero,123):=fun h=>by
   have:mq ⟨nzf g.h,nzf g.c,nzf g.p⟩=123:=by unfold mq;rw [if_pos h]
   unfold fv pfL;rw [this];rfl
  refine ⟨_,rfl,_,fun w' _=>am Tryz.underlying37 w',?_⟩
  refine ⟨fun c=>?_,fun c=>?_⟩
  ·have c:¬ k > 64:=by have:=ae (show decide (((k:Nat):Int) > 64)=false from c);omega
   refine ⟨_,rfl,_,fun w' _=>am Tryz.underlying38 w',fun c2=>?_,fun c2=>?_⟩
   ·have c2:nc > 8:=by have:=ab (show decide (((nc:Nat):Int) > 8)=true from c2);omega
    refine ⟨_,rfl,bu,?_⟩
    exact ⟨_,[],FinQ.bad (bad1 (.inr (by omega))),⟨.inl rfl,.inl rfl,.inl rfl,.inr ⟨rfl,rfl,rfl⟩,.inr ⟨rfl,rfl,rfl⟩,.inr ⟨rfl,rfl,rfl⟩,trivial⟩,rfl⟩
   ·have c2:¬ nc > 8:=by have:=ae (show decide (((nc:Nat):Int) > 8)=false from c2);omega
    have hmE:=fun b hb=>hmE b hb (by omega)
    have bad2:(c9 (nzf g.c) && c9 (nzf g.p))=false->fv g=(.zero,33):=fun h=>by
     unfold fv pfL;rw [hmE false h];rfl
    refine ⟨fun c3=>?_,fun c3=>?_⟩
    ·have c3:(!c9 (nzf g.c))=false:=c3
     have c3:c9 (nzf g.c)=true:=by simpa using c3
     refine ⟨fun c4=>?_,fun c4=>?_⟩
     ·have c4:(!c9 (nzf g.p))=true:=c4
      have c4:c9 (nzf g.p)=false:=by simpa using c4
      refine ⟨_,rfl,bu,?_⟩
      exact ⟨_,[],FinQ.bad (bad2 (by rw [c4,Bool.and_false])),⟨.inl rfl,.inl rfl,.inl rfl,.inr ⟨rfl,rfl,rfl⟩,.inr ⟨rfl,rfl,rfl⟩,.inr ⟨rfl,rfl,rfl⟩,trivial⟩,rfl⟩
     ·have c4:(!c9 (nzf g.p))=false:=c4
      have c4:c9 (nzf g.p)=true:=by simpa using c4
      have hF:fv g=(⟨nzf g.h,nzf g.c,nzf g.p⟩,0):=by
       unfold fv pfL;rw [hmE true (by rw [c3,c4];rfl)];rfl
      have Q:FinQ g (.slice ha g.h.length hcap) vc vp (.tuple #[.agg #[.slice sa k sc,.slice xca nc xcc,.slice xpa np xpc],.int .i64 0]) [(9701,Blk.own (.slice ha g.h.length hcap) 66 2 g.h.length (cat ao g.h)),(9702,Blk.own vc 49 3 g.c.length (cat ai g.c)),(9703,Blk.own vp 49 3 g.p.length (cat ai g.p)),(9506,Blk.own (.slice sa k sc) 66 2 k (cat ao (nzf g.h))),(9507,Blk.own (.slice xca nc xcc) 49 3 nc (cat ai (nzf g.c))),(9508,Blk.own (.slice xpa np xpc) 49 3 np (cat ai (nzf g.p)))]:=⟨_,_,_,by rw [hF];show IsL _ (nzf g.h).length;rw [<- hk];exact hs,by rw [hF];show IsL _ (nzf g.c).length;rw [<- hnc];exact hxc,by rw [hF];show IsL _ (nzf g.p).length;rw [<- hnp];exact hxp,by rw [hF],by rw [hF,hk,hnc,hnp]⟩
      exact ⟨mo rfl rfl rfl,_,[],Q,⟨.inl rfl,.inl rfl,.inl rfl,.inl rfl,.inl rfl,.inl rfl,trivial⟩,rfl⟩
    ·have c3:(!c9 (nzf g.c))=true:=by simpa using c3
     have c3:c9 (nzf g.c)=false:=by simpa using c3
     refine ⟨fun _=>?_,nofun⟩
     refine ⟨_,rfl,bu,?_⟩
     exact ⟨_,[],FinQ.bad (bad2 (by rw [c3,Bool.false_and])),⟨.inl rfl,.inl rfl,.inl rfl,.inr ⟨rfl,rfl,rfl⟩,.inr ⟨rfl,rfl,rfl⟩,.inr ⟨rfl,rfl,rfl⟩,trivial⟩,rfl⟩
  ·have c:k > 64:=by have:=ab (show decide (((k:Nat):Int) > 64)=true by simpa using c);omega
   refine ⟨fun _=>?_,nofun⟩
   refine ⟨_,rfl,bu,?_⟩
   exact ⟨_,[],FinQ.bad (bad1 (.inl (by omega))),⟨.inl rfl,.inl rfl,.inl rfl,.inr ⟨rfl,rfl,rfl⟩,.inr ⟨rfl,rfl,rfl⟩,.inr ⟨rfl,rfl,rfl⟩,trivial⟩,rfl⟩
theorem Lz {E:Env} (hE:E.P=Tryz.prog) {g:Led} {vh vc vp:Value} (hh:IsL vh g.h.length) (hc:IsL vc g.c.length) (hp:IsL vp g.p.length) (hl:g.h.length<=10000000000/\g.c.length<=10000000000/\g.p.length<=10000000000) {a:AC} (ha:a.In):OwnC E 69 [SV.ptr 9700 0,SV.c (.agg a.A)] [(9701,Blk.own vh 66 2 g.h.length (cat ao g.h)),(9702,Blk.own vc 49 3 g.c.length (cat ai g.c)),(9703,Blk.own vp 49 3 g.p.length (cat ai g.p)),(9700,Blk.row 40 3 #[vh,vc,vp])] (LE (n9 g a)):=by
 refine av [] af ah MY E hE [SV.ptr 9700 0,SV.c (.agg a.A)] [(9701,Blk.own vh 66 2 g.h.length (cat ao g.h)),(9702,Blk.own vc 49 3 g.c.length (cat ai g.c)),(9703,Blk.own vp 49 3 g.p.length (cat ai g.p)),(9700,Blk.row 40 3 #[vh,vc,vp])] _ rfl rfl fun w X β hT=>?_
 have hE':(aR Tryz.prog tt Tryz.f69.ntmps w X (aA [(9701,Blk.own vh 66 2 g.h.length (cat ao g.h)),(9702,Blk.own vc 49 3 g.c.length (cat ai g.c)),(9703,Blk.own vp 49 3 g.p.length (cat ai g.p)),(9700,Blk.row 40 3 #[vh,vc,vp])] β)).toEnv.P=Tryz.prog:=rfl
 have HO:=sG hE' (x:=vh) (vc:=vc) (vp:=vp) (H:=g.h) (k:=a.ins) rfl (by omega)
 have A0:=a.size
 have AF:=a.fits
 have AG0:=a.g0
 have A2:=a.g2
 have A3:=a.g3
 have A8:=a.g73
 have AZ:=FB ha (ay g.h a.ins)
 generalize a.A=AA at A0 AF AG0 A2 A3 A8 AZ ⊢
 refine ⟨A0,?_⟩
 refine ⟨_,A2,?_⟩
 refine .inr (.inr (.inl ⟨[(9610,9701)],[_,_],[_],_,[_],HO,rfl,⟨.inl rfl,trivial⟩,by kernel_rfl,by kernel_rfl,?_⟩))
 refine .inl ⟨_,AZ,(aF a (ay g.h a.ins)).1.fits,?_⟩
 have hR:(aF a (ay g.h a.ins)).2=0->n9 g a=if a.kind=3 then (if w64 ((aF a (ay g.h a.ins)).1.qty+ay (dt g.h a.ins 0) a.into) > 1000000000000000 then .error 171 else .ok ⟨dt (dt g.h a.ins 0) (aF a (ay g.h a.ins)).1.ins (w64 ((aF a (ay g.h a.ins)).1.qty+ay (dt g.h a.ins 0) a.into)),cN g.c (a.cur,0) (aF a (ay g.h a.ins)).1.cash,g.p⟩) else .ok ⟨dt g.h (aF a (ay g.h a.ins)).1.ins (aF a (ay g.h a.ins)).1.qty,cN g.c (a.cur,0) (aF a (ay g.h a.ins)).1.cash,g.p⟩:=fun h=>by unfold n9;rw [if_neg (fun h'=>h' h)]
 refine ⟨by kernel_rfl,fun c=>?_,fun c=>?_⟩
 ·have c:((aF a (ay g.h a.ins)).2 != 0)=true:=c
  have c:(aF a (ay g.h a.ins)).2≠0:=by simpa using c
  have eR:n9 g a=.error (aF a (ay g.h a.ins)).2:=by unfold n9;rw [if_pos c]
  rw [eR]
  exact ⟨[(9701,Blk.own vh 66 2 g.h.length (cat ao g.h)),(9702,Blk.own vc 49 3 g.c.length (cat ai g.c)),(9703,Blk.own vp 49 3 g.p.length (cat ai g.p)),(9700,Blk.row 40 3 #[vh,vc,vp])],[],⟨g,vh,vc,vp,hh,hc,hp,rfl,rfl,c⟩,⟨.inl rfl,.inl rfl,.inl rfl,rfl,trivial⟩,rfl⟩
 have c:((aF a (ay g.h a.ins)).2 != 0)=false:=c
 have c:(aF a (ay g.h a.ins)).2=0:=by simpa using c
 have hR:=hR c
 clear AZ c
 generalize (aF a (ay g.h a.ins)).1=x at hR ⊢
 refine ⟨_,AG0,fun k1=>?_,fun k1=>?_⟩
 ·have k1:(a.kind == 3)=true:=k1
  have k1:a.kind=3:=by simpa using k1
  rw [if_pos k1] at hR
  have TO:=si hE' (x:=vh) (H:=g.h) (k:=a.ins) (m:=0) rfl (by omega)
  have hl1:=jl g.h a.ins 0
  refine ⟨_,rfl,_,A2,?_⟩
  refine .inr (.inr (.inr ⟨[(9610,9701)],[9600],[_,_,_],[_],_,TO,rfl,⟨.inl rfl,trivial⟩,by kernel_rfl,(by change _=true;kernel_rfl),?_⟩))
  rintro r U ⟨hv1,rfl⟩
  generalize dt g.h a.ins 0=H1 at hv1 hR hl1 ⊢
  have HO2:=sG hE' (x:=r) (vc:=vc) (vp:=vp) (H:=H1) (k:=a.into) rfl (by omega)
  obtain ⟨ya,yc,rfl⟩:=hv1.len
  refine ⟨by kernel_rfl,by decide,rfl,#[.slice ya H1.length yc,vc,vp],rfl,by kernel_rfl,?_⟩
  refine ⟨_,rfl,_,A3,?_⟩
  refine .inr (.inr (.inl ⟨[(9610,9600)],[_,_],[_],_,[_],HO2,rfl,⟨.inl rfl,trivial⟩,by kernel_rfl,by kernel_rfl,?_⟩))
  refine ⟨by decide,rfl,#[.string (S x.ins),.int .i64 (w64 (x.qty+ay H1 a.into)),.int .i64 x.cash],rfl,by kernel_rfl,?_⟩
  refine ⟨_,rfl,fun c1=>?_,fun c1=>?_⟩
  ·have c1:w64 (x.qty+ay H1 a.into) > 1000000000000000:=ab c1
   rw [if_pos c1] at hR
   rw [hR]
   exact ⟨[(9701,Blk.own (.slice ya H1.length yc) 66 2 H1.length (cat ao H1)),(9702,Blk.own vc 49 3 g.c.length (cat ai g.c)),(9703,Blk.own vp 49 3 g.p.length (cat ai g.p)),(9700,Blk.row 40 3 #[.slice ya H1.length yc,vc,vp])],[(9701,9600)],⟨⟨H1,g.c,g.p⟩,.slice ya H1.length yc,vc,vp,hv1,hc,hp,rfl,rfl,by decide⟩,⟨.inl rfl,.inl rfl,.inl rfl,rfl,trivial⟩,rfl⟩
  ·have c1:¬ w64 (x.qty+ay H1 a.into) > 1000000000000000:=ae c1
   rw [if_neg c1] at hR
   generalize w64 (x.qty+ay H1 a.into)=z at hR ⊢
   have TO2:=si hE' (x:=.slice ya H1.length yc) (H:=H1) (k:=x.ins) (m:=z) rfl (by omega)
   refine ⟨_,rfl,_,rfl,_,rfl,?_⟩
   refine .inr (.inr (.inr ⟨[(9610,9600),(9600,9630)],[9630],[_,_,_],[_],_,TO2,rfl,⟨.inl rfl,trivial⟩,by kernel_rfl,(by change _=true;kernel_rfl),?_⟩))
   rintro r U ⟨hv2,rfl⟩
   generalize dt H1 x.ins z=H2 at hv2 hR ⊢
   obtain ⟨yb,yd,rfl⟩:=hv2.len
   refine ⟨by kernel_rfl,by decide,rfl,#[.slice yb H2.length yd,vc,vp],rfl,by kernel_rfl,?_⟩
   have PO:=m5 hE' (x:=vc) (C:=g.c) (k:=(a.cur,0)) (m:=x.cash) rfl (by omega)
   refine ⟨_,rfl,_,A8,_,rfl,_,oC a.cur x.cash rfl,?_⟩
   refine .inr (.inr (.inr ⟨[(9611,9702)],[9601],[_,_],[_],_,PO,rfl,⟨.inl rfl,trivial⟩,by kernel_rfl,(by change _=true;kernel_rfl),?_⟩))
   rintro r U ⟨hv,rfl⟩
   generalize cN g.c (a.cur,0) x.cash=C2 at hv hR ⊢
   obtain ⟨yg,yk,rfl⟩:=hv.len
   refine ⟨by kernel_rfl,by decide,rfl,#[.slice yb H2.length yd,.slice yg C2.length yk,vp],rfl,by kernel_rfl,?_⟩
   rw [hR]
   exact ⟨[(9701,Blk.own (.slice yb H2.length yd) 66 2 H2.length (cat ao H2)),(9702,Blk.own (.slice yg C2.length yk) 49 3 C2.length (cat ai C2)),(9703,Blk.own vp 49 3 g.p.length (cat ai g.p)),(9700,Blk.row 40 3 #[.slice yb H2.length yd,.slice yg C2.length yk,vp])],[(9701,9630),(9702,9601)],⟨⟨H2,C2,g.p⟩,.slice yb H2.length yd,.slice yg C2.length yk,vp,hv2,hv,hp,rfl,rfl,rfl⟩,⟨.inl rfl,.inl rfl,.inl rfl,rfl,trivial⟩,rfl⟩
 ·have k1:(a.kind == 3)=false:=k1
  have k1:¬ a.kind=3:=by simpa using k1
  rw [if_neg k1] at hR
  have TO:=si hE' (x:=vh) (H:=g.h) (k:=x.ins) (m:=x.qty) rfl (by omega)
  refine ⟨_,rfl,_,rfl,_,rfl,?_⟩
  refine .inr (.inr (.inr ⟨[(9610,9701)],[9600],[_,_,_],[_],_,TO,rfl,⟨.inl rfl,trivial⟩,by kernel_rfl,(by change _=true;kernel_rfl),?_⟩))
  rintro r U ⟨hv2,rfl⟩
  generalize dt g.h x.ins x.qty=H2 at hv2 hR ⊢
  obtain ⟨yb,yd,rfl⟩:=hv2.len
  refine ⟨by kernel_rfl,by decide,rfl,#[.slice yb H2.length yd,vc,vp],rfl,by kernel_rfl,?_⟩
  have PO:=m5 hE' (x:=vc) (C:=g.c) (k:=(a.cur,0)) (m:=x.cash) rfl (by omega)
  refine ⟨_,rfl,_,A8,_,rfl,_,oC a.cur x.cash rfl,?_⟩
  refine .inr (.inr (.inr ⟨[(9611,9702)],[9601],[_,_],[_],_,PO,rfl,⟨.inl rfl,trivial⟩,by kernel_rfl,(by change _=true;kernel_rfl),?_⟩))
  rintro r U ⟨hv,rfl⟩
  generalize cN g.c (a.cur,0) x.cash=C2 at hv hR ⊢
  obtain ⟨ya,yc,rfl⟩:=hv.len
  refine ⟨by kernel_rfl,by decide,rfl,#[.slice yb H2.length yd,.slice ya C2.length yc,vp],rfl,by kernel_rfl,?_⟩
  rw [hR]
  exact ⟨[(9701,Blk.own (.slice yb H2.length yd) 66 2 H2.length (cat ao H2)),(9702,Blk.own (.slice ya C2.length yc) 49 3 C2.length (cat ai C2)),(9703,Blk.own vp 49 3 g.p.length (cat ai g.p)),(9700,Blk.row 40 3 #[.slice yb H2.length yd,.slice ya C2.length yc,vp])],[(9701,9600),(9702,9601)],⟨⟨H2,C2,g.p⟩,.slice yb H2.length yd,.slice ya C2.length yc,vp,hv2,hv,hp,rfl,rfl,rfl⟩,⟨.inl rfl,.inl rfl,.inl rfl,rfl,trivial⟩,rfl⟩
theorem DN {g g':Led} {a:AC} (e:n9 g a=.ok g'):g'.h.length<=g.h.length+2/\g'.c.length<=g.c.length+1/\g'.p=g.p:=by
 unfold n9 at e
 split at e
 ·cases e
 ·split at e
  ·split at e
   ·cases e
   ·cases e
    have h1:=jl g.h a.ins 0
    have h2:=jl (dt g.h a.ins 0) (aF a (ay g.h a.ins)).1.ins (w64 ((aF a (ay g.h a.ins)).1.qty+ay (dt g.h a.ins 0) a.into))
    exact ⟨by show (dt _ _ _).length<=_;omega,lS _ _ _,rfl⟩
  ·cases e
   have h1:=jl g.h (aF a (ay g.h a.ins)).1.ins (aF a (ay g.h a.ins)).1.qty
   exact ⟨by show (dt _ _ _).length<=_;omega,lS _ _ _,rfl⟩
theorem rG (day:Int) (g:Led) (x:EC):(eP day g x).h=g.h/\(eP day g x).c.length<=g.c.length+1/\(eP day g x).p.length<=g.p.length+1:=by
 unfold eP
 split
 ·exact ⟨rfl,lS _ _ _,by simp⟩
 ·exact ⟨rfl,by simp,lS _ _ _⟩
theorem De {day:Int} {g g':Led} {x:EC} (e:j0 day g x=.ok g'):g'.h.length<=g.h.length+1/\g'.c.length<=g.c.length+1/\g'.p.length<=g.p.length+1:=by
 unfold j0 at e
 split at e
 ·split at e
  ·cases e
  ·split at e
   ·cases e
   ·cases e
    have h:=rG day { g with h:=dt g.h x.ins (w64 (ay g.h x.ins+x.qty)) } x
    have h1:=jl g.h x.ins (w64 (ay g.h x.ins+x.qty))
    refine ⟨by rw [h.1];exact h1,h.2.1,h.2.2⟩
 ·cases e
  have h:=rG day g x
  exact ⟨by rw [h.1];omega,h.2.1,h.2.2⟩
theorem Mw {E:Env} (hE:E.P=Tryz.prog) {ve va:Value} {xs:List EC} {al:List AC} {k day:Int} (hv:Lst E ve 10 xs.length (cat EC.A xs)) (hva:Lst E va 76 al.length (cat AC.A al)) (hn:xs.length<=2000000000000) (hm:al.length<=1000000000000) (hin:∀ y∈xs,y.In) (hina:∀ y∈al,y.In):OwnC E 32 [SV.c ve,SV.c va,SV.c (.int .i64 k),SV.c (.int .i64 day)] [] (AtQ (atP xs al k day)):=by
 refine av [] af ah Nu E hE [SV.c ve,SV.c va,SV.c (.int .i64 k),SV.c (.int .i64 day)] [] _ rfl rfl fun w X β hT=>?_
 have hv':=hv.of_old hT
 have hva':=hva.of_old hT
 have hE':(aR Tryz.prog tt Tryz.f32.ntmps w X (aA [] β)).toEnv.P=Tryz.prog:=rfl
 have C1:=tw (k:=k) hE' hv' hn hin
 have C2:=DY (k:=k) hE' hva' hm hina
 refine .inr (.inr (.inr ⟨[],[3000],[_,_],[],_,C1,rfl,trivial,rfl,trivial,?_⟩))
 rintro r U ⟨sx,nx,hsx,rfl,hx,rfl⟩
 refine ⟨rfl,?_⟩
 have bad:∀ e:Int,atP xs al k day=(.zero,e)->AtQ (atP xs al k day) (.tuple #[.agg #[.slice none 0 0,.slice none 0 0,.slice none 0 0],.int .i64 e]) [(9506,Blk.own (.slice none 0 0) 66 2 0 #[]),(9507,Blk.own (.slice none 0 0) 49 3 0 #[]),(9508,Blk.own (.slice none 0 0) 49 3 0 #[])]:=fun e h=>by
  rw [h];exact AtQ.bad e
 refine ⟨fun h=>?_,fun h=>?_⟩
 ·have h:(cP xs != 0)=true:=h
  have h:cP xs≠0:=by simpa using h
  have hP:atP xs al k day=(.zero,cP xs):=by unfold atP;rw [if_pos h]
  refine ⟨_,rfl,bu,?_⟩
  exact ⟨_,[],bad _ hP,⟨.inr ⟨rfl,rfl,rfl⟩,.inr ⟨rfl,rfl,rfl⟩,.inr ⟨rfl,rfl,rfl⟩,trivial⟩,rfl⟩
 have h:(cP xs != 0)=false:=h
 have hX:cP xs=0:=by simpa using h
 refine .inr (.inr (.inr ⟨[(3000,3001)],[3001],[_,_],[],_,C2,rfl,trivial,rfl,trivial,?_⟩))
 rintro r U ⟨sa,na,hsa,rfl,ha,rfl⟩
 refine ⟨rfl,?_⟩
 refine ⟨fun h=>?_,fun h=>?_⟩
 ·have h:(cR al != 0)=true:=h
  have h:cR al≠0:=by simpa using h
  have hP:atP xs al k day=(.zero,cR al):=by unfold atP;rw [if_neg (fun h=>h hX),if_pos h]
  refine ⟨_,rfl,bu,?_⟩
  exact ⟨_,[],bad _ hP,⟨.inr ⟨rfl,rfl,rfl⟩,.inr ⟨rfl,rfl,rfl⟩,.inr ⟨rfl,rfl,rfl⟩,trivial⟩,rfl⟩
 have h:(cR al != 0)=false:=h
 have hA:cR al=0:=by simpa using h
 refine .inl ⟨_,x6 day,fun h=>?_,fun h=>?_⟩
 ·have h:(decide (day < 0) || decide (day > 73048))=true:=h
  have hP:atP xs al k day=(.zero,50):=by
   unfold atP
   rw [if_neg (fun h=>h hX),if_neg (fun h=>h hA),if_pos]
   rw [Bool.eq_false_iff]
   intro h2
   have h2:=gE.1 h2
   simp only [Bool.or_eq_true,decide_eq_true_eq] at h
   omega
  refine ⟨_,rfl,bu,?_⟩
  exact ⟨_,[],bad _ hP,⟨.inr ⟨rfl,rfl,rfl⟩,.inr ⟨rfl,rfl,rfl⟩,.inr ⟨rfl,rfl,rfl⟩,trivial⟩,rfl⟩
 have h:(decide (day < 0) || decide (day > 73048))=false:=h
 have hD:inB day 0 73048=true:=by
  simp only [Bool.or_eq_false_iff,decide_eq_false_iff_not] at h
  exact gE.2 ⟨by omega,by omega⟩
 have hP:atP xs al k day=Hd (kt day .zero ((tk (eo al k) (d9 xs k) day).flatMap (onD (eo al k) (d9 xs k)))):=by
  rw [<- EB,Hw];unfold atP;rw [if_neg (fun h=>h hX),if_neg (fun h=>h hA),if_neg (by rw [hD];decide)]
 have mA:∀ a∈eo al k,a.In:=fun a h=>hina a (oO a h).1
 have nX:nx<=4096:=by rw [hsx];exact lj hX
 have nA:na<=4096:=by rw [hsa];exact oP hA
 obtain ⟨aaa,aac,rfl⟩:=ha.len
 obtain ⟨xxa,xxc,rfl⟩:=hx.len
 have DR:=Hm hE' (day:=day) ha hx hsa hsx (by omega)
 generalize eo al k=A at hsa hP mA DR ⊢
 generalize d9 xs k=B at hsx hP DR ⊢
 have lD:(tk A B day).length<=na+nx:=by
  have:=jS day (A.map AC.day++B.map EC.day) []
  simp only [List.length_append,List.length_map,List.length_nil] at this
  unfold tk;omega
 refine .inr (.inr (.inr ⟨[(9630,3001),(9631,3000)],[9620],[_,_,_],[_,_],_,DR,rfl,⟨.inl rfl,.inl rfl,trivial⟩,rfl,trivial,?_⟩))
 rintro vD U ⟨hvD,rfl⟩
 generalize tk A B day=D at hP lD hvD ⊢
 refine ⟨by kernel_rfl,?_⟩
 obtain ⟨aD,cD,rfl⟩:=hvD.len
 refine ⟨fun q f m=>∃ (i:Nat) (r:Led) (vh vc vp:Value),q=D.length - i/\i<=D.length/\IsL vh r.h.length/\IsL vc r.c.length/\IsL vp r.p.length/\(r.h.length<=2*(i*(na+nx))/\r.c.length<=i*(na+nx)/\r.p.length<=i*(na+nx))/\kt day .zero (D.flatMap (onD A B))=kt day r ((D.drop i).flatMap (onD A B))/\f=[(3,SV.c (.int .i64 day)),(8,SV.ptr 8 0),(10,SV.c (.slice xxa nx xxc)),(12,SV.c (.slice aaa na aac)),(13,SV.ptr 13 0),(14,SV.c (.slice aD D.length cD)),(15,SV.c (.int .i64 (i:Nat)))]/\m=[(8,Blk.row 40 3 #[.slice none 0 0,.slice none 0 0,.slice none 0 0]),(13,Blk.row 40 3 #[vh,vc,vp]),(3000,Blk.own (.slice xxa nx xxc) 31 10 nx (cat EC.A B)),(3001,Blk.own (.slice aaa na aac) 61 76 na (cat AC.A A)),(9620,Blk.own (.slice aD D.length cD) 3 1 D.length (bd D)),(9701,Blk.own vh 66 2 (r.h).length (cat ao r.h)),(9702,Blk.own vc 49 3 (r.c).length (cat ai r.c)),(9703,Blk.own vp 49 3 (r.p).length (cat ai r.p))],D.length,⟨_,_,⟨0,.zero,.slice none 0 0,.slice none 0 0,.slice none 0 0,by omega,by omega,.nil,.nil,.nil,⟨by show (0:Nat)<=_;omega,by show (0:Nat)<=_;omega,by show (0:Nat)<=_;omega⟩,rfl,rfl,rfl⟩,⟨rfl,rfl,rfl,rfl,rfl,rfl,rfl,trivial⟩,⟨rfl,rfl,.inl rfl,.inl rfl,.inl rfl,.inr ⟨rfl,rfl,rfl⟩,.inr ⟨rfl,rfl,rfl⟩,.inr ⟨rfl,rfl,rfl⟩,trivial⟩,rfl⟩,?_⟩
 rintro q f m ⟨i,r,vh,vc,vp,rfl,hi,hh,hc,hp,hl,hR,rfl,rfl⟩
 have hPb:i*(na+nx)<=8192*8192:=Nat.mul_le_mul (by omega) (by omega)
 refine ⟨_,fun w' _=>am Tryz.underlying22 w',fun c=>?_,fun c=>?_⟩
 ·have c:i < D.length:=by have:=ab c;omega
  have hlt:(i+1)*(na+nx)=i*(na+nx)+(na+nx):=Nat.succ_mul _ _
  generalize i*(na+nx)=P0 at hlt hl hPb
  obtain ⟨d,hd⟩:∃ d,D[i]? = some d:=⟨_,List.getElem?_eq_getElem c⟩
  have hdd:=cd hd
  rw [hdd,List.flatMap_cons] at hR
  rw [show onD A B d=(A.filter fun a=>decide (a.day=d)).map (Sum.inl:AC->Ev)++(B.filter fun x=>decide (x.day=d)).map (Sum.inr:EC->Ev) from rfl] at hR
  rw [List.append_assoc] at hR
  rcases hvD with ⟨hs1,hs2⟩ | ⟨gD,c0,hs1⟩
  ·omega
  cases hs1
  have LD:(bd D)[i]? = some (.int .i64 d):=sE hd
  obtain ⟨T,hT0⟩:∃ T,T=(D.drop (i+1)).flatMap (onD A B):=⟨_,rfl⟩
  obtain ⟨TB,hTB⟩:∃ TB,TB=(B.filter fun x=>decide (x.day=d)).map (Sum.inr:EC->Ev)++T:=⟨_,rfl⟩
  rw [<- hT0,<- hTB] at hR
  refine ⟨fun q f m=>∃ (j:Nat) (r2:Led) (wh wc wp:Value),q=na - j/\j<=na/\IsL wh r2.h.length/\IsL wc r2.c.length/\IsL wp r2.p.length/\(r2.h.length<=2*(P0+j)/\r2.c.length<=P0+j/\r2.p.length<=P0+j)/\kt day .zero (D.flatMap (onD A B))=kt day r2 (((A.drop j).filter fun a=>decide (a.day=d)).map (Sum.inl:AC->Ev)++TB)/\f=[(3,SV.c (.int .i64 day)),(8,SV.ptr 8 0),(10,SV.c (.slice xxa nx xxc)),(12,SV.c (.slice aaa na aac)),(13,SV.ptr 13 0),(14,SV.c (.slice (some ⟨gD,0,none⟩) D.length cD)),(15,SV.c (.int .i64 (i:Nat))),(16,SV.c (.int .i64 (j:Nat)))]/\m=[(8,Blk.row 40 3 #[.slice none 0 0,.slice none 0 0,.slice none 0 0]),(13,Blk.row 40 3 #[wh,wc,wp]),(3000,Blk.own (.slice xxa nx xxc) 31 10 nx (cat EC.A B)),(3001,Blk.own (.slice aaa na aac) 61 76 na (cat AC.A A)),(9620,Blk.own (.slice (some ⟨gD,0,none⟩) D.length cD) 3 1 D.length (bd D)),(9701,Blk.own wh 66 2 (r2.h).length (cat ao r2.h)),(9702,Blk.own wc 49 3 (r2.c).length (cat ai r2.c)),(9703,Blk.own wp 49 3 (r2.p).length (cat ai r2.p))],na,⟨_,_,⟨0,r,vh,vc,vp,by omega,by omega,hh,hc,hp,by omega,hR,rfl,rfl⟩,⟨rfl,rfl,rfl,rfl,rfl,rfl,rfl,rfl,trivial⟩,⟨rfl,rfl,.inl rfl,.inl rfl,.inl rfl,.inl rfl,.inl rfl,.inl rfl,trivial⟩,rfl⟩,?_⟩
  rintro q f m ⟨j,r2,wh,wc,wp,rfl,hj,hh2,hc2,hp2,hl2,hR2,rfl,rfl⟩
  refine ⟨_,fun w' _=>am Tryz.underlying51 w',fun c1=>?_,fun c1=>?_⟩
  ·have c1:j < na:=by have:=ab c1;omega
   rcases ha with ⟨hs1,hs2⟩ | ⟨gA,cA0,hs1⟩
   ·omega
   cases hs1
   obtain ⟨a,haj⟩:∃ a,A[j]? = some a:=⟨_,List.getElem?_eq_getElem (by omega)⟩
   have LA:(cat AC.A A)[j*76+4]? = some (.int .i64 a.day):=(bN AC.size A j a 4 haj (by decide)).trans a.g4
   rw [cd haj,List.filter_cons] at hR2
   refine ⟨by omega,by omega,.inr ⟨3001,gA,_,na,_,_,_,_,rfl,rfl,.int .i64 a.day,(by rw [x7];exact LA),?_⟩⟩
   refine ⟨by omega,by omega,.inr ⟨9620,gD,_,D.length,_,_,_,_,rfl,rfl,.int .i64 d,(by rw [uy];exact LD),?_⟩⟩
   refine ⟨by kernel_rfl,fun c2=>?_,fun c2=>?_⟩
   ·have c2:(a.day != d)=true:=c2
    have c2:¬ a.day=d:=by simpa using c2
    rw [if_neg (by simpa using c2)] at hR2
    exact ⟨na - (j+1),_,_,by omega,⟨j+1,r2,wh,wc,wp,rfl,by omega,hh2,hc2,hp2,by omega,hR2,rfl,rfl⟩,⟨rfl,rfl,rfl,rfl,rfl,rfl,rfl,ag (au (by omega)),trivial⟩,⟨rfl,rfl,.inl rfl,.inl rfl,.inl rfl,.inl rfl,.inl rfl,.inl rfl,trivial⟩,rfl⟩
   ·have c2:(a.day != d)=false:=c2
    have c2:a.day=d:=by simpa using c2
    rw [if_pos (by simpa using c2),List.map_cons,List.cons_append,kt] at hR2
    have AO:=Lz hE' (g:=r2) hh2 hc2 hp2 (by omega) (mA a (List.mem_of_getElem? haj))
    have EA:=bc AC.size haj
    have hszA:(cat AC.A A).size=na*76:=by rw [Go.SX.cat_size AC.size,hsa]
    generalize a.A=AA at AO EA
    refine ⟨by omega,by omega,.inr ⟨3001,gA,_,na,_,_,_,_,rfl,rfl,(by rw [x7,hszA];show j*76+76<=na*76;omega),AA,(by rw [x7];exact EA),?_⟩⟩
    refine .inr (.inr (.inr ⟨[(9700,13)],[],[_,_],[_,_,_,_],_,AO,rfl,⟨.inl rfl,.inl rfl,.inl rfl,rfl,trivial⟩,by kernel_rfl,trivial,?_⟩))
    rintro r U ⟨g2,zh,zc,zp,k1,k2,k3,rfl,hM⟩
    refine ⟨by kernel_rfl,?_⟩
    have hst:qH day r2 (.inl a)=n9 r2 a:=rfl
    rw [hst] at hR2
    cases hS:n9 r2 a with
    | error e =>
     rw [hS] at hM hR2
     obtain ⟨rfl,he⟩:=hM
     have hR2:kt day .zero (D.flatMap (onD A B))=.error e:=hR2
     refine ⟨fun _=>?_,fun c3=>absurd (show (e != 0)=false from c3) (by simpa using he)⟩
     refine ⟨_,rfl,bu,?_⟩
     exact ⟨_,[],bad e (by rw [hP,hR2];rfl),⟨.inr ⟨rfl,rfl,rfl⟩,.inr ⟨rfl,rfl,rfl⟩,.inr ⟨rfl,rfl,rfl⟩,trivial⟩,rfl⟩
    | ok g' =>
     rw [hS] at hM hR2
     obtain ⟨rfl,rfl⟩:=hM
     obtain ⟨s1,s2,s3⟩:=DN hS
     refine ⟨nofun,fun _=>?_⟩
     exact ⟨na - (j+1),_,_,by omega,⟨j+1,g2,zh,zc,zp,rfl,by omega,k1,k2,k3,⟨by omega,by omega,by rw [s3];omega⟩,hR2,rfl,rfl⟩,⟨rfl,rfl,rfl,rfl,rfl,rfl,rfl,ag (au (by omega)),trivial⟩,⟨rfl,rfl,.inl rfl,.inl rfl,.inl rfl,.inl rfl,.inl rfl,.inl rfl,trivial⟩,rfl⟩
  ·have c1:j=na:=by have:=ae c1;omega
   rw [List.drop_eq_nil_of_le (by omega),List.filter_nil,List.map_nil,List.nil_append] at hR2
   clear hl hR hh hc hp
   subst hTB
   refine ⟨fun q f m=>∃ (j:Nat) (r3:Led) (wh wc wp:Value),q=nx - j/\j<=nx/\IsL wh r3.h.length/\IsL wc r3.c.length/\IsL wp r3.p.length/\(r3.h.length<=2*(P0+na+j)/\r3.c.length<=P0+na+j/\r3.p.length<=P0+na+j)/\kt day .zero (D.flatMap (onD A B))=kt day r3 (((B.drop j).filter fun x=>decide (x.day=d)).map (Sum.inr:EC->Ev)++T)/\f=[(3,SV.c (.int .i64 day)),(8,SV.ptr 8 0),(10,SV.c (.slice xxa nx xxc)),(12,SV.c (.slice aaa na aac)),(13,SV.ptr 13 0),(14,SV.c (.slice (some ⟨gD,0,none⟩) D.length cD)),(15,SV.c (.int .i64 (i:Nat))),(18,SV.c (.int .i64 (j:Nat)))]/\m=[(8,Blk.row 40 3 #[.slice none 0 0,.slice none 0 0,.slice none 0 0]),(13,Blk.row 40 3 #[wh,wc,wp]),(3000,Blk.own (.slice xxa nx xxc) 31 10 nx (cat EC.A B)),(3001,Blk.own (.slice aaa na aac) 61 76 na (cat AC.A A)),(9620,Blk.own (.slice (some ⟨gD,0,none⟩) D.length cD) 3 1 D.length (bd D)),(9701,Blk.own wh 66 2 (r3.h).length (cat ao r3.h)),(9702,Blk.own wc 49 3 (r3.c).length (cat ai r3.c)),(9703,Blk.own wp 49 3 (r3.p).length (cat ai r3.p))],nx,⟨_,_,⟨0,r2,wh,wc,wp,by omega,by omega,hh2,hc2,hp2,by omega,hR2,rfl,rfl⟩,⟨rfl,rfl,rfl,rfl,rfl,rfl,rfl,rfl,trivial⟩,⟨rfl,rfl,.inl rfl,.inl rfl,.inl rfl,.inl rfl,.inl rfl,.inl rfl,trivial⟩,rfl⟩,?_⟩
   clear hl2 hR2 hh2 hc2 hp2
   rintro q f m ⟨j,r3,wh,wc,wp,rfl,hj,hh3,hc3,hp3,hl3,hR3,rfl,rfl⟩
   refine ⟨_,fun w' _=>am Tryz.underlying26 w',fun c1=>?_,fun c1=>?_⟩
   ·have c1:j < nx:=by have:=ab c1;omega
    rcases hx with ⟨hs1,hs2⟩ | ⟨gX,cX0,hs1⟩
    ·omega
    cases hs1
    obtain ⟨x,hxj⟩:∃ x,B[j]? = some x:=⟨_,List.getElem?_eq_getElem (by omega)⟩
    have LX:(cat EC.A B)[j*10+2]? = some (.int .i64 x.day):=(bN EC.size B j x 2 hxj (by decide)).trans x.g2
    rw [cd hxj,List.filter_cons] at hR3
    refine ⟨by omega,by omega,.inr ⟨3000,gX,_,nx,_,_,_,_,rfl,rfl,.int .i64 x.day,(by rw [ux];exact LX),?_⟩⟩
    refine ⟨by omega,by omega,.inr ⟨9620,gD,_,D.length,_,_,_,_,rfl,rfl,.int .i64 d,(by rw [uy];exact LD),?_⟩⟩
    refine ⟨by kernel_rfl,fun c2=>?_,fun c2=>?_⟩
    ·have c2:(x.day != d)=true:=c2
     have c2:¬ x.day=d:=by simpa using c2
     rw [if_neg (by simpa using c2)] at hR3
     exact ⟨nx - (j+1),_,_,by omega,⟨j+1,r3,wh,wc,wp,rfl,by omega,hh3,hc3,hp3,by omega,hR3,rfl,rfl⟩,⟨rfl,rfl,rfl,rfl,rfl,rfl,rfl,ag (au (by omega)),trivial⟩,⟨rfl,rfl,.inl rfl,.inl rfl,.inl rfl,.inl rfl,.inl rfl,.inl rfl,trivial⟩,rfl⟩
    ·have c2:(x.day != d)=false:=c2
     have c2:x.day=d:=by simpa using c2
     rw [if_pos (by simpa using c2),List.map_cons,List.cons_append,kt] at hR3
     have AO:=Ff hE' (g:=r3) (day:=day) hh3 hc3 hp3 (by omega) (x:=x)
     have EA:=bc EC.size hxj
     have hszX:(cat EC.A B).size=nx*10:=by rw [Go.SX.cat_size EC.size,hsx]
     generalize x.A=AA at AO EA
     refine ⟨by omega,by omega,.inr ⟨3000,gX,_,nx,_,_,_,_,rfl,rfl,(by rw [ux,hszX];show j*10+10<=nx*10;omega),AA,(by rw [ux];exact EA),?_⟩⟩
     refine .inr (.inr (.inr ⟨[(9700,13)],[],[_,_,_],[_,_,_,_],_,AO,rfl,⟨.inl rfl,.inl rfl,.inl rfl,rfl,trivial⟩,by kernel_rfl,trivial,?_⟩))
     rintro r U ⟨g2,zh,zc,zp,k1,k2,k3,rfl,hM⟩
     refine ⟨by kernel_rfl,?_⟩
     have hst:qH day r3 (.inr x)=j0 day r3 x:=rfl
     rw [hst] at hR3
     cases hS:j0 day r3 x with
     | error e =>
      rw [hS] at hM hR3
      obtain ⟨rfl,he⟩:=hM
      have hR3:kt day .zero (D.flatMap (onD A B))=.error e:=hR3
      refine ⟨fun _=>?_,fun c3=>absurd (show (e != 0)=false from c3) (by simpa using he)⟩
      refine ⟨_,rfl,bu,?_⟩
      exact ⟨_,[],bad e (by rw [hP,hR3];rfl),⟨.inr ⟨rfl,rfl,rfl⟩,.inr ⟨rfl,rfl,rfl⟩,.inr ⟨rfl,rfl,rfl⟩,trivial⟩,rfl⟩
     | ok g' =>
      rw [hS] at hM hR3
      obtain ⟨rfl,rfl⟩:=hM
      obtain ⟨s1,s2,s3⟩:=De hS
      refine ⟨nofun,fun _=>?_⟩
      exact ⟨nx - (j+1),_,_,by omega,⟨j+1,g2,zh,zc,zp,rfl,by omega,k1,k2,k3,⟨by omega,by omega,by omega⟩,hR3,rfl,rfl⟩,⟨rfl,rfl,rfl,rfl,rfl,rfl,rfl,ag (au (by omega)),trivial⟩,⟨rfl,rfl,.inl rfl,.inl rfl,.inl rfl,.inl rfl,.inl rfl,.inl rfl,trivial⟩,rfl⟩
   ·have c1:j=nx:=by have:=ae c1;omega
    rw [List.drop_eq_nil_of_le (by omega),List.filter_nil,List.map_nil,List.nil_append] at hR3
    exact ⟨D.length - (i+1),_,_,by omega,⟨i+1,r3,wh,wc,wp,rfl,by omega,hh3,hc3,hp3,⟨by rw [hlt];omega,by rw [hlt];omega,by rw [hlt];omega⟩,by rw [hR3,hT0],rfl,rfl⟩,⟨rfl,rfl,rfl,rfl,rfl,rfl,ag (au (by omega)),trivial⟩,⟨rfl,rfl,.inl rfl,.inl rfl,.inl rfl,.inl rfl,.inl rfl,.inl rfl,trivial⟩,rfl⟩
 ·have c:i=D.length:=by have:=ae c;omega
  rw [List.drop_eq_nil_of_le (by omega)] at hR
  have hF:atP xs al k day=fv r:=by rw [hP,hR];rfl
  have FO:=CZ hE' (g:=r) hh hc hp (by omega)
  refine .inr (.inr (.inr ⟨[],[9506,9507,9508],[_],[_,_,_],_,FO,rfl,⟨.inl rfl,.inl rfl,.inl rfl,trivial⟩,rfl,trivial,?_⟩))
  rintro r' U ⟨xh,xc,xp,q1,q2,q3,rfl,rfl⟩
  refine ⟨by kernel_rfl,?_⟩
  have Q:AtQ (atP xs al k day) (.tuple #[.agg #[xh,xc,xp],.int .i64 (fv r).2]) [(9506,Blk.own xh 66 2 (fv r).1.h.length (cat ao (fv r).1.h)),(9507,Blk.own xc 49 3 (fv r).1.c.length (cat ai (fv r).1.c)),(9508,Blk.own xp 49 3 (fv r).1.p.length (cat ai (fv r).1.p))]:=by
   rw [hF];exact ⟨xh,xc,xp,q1,q2,q3,rfl,rfl⟩
  exact ⟨mo (bg q1) (bg q2) (bg q3),_,[],Q,⟨.inl rfl,.inl rfl,.inl rfl,trivial⟩,rfl⟩
end Go.Proofs.YtekfkdddadcalaaGreatDoor
namespace Go.Proofs.YtekfkdddadcalaaGreatDoor
open Go Go.RowKit Go.SX
section
variable {H:Type} {enc:TypeId×Value->H} {w:World} {base:Nat} {sp:Nat->Bool} {held:Bool}
end
end Go.Proofs.YtekfkdddadcalaaGreatDoor
namespace Go.Proofs.YtekfkdddadcalaaGreatDoor
open Go Go.RowKit Go.SX
structure KOk (g:Led):Prop where
 ok:LedOk g
 h:∀ x∈g.h,cC x.1=true
 c:∀ x∈g.c,dL x.1.1=true/\x.1.2=0
 p:∀ x∈g.p,dL x.1.1=true/\inB x.1.2 0 73048=true
theorem KOk.zero:KOk .zero:=⟨.zero,(fun _ h=>by cases h),(fun _ h=>by cases h),(fun _ h=>by cases h)⟩
structure NOk (x:EC):Prop where
 e:EOk x
 i:x.qty≠0->cC x.ins=true
 c:x.amt≠0->dL x.cur=true
 s:inB x.settle 0 73048=true
theorem NOk.of {x:EC} (h:aV x=true):NOk x:=by
 have he:=EOk.of h
 unfold aV at h
 simp only [Bool.and_eq_true] at h
 obtain ⟨-,h⟩:=h
 split at h
 ·obtain ⟨h1,h2,h3,h4⟩:=EC.beq_nil h
  have h5:x.settle=0:=by
   unfold EC.beq EC.nil at h
   simp only [Bool.and_eq_true,beq_iff_eq] at h
   exact h.2.2.2.1
  exact ⟨he,fun h=>absurd h3 h,fun h=>absurd h4 h,gE.2 (by omega)⟩
 ·simp only [Bool.and_eq_true,dh,gE,decide_eq_true_eq] at h
  obtain ⟨⟨h1,h2,h3,h5⟩,h4⟩:=h
  refine ⟨he,fun hq=>?_,fun _=>h5,gE.2 (by omega)⟩
  unfold dD at h4
  split at h4
  ·simp only [Bool.and_eq_true] at h4
   exact h4.1
  ·split at h4
   ·simp only [Bool.and_eq_true,beq_iff_eq] at h4
    exact absurd h4.2 hq
   ·cases h4
def FT (f:EC->Int):List EC->Int
 | []=>0
 | x :: r=>f x+FT f r
structure ZOk (x:EC):Prop where
 e:EOk x
 z:x.kind≠1->x.qty=0
 a : -1000000000000000<=x.amt/\x.amt<=1000000000000000
theorem ZOk.of {x:EC} (h:aV x=true):ZOk x:=by
 have he:=EOk.of h
 unfold aV at h
 simp only [Bool.and_eq_true] at h
 obtain ⟨-,h⟩:=h
 split at h
 ·obtain ⟨h1,h2,h3,h4⟩:=EC.beq_nil h
  exact ⟨he,fun _=>h3,by omega⟩
 ·simp only [Bool.and_eq_true,dh,gE,decide_eq_true_eq] at h
  obtain ⟨⟨h1,h2,h3,h5⟩,h4⟩:=h
  refine ⟨he,fun hk=>?_,by omega⟩
  unfold dD at h4
  rw [if_neg hk] at h4
  split at h4
  ·simp only [Bool.and_eq_true,beq_iff_eq] at h4
   exact h4.2
  ·cases h4
def AmB (n:Nat) (f:List (Ky×Int)):Prop:=∀ k,-(1000000000000000*(n:Int))<=ay f k/\ay f k<=1000000000000000*(n:Int)
theorem AmB.nil (n:Nat):AmB n []:=fun k=>by show _<=(0:Int)/\(0:Int)<=_;omega
theorem AmB.mono {n m:Nat} {f:List (Ky×Int)} (h:AmB n f) (hm:n<=m):AmB m f:=fun k=>by have:=h k;omega
end Go.Proofs.YtekfkdddadcalaaGreatDoor
