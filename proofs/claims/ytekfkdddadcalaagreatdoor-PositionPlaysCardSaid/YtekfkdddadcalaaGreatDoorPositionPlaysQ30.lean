/- the laws comparisons of balances, entries, portfolios. the r; no condition. -/
import Derived.Test.YtekfkdddadcalaaGreatDoorPositionPlaysQ29
open List (getElem?_eq_getElem length_append length_map length_nil map_cons map_nil mem_of_getElem?)
set_option maxRecDepth 100000
set_option maxHeartbeats 4000000
namespace Go.Proofs.YtekfkdddadcalaaGreatDoor
open Go Go.RowKit Go.SX
open Go.Proofs.Tryz (prog)
def eqA (x y:Bs×Int):Bool:=decide (x.1=y.1) && ((x.2 == y.2) && true)
def eqK (x y:Ky×Int):Bool:=decide (x.1.1=y.1.1) && ((x.1.2 == y.1.2) && ((x.2 == y.2) && true))
theorem D5 (x:Bs×Int):eqA x x=true:=by simp [eqA]
theorem vU (x:Ky×Int):eqK x x=true:=by simp [eqK]
theorem EC.beq_self (x:EC):x.beq x=true:=by simp [EC.beq]
theorem xE {d:Nat} (x y:Bs×Int) (w:World):(Op.equalIn (d+1+1) 66 (.agg (ao x)) (.agg (ao y))).run prog w=.ok (eqA x y) w:=by
 rw [run_equalIn_struct w (d+1) 66 _ _ (by simp only [Program.fieldsOf,Tryz.underlying66]) (by kernel_rfl)]
 rw [show (Tryz.prog.fieldsOf 66).toList=[⟨ "Instrument",9,0,false,"","",0⟩,⟨ "Quantity",3,1,false,"","",16⟩] from by simp only [Program.fieldsOf,Tryz.underlying66]]
 refine aX (by decide) (au jx rfl rfl w) (au jx rfl rfl w) (ji _ _ w) fun _=>?_
 exact aX (by decide) (au eK rfl rfl w) (au eK rfl rfl w) (cP _ Tryz.underlying3 _ _ w) fun _=>kb
theorem AU:Tryz.prog.eqGuardType Tryz.prog.depth 66=false:=by kernel_rfl
theorem FG {E:Env} (hE:E.P=prog) (x y:Bs×Int) {u v:Operand}:bG E (do eqGuard .neq 66 u v (.agg (ao x)) (.agg (ao y));binOp .neq 66 (.agg (ao x)) (.agg (ao y))) (.bool (!(eqA x y))) :=
 jB (by rw [hE];exact AU) fun w=>by rw [hE];exact xE x y w
theorem C9 {E:Env} (hE:E.P=prog) (x:Bs×Int) {u v:Operand}:bG E (do eqGuard .neq 66 u v (.agg (ao x)) (.agg (ao x));binOp .neq 66 (.agg (ao x)) (.agg (ao x))) (.bool false):=by
 have:=FG hE x x (u:=u) (v:=v)
 rwa [D5] at this
theorem qA {d:Nat} (x y:Ky×Int) (w:World):(Op.equalIn (d+1+1) 49 (.agg (ai x)) (.agg (ai y))).run prog w=.ok (eqK x y) w:=by
 rw [run_equalIn_struct w (d+1) 49 _ _ (by simp only [Program.fieldsOf,Tryz.underlying49]) (by kernel_rfl)]
 rw [show (Tryz.prog.fieldsOf 49).toList=[⟨ "Currency",9,0,false,"","",0⟩,⟨ "Day",3,1,false,"","",16⟩,⟨ "Amount",3,2,false,"","",24⟩] from by simp only [Program.fieldsOf,Tryz.underlying49]]
 refine aX (by decide) (au jx rfl rfl w) (au jx rfl rfl w) (ji _ _ w) fun _=>?_
 refine aX (by decide) (au eK rfl rfl w) (au eK rfl rfl w) (cP _ Tryz.underlying3 _ _ w) fun _=>?_
 exact aX (by decide) (au eK rfl rfl w) (au eK rfl rfl w) (cP _ Tryz.underlying3 _ _ w) fun _=>kb
theorem rW:Tryz.prog.eqGuardType Tryz.prog.depth 49=false:=by kernel_rfl
theorem Ge {E:Env} (hE:E.P=prog) (x y:Ky×Int) {u v:Operand}:bG E (do eqGuard .eql 49 u v (.agg (ai x)) (.agg (ai y));binOp .eql 49 (.agg (ai x)) (.agg (ai y))) (.bool (eqK x y)) :=
 jC (by rw [hE];exact rW) fun w=>by rw [hE];exact qA x y w
theorem Da {E:Env} (hE:E.P=prog) (x:Ky×Int) {u v:Operand}:bG E (do eqGuard .neq 49 u v (.agg (ai x)) (.agg (ai x));binOp .neq 49 (.agg (ai x)) (.agg (ai x))) (.bool false):=by
 have:=jB (E:=E) (t:=49) (x:=u) (y:=v) (by rw [hE];exact rW) fun w=>by rw [hE];exact qA x x w
 rwa [vU] at this
theorem xj {E:Env} (hE:E.P=prog) (x:EC) {u v:Operand}:bG E (do eqGuard .neq 31 u v (.agg x.A) (.agg x.A);binOp .neq 31 (.agg x.A) (.agg x.A)) (.bool false):=by
 have:=AD hE x x (u:=u) (v:=v)
 rwa [EC.beq_self] at this
theorem FB (j:Nat):bg 0 ((j:Nat):Int) jy.size=j*3:=by
 show bg 0 ((j:Nat):Int) 3=j*3
 simp [bg]
theorem xf (j:Nat):bg 0 ((j:Nat):Int) pw.size=j*2:=by
 show bg 0 ((j:Nat):Int) 2=j*2
 simp [bg]
theorem u0 (j:Nat):bg 0 ((j:Nat):Int) fe.size=j*10:=by
 show bg 0 ((j:Nat):Int) 10=j*10
 simp [bg]
theorem yv {E:Env} (hE:E.P=prog) {x y:Value} {C:List (Ky×Int)} {n:Nat} (hx:IsL x n) (hy:IsL y n) (hn:n=C.length) (hb:n<=1000000000000):OwnC E 55 [SV.c x,SV.c y] [(9520,Blk.own x 49 3 n (cat ai C)),(9521,Blk.own y 49 3 n (cat ai C))] (fun r U=>r=.bool true/\U=[(9520,Blk.own x 49 3 n (cat ai C)),(9521,Blk.own y 49 3 n (cat ai C))]):=by
 refine av [] af ah Oc E hE [SV.c x,SV.c y] [(9520,Blk.own x 49 3 n (cat ai C)),(9521,Blk.own y 49 3 n (cat ai C))] _ rfl rfl fun w X β hT=>?_
 have hE':(aN prog tt Tryz.f55.ntmps w X (ay [(9520,Blk.own x 49 3 n (cat ai C)),(9521,Blk.own y 49 3 n (cat ai C))] β)).toEnv.P=prog:=rfl
 obtain ⟨xa,xc,rfl⟩:=hx.len
 obtain ⟨ya,yc,rfl⟩:=hy.len
 refine ⟨_,fun w' _=>ak Tryz.underlying38 w',_,fun w' _=>ak Tryz.underlying38 w',?_⟩
 refine ⟨fun c=>absurd c (by simp),fun _=>?_⟩
 refine ⟨fun q f m=>∃ i:Nat,q=n - i/\i<=n/\f=[(0,SV.c (.slice xa n xc)),(1,SV.c (.slice ya n yc)),(5,SV.c (.int .i64 (i:Nat)))]/\m=[(9520,Blk.own (.slice xa n xc) 49 3 n (cat ai C)),(9521,Blk.own (.slice ya n yc) 49 3 n (cat ai C))],n,⟨_,_,⟨0,by omega,by omega,rfl,rfl⟩,⟨rfl,rfl,rfl,trivial⟩,⟨.inl rfl,.inl rfl,trivial⟩,rfl⟩,?_⟩
 rintro q f m ⟨i,rfl,hi,rfl,rfl⟩
 refine ⟨_,fun w' _=>ak Tryz.underlying38 w',fun h=>?_,fun h=>?_⟩
 ·have h:i < n:=by have:=ab h;omega
  rcases hx with ⟨hs1,hs2⟩ | ⟨g0,c0,hs1⟩
  ·omega
  cases hs1
  rcases hy with ⟨hs1,hs2⟩ | ⟨g1,c1,hs1⟩
  ·omega
  cases hs1
  obtain ⟨y,hy⟩:∃ y,C[i]? = some y:=⟨_,getElem?_eq_getElem (by omega)⟩
  have L1:=bd aH hy
  have hsz:(cat ai C).size=n*3:=by rw [Go.SX.cat_size aH,hn]
  have N1:=fun (u v:Operand)=>Da hE' y (u:=u) (v:=v)
  generalize hYA:ai y=YA at L1 N1
  have F1:Fits YA 3:=by rw [<- hYA];exact cf y
  refine ⟨by omega,by omega,.inr ⟨9520,g0,_,n,_,_,_,_,rfl,rfl,(by rw [FB,hsz];show i*3+3<=n*3;omega),YA,(by rw [FB];exact L1),?_⟩⟩
  refine ⟨by omega,by omega,.inr ⟨9521,g1,_,n,_,_,_,_,rfl,rfl,(by rw [FB,hsz];show i*3+3<=n*3;omega),YA,(by rw [FB];exact L1),?_⟩⟩
  refine ⟨_,N1 _ _,by kernel_rfl,nofun,fun _=>?_⟩
  exact ⟨n - (i+1),_,_,by omega,⟨i+1,rfl,by omega,rfl,rfl⟩,⟨rfl,rfl,ag (aq (by omega)),trivial⟩,⟨.inl rfl,.inl rfl,trivial⟩,rfl⟩
 ·have h:i=n:=by have:=ae h;omega
  subst h
  exact ⟨[_,_],[],⟨rfl,rfl⟩,⟨.inl rfl,.inl rfl,trivial⟩,rfl⟩
theorem Fd {E:Env} (hE:E.P=prog) {x y:Value} {C:List EC} {n:Nat} (hx:IsL x n) (hy:IsL y n) (hn:n=C.length) (hb:n<=1000000000000):OwnC E 35 [SV.c x,SV.c y] [(9522,Blk.own x 31 10 n (cat EC.A C)),(9523,Blk.own y 31 10 n (cat EC.A C))] (fun r U=>r=.bool true/\U=[(9522,Blk.own x 31 10 n (cat EC.A C)),(9523,Blk.own y 31 10 n (cat EC.A C))]):=by
 refine av [] af ah Ox E hE [SV.c x,SV.c y] [(9522,Blk.own x 31 10 n (cat EC.A C)),(9523,Blk.own y 31 10 n (cat EC.A C))] _ rfl rfl fun w X β hT=>?_
 have hE':(aN prog tt Tryz.f35.ntmps w X (ay [(9522,Blk.own x 31 10 n (cat EC.A C)),(9523,Blk.own y 31 10 n (cat EC.A C))] β)).toEnv.P=prog:=rfl
 obtain ⟨xa,xc,rfl⟩:=hx.len
 obtain ⟨ya,yc,rfl⟩:=hy.len
 refine ⟨_,fun w' _=>ak Tryz.underlying26 w',_,fun w' _=>ak Tryz.underlying26 w',?_⟩
 refine ⟨fun c=>absurd c (by simp),fun _=>?_⟩
 refine ⟨fun q f m=>∃ i:Nat,q=n - i/\i<=n/\f=[(0,SV.c (.slice xa n xc)),(1,SV.c (.slice ya n yc)),(5,SV.c (.int .i64 (i:Nat)))]/\m=[(9522,Blk.own (.slice xa n xc) 31 10 n (cat EC.A C)),(9523,Blk.own (.slice ya n yc) 31 10 n (cat EC.A C))],n,⟨_,_,⟨0,by omega,by omega,rfl,rfl⟩,⟨rfl,rfl,rfl,trivial⟩,⟨.inl rfl,.inl rfl,trivial⟩,rfl⟩,?_⟩
 rintro q f m ⟨i,rfl,hi,rfl,rfl⟩
 refine ⟨_,fun w' _=>ak Tryz.underlying26 w',fun h=>?_,fun h=>?_⟩
 ·have h:i < n:=by have:=ab h;omega
  rcases hx with ⟨hs1,hs2⟩ | ⟨g0,c0,hs1⟩
  ·omega
  cases hs1
  rcases hy with ⟨hs1,hs2⟩ | ⟨g1,c1,hs1⟩
  ·omega
  cases hs1
  obtain ⟨y,hy⟩:∃ y,C[i]? = some y:=⟨_,getElem?_eq_getElem (by omega)⟩
  have L1:=bd EC.size hy
  have hsz:(cat EC.A C).size=n*10:=by rw [Go.SX.cat_size EC.size,hn]
  have N1:=fun (u v:Operand)=>xj hE' y (u:=u) (v:=v)
  generalize hYA:y.A=YA at L1 N1
  have F1:Fits YA 10:=by rw [<- hYA];exact y.fits
  refine ⟨by omega,by omega,.inr ⟨9522,g0,_,n,_,_,_,_,rfl,rfl,(by rw [u0,hsz];show i*10+10<=n*10;omega),YA,(by rw [u0];exact L1),?_⟩⟩
  refine ⟨by omega,by omega,.inr ⟨9523,g1,_,n,_,_,_,_,rfl,rfl,(by rw [u0,hsz];show i*10+10<=n*10;omega),YA,(by rw [u0];exact L1),?_⟩⟩
  refine ⟨_,N1 _ _,by kernel_rfl,nofun,fun _=>?_⟩
  exact ⟨n - (i+1),_,_,by omega,⟨i+1,rfl,by omega,rfl,rfl⟩,⟨rfl,rfl,ag (aq (by omega)),trivial⟩,⟨.inl rfl,.inl rfl,trivial⟩,rfl⟩
 ·have h:i=n:=by have:=ae h;omega
  subst h
  exact ⟨[_,_],[],⟨rfl,rfl⟩,⟨.inl rfl,.inl rfl,trivial⟩,rfl⟩
theorem HH {E:Env} (hE:E.P=prog) {xh xc xp yh yc yp:Value} {g:Led} (hh:IsL xh g.h.length) (hc:IsL xc g.c.length) (hp:IsL xp g.p.length) (kh:IsL yh g.h.length) (kc:IsL yc g.c.length) (kp:IsL yp g.p.length) (hl:g.h.length<=10000000000/\g.c.length<=10000000000/\g.p.length<=10000000000):OwnC E 23 [SV.c (.agg #[xh,xc,xp]),SV.c (.agg #[yh,yc,yp])] [(9506,Blk.own xh 66 2 g.h.length (cat ao g.h)),(9507,Blk.own xc 49 3 g.c.length (cat ai g.c)),(9508,Blk.own xp 49 3 g.p.length (cat ai g.p)),(9516,Blk.own yh 66 2 g.h.length (cat ao g.h)),(9517,Blk.own yc 49 3 g.c.length (cat ai g.c)),(9518,Blk.own yp 49 3 g.p.length (cat ai g.p))] (fun r U=>r=.bool true/\U=[(9506,Blk.own xh 66 2 g.h.length (cat ao g.h)),(9507,Blk.own xc 49 3 g.c.length (cat ai g.c)),(9508,Blk.own xp 49 3 g.p.length (cat ai g.p)),(9516,Blk.own yh 66 2 g.h.length (cat ao g.h)),(9517,Blk.own yc 49 3 g.c.length (cat ai g.c)),(9518,Blk.own yp 49 3 g.p.length (cat ai g.p))]):=by
 refine av [] af ah OE E hE [SV.c (.agg #[xh,xc,xp]),SV.c (.agg #[yh,yc,yp])] [(9506,Blk.own xh 66 2 g.h.length (cat ao g.h)),(9507,Blk.own xc 49 3 g.c.length (cat ai g.c)),(9508,Blk.own xp 49 3 g.p.length (cat ai g.p)),(9516,Blk.own yh 66 2 g.h.length (cat ao g.h)),(9517,Blk.own yc 49 3 g.c.length (cat ai g.c)),(9518,Blk.own yp 49 3 g.p.length (cat ai g.p))] _ rfl rfl fun w X β hT=>?_
 have hE':(aN prog tt Tryz.f23.ntmps w X (ay [(9506,Blk.own xh 66 2 g.h.length (cat ao g.h)),(9507,Blk.own xc 49 3 g.c.length (cat ai g.c)),(9508,Blk.own xp 49 3 g.p.length (cat ai g.p)),(9516,Blk.own yh 66 2 g.h.length (cat ao g.h)),(9517,Blk.own yc 49 3 g.c.length (cat ai g.c)),(9518,Blk.own yp 49 3 g.p.length (cat ai g.p))] β)).toEnv.P=prog:=rfl
 have BC:=yv hE' hc kc rfl (by omega)
 have BP:=yv hE' hp kp rfl (by omega)
 obtain ⟨xha,xhc,rfl⟩:=hh.len
 obtain ⟨yha,yhc,rfl⟩:=kh.len
 refine ⟨rfl,rfl,_,rfl,_,fun w' _=>ak Tryz.underlying37 w',_,rfl,_,fun w' _=>ak Tryz.underlying37 w',?_⟩
 refine ⟨fun c=>absurd c (by simp),fun _=>?_⟩
 refine ⟨fun q f m=>∃ i:Nat,q=g.h.length - i/\i<=g.h.length/\f=[(2,SV.ptr 2 0),(3,SV.ptr 3 0),(5,SV.c (.int .i64 (i:Nat)))]/\m=(2,Blk.row 40 3 #[.slice xha g.h.length xhc,xc,xp]) :: (3,Blk.row 40 3 #[.slice yha g.h.length yhc,yc,yp]) :: [(9506,Blk.own (.slice xha g.h.length xhc) 66 2 g.h.length (cat ao g.h)),(9507,Blk.own xc 49 3 g.c.length (cat ai g.c)),(9508,Blk.own xp 49 3 g.p.length (cat ai g.p)),(9516,Blk.own (.slice yha g.h.length yhc) 66 2 g.h.length (cat ao g.h)),(9517,Blk.own yc 49 3 g.c.length (cat ai g.c)),(9518,Blk.own yp 49 3 g.p.length (cat ai g.p))],g.h.length,⟨_,_,⟨0,by omega,by omega,rfl,rfl⟩,⟨rfl,rfl,rfl,trivial⟩,⟨rfl,rfl,.inl rfl,.inl rfl,.inl rfl,.inl rfl,.inl rfl,.inl rfl,trivial⟩,rfl⟩,?_⟩
 rintro q f m ⟨i,rfl,hi,rfl,rfl⟩
 refine ⟨_,rfl,_,fun w' _=>ak Tryz.underlying37 w',fun h=>?_,fun h=>?_⟩
 ·have h:i < g.h.length:=by have:=ab h;omega
  rcases hh with ⟨hs1,hs2⟩ | ⟨g0,c0,hs1⟩
  ·omega
  cases hs1
  rcases kh with ⟨hs1,hs2⟩ | ⟨g1,c1,hs1⟩
  ·omega
  cases hs1
  obtain ⟨y,hy⟩:∃ y,g.h[i]? = some y:=⟨_,getElem?_eq_getElem (by omega)⟩
  have L1:=bd aJ hy
  have hsz:(cat ao g.h).size=g.h.length*2:=Go.SX.cat_size aJ _
  have N1:=fun (u v:Operand)=>C9 hE' y (u:=u) (v:=v)
  generalize hYA:ao y=YA at L1 N1
  refine ⟨_,rfl,by omega,by omega,.inr ⟨9506,g0,_,g.h.length,_,_,_,_,rfl,rfl,(by rw [xf,hsz];show i*2+2<=g.h.length*2;omega),YA,(by rw [xf];exact L1),?_⟩⟩
  refine ⟨_,rfl,by omega,by omega,.inr ⟨9516,g1,_,g.h.length,_,_,_,_,rfl,rfl,(by rw [xf,hsz];show i*2+2<=g.h.length*2;omega),YA,(by rw [xf];exact L1),?_⟩⟩
  refine ⟨_,N1 _ _,by kernel_rfl,nofun,fun _=>?_⟩
  exact ⟨g.h.length - (i+1),_,_,by omega,⟨i+1,rfl,by omega,rfl,rfl⟩,⟨rfl,rfl,ag (aq (by omega)),trivial⟩,⟨rfl,rfl,.inl rfl,.inl rfl,.inl rfl,.inl rfl,.inl rfl,.inl rfl,trivial⟩,rfl⟩
 ·have h:i=g.h.length:=by have:=ae h;omega
  subst h
  refine ⟨_,rfl,_,rfl,.inr (.inr (.inl ⟨[(9520,9507),(9521,9517)],[_,_],[_,_],_,[_,_],BC,rfl,⟨.inl rfl,.inl rfl,trivial⟩,rfl,rfl,?_⟩))⟩
  refine ⟨fun _=>?_,nofun⟩
  refine ⟨_,rfl,_,rfl,.inr (.inr (.inl ⟨[(9520,9508),(9521,9518)],[_,_],[_,_],_,[_,_],BP,rfl,⟨.inl rfl,.inl rfl,trivial⟩,rfl,rfl,?_⟩))⟩
  exact ⟨[_,_,_,_,_,_],[],⟨rfl,rfl⟩,⟨.inl rfl,.inl rfl,.inl rfl,.inl rfl,.inl rfl,.inl rfl,trivial⟩,rfl⟩
theorem yO (j:Nat):bg 0 ((j:Nat):Int) fc.size=j*76:=by
 show bg 0 ((j:Nat):Int) 76=j*76
 simp [bg]
theorem Ig {E:Env} (hE:E.P=prog) {va vx:Value} {al:List AC} {xs:List EC} {na nx:Nat} {day:Int} (ha:IsL va na) (hx:IsL vx nx) (hna:na=al.length) (hnx:nx=xs.length) (hb:na<=100000000000/\nx<=100000000000):OwnC E 68 [SV.c va,SV.c vx,SV.c (.int .i64 day)] [(9630,Blk.own va 61 76 na (cat AC.A al)),(9631,Blk.own vx 31 10 nx (cat EC.A xs))] (fun r U=>IsL r (t8 al xs day).length/\U=[(9630,Blk.own va 61 76 na (cat AC.A al)),(9631,Blk.own vx 31 10 nx (cat EC.A xs)),(9620,Blk.own r 3 1 (t8 al xs day).length (aO (t8 al xs day)))]):=by
 refine av [6] af ah N2 E hE [SV.c va,SV.c vx,SV.c (.int .i64 day)] [(9630,Blk.own va 61 76 na (cat AC.A al)),(9631,Blk.own vx 31 10 nx (cat EC.A xs))] _ rfl rfl fun w X β hT=>?_
 have hE':(aN prog tt Tryz.f68.ntmps w X (ay [(9630,Blk.own va 61 76 na (cat AC.A al)),(9631,Blk.own vx 31 10 nx (cat EC.A xs))] β) [6]).toEnv.P=prog:=rfl
 obtain ⟨aa,ac,rfl⟩:=ha.len
 obtain ⟨xa,xc,rfl⟩:=hx.len
 refine ⟨fun f m=>∃ y,IsL y (dJ day [] (al.map AC.day)).length/\(∃ a c,y=.slice a (dJ day [] (al.map AC.day)).length c/\(dJ day [] (al.map AC.day)).length<=c)/\f=[(1,SV.c (.slice xa nx xc)),(2,SV.c (.int .i64 day)),(7,SV.c y)]/\m=[(9630,Blk.own (.slice aa na ac) 61 76 na (cat AC.A al)),(9631,Blk.own (.slice xa nx xc) 31 10 nx (cat EC.A xs)),(9620,Blk.own y 3 1 (dJ day [] (al.map AC.day)).length (aO (dJ day [] (al.map AC.day))))],?_,?_⟩
 ·refine ⟨fun q f m=>∃ (i:Nat) (y:Value) (L:List Int),q=na - i/\i<=na/\L=dJ day [] ((al.map AC.day).take i)/\IsL y L.length/\(∃ a c,y=.slice a L.length c/\L.length<=c)/\f=[(0,SV.c (.slice aa na ac)),(1,SV.c (.slice xa nx xc)),(2,SV.c (.int .i64 day)),(7,SV.c y),(8,SV.c (.int .i64 (i:Nat)))]/\m=[(9630,Blk.own (.slice aa na ac) 61 76 na (cat AC.A al)),(9631,Blk.own (.slice xa nx xc) 31 10 nx (cat EC.A xs)),(9620,Blk.own y 3 1 L.length (aO L))],na,⟨_,_,⟨0,.slice none 0 0,[],by omega,by omega,rfl,.nil,⟨none,0,rfl,by decide⟩,rfl,rfl⟩,⟨rfl,rfl,rfl,rfl,rfl,trivial⟩,⟨.inl rfl,.inl rfl,.inr ⟨rfl,rfl,rfl⟩,trivial⟩,rfl⟩,?_⟩
  rintro q f m ⟨i,y,L,rfl,hi,hL,hy,hk,rfl,rfl⟩
  refine ⟨_,fun w' _=>ak Tryz.underlying51 w',fun c=>?_,fun c=>?_⟩
  ·have c:i < na:=by have:=ab c;omega
   rcases ha with ⟨hs1,hs2⟩ | ⟨g0,c0,hs1⟩
   ·omega
   cases hs1
   obtain ⟨z,hz⟩:∃ z,al[i]? = some z:=⟨_,getElem?_eq_getElem (by omega)⟩
   have LA:(cat AC.A al)[i*76+4]? = some (.int .i64 z.day):=(cq AC.size al i z 4 hz (by decide)).trans z.g4
   have hd:(al.map AC.day)[i]? = some z.day:=by rw [List.getElem?_map,hz];rfl
   have hlen:L.length<=200000000000:=by
    have:=ke day ((al.map AC.day).take i) []
    rw [hL]
    simp only [List.length_take,length_map,length_nil] at this
    omega
   have IR:=OwnC.caps (GX hE' (d:=z.day) (most:=day) hy hk rfl (by omega))
   refine ⟨by omega,by omega,.inr ⟨9630,g0,_,na,_,_,_,_,rfl,rfl,.int .i64 z.day,(by rw [yO];exact LA),?_⟩⟩
   refine .inr (.inr (.inr ⟨[],[],[_,_,_],[_],_,IR,rfl,⟨.inl rfl,trivial⟩,rfl,trivial,?_⟩))
   rintro r U ⟨⟨hr,rfl⟩,hcap⟩
   have hcap:=hcap 9620 _ _ _ _ _ rfl
   refine ⟨by kernel_rfl,?_⟩
   exact ⟨na - (i+1),_,_,by omega,⟨i+1,r,eL L z.day day,rfl,by omega,by rw [Bi hd,hL],hr,hcap,rfl,rfl⟩,⟨rfl,rfl,rfl,rfl,ag (aq (by omega)),trivial⟩,⟨.inl rfl,.inl rfl,.inl rfl,trivial⟩,rfl⟩
  ·have c:i=na:=by have:=ae c;omega
   have hLL:L=dJ day [] (al.map AC.day):=by rw [hL,List.take_of_length_le (by rw [length_map];omega)]
   rw [hLL] at hy hk
   exact ⟨_,_,⟨y,hy,hk,rfl,rfl⟩,⟨rfl,rfl,rfl,trivial⟩,⟨.inl rfl,.inl rfl,.inl (by rw [hLL];rfl),trivial⟩,rfl⟩
 ·rintro f1 m1 ⟨y0,hy0,hk0,rfl,rfl⟩
  refine ⟨fun q f m=>∃ (i:Nat) (y:Value) (L:List Int),q=nx - i/\i<=nx/\L=dJ day [] (al.map AC.day++(xs.map EC.day).take i)/\IsL y L.length/\(∃ a c,y=.slice a L.length c/\L.length<=c)/\f=[(1,SV.c (.slice xa nx xc)),(2,SV.c (.int .i64 day)),(7,SV.c y),(9,SV.c (.int .i64 (i:Nat)))]/\m=[(9630,Blk.own (.slice aa na ac) 61 76 na (cat AC.A al)),(9631,Blk.own (.slice xa nx xc) 31 10 nx (cat EC.A xs)),(9620,Blk.own y 3 1 L.length (aO L))],nx,⟨_,_,⟨0,y0,dJ day [] (al.map AC.day),by omega,by omega,by rw [List.take_zero,List.append_nil],hy0,hk0,rfl,rfl⟩,⟨rfl,rfl,rfl,rfl,trivial⟩,⟨.inl rfl,.inl rfl,.inl rfl,trivial⟩,rfl⟩,?_⟩
  rintro q f m ⟨i,y,L,rfl,hi,hL,hy,hk,rfl,rfl⟩
  refine ⟨_,fun w' _=>ak Tryz.underlying26 w',fun c=>?_,fun c=>?_⟩
  ·have c:i < nx:=by have:=ab c;omega
   rcases hx with ⟨hs1,hs2⟩ | ⟨g0,c0,hs1⟩
   ·omega
   cases hs1
   obtain ⟨z,hz⟩:∃ z,xs[i]? = some z:=⟨_,getElem?_eq_getElem (by omega)⟩
   have LA:(cat EC.A xs)[i*10+2]? = some (.int .i64 z.day):=(cq EC.size xs i z 2 hz (by decide)).trans z.g2
   have hd:(xs.map EC.day)[i]? = some z.day:=by rw [List.getElem?_map,hz];rfl
   have hlen:L.length<=200000000000:=by
    have:=ke day (al.map AC.day++(xs.map EC.day).take i) []
    rw [hL]
    simp only [length_append,List.length_take,length_map,length_nil] at this
    omega
   have IR:=OwnC.caps (GX hE' (d:=z.day) (most:=day) hy hk rfl (by omega))
   refine ⟨by omega,by omega,.inr ⟨9631,g0,_,nx,_,_,_,_,rfl,rfl,.int .i64 z.day,(by rw [u0];exact LA),?_⟩⟩
   refine .inr (.inr (.inr ⟨[],[],[_,_,_],[_],_,IR,rfl,⟨.inl rfl,trivial⟩,rfl,trivial,?_⟩))
   rintro r U ⟨⟨hr,rfl⟩,hcap⟩
   have hcap:=hcap 9620 _ _ _ _ _ rfl
   refine ⟨by kernel_rfl,?_⟩
   exact ⟨nx - (i+1),_,_,by omega,⟨i+1,r,eL L z.day day,rfl,by omega,by rw [gt hd,<- List.append_assoc,Bj,<- hL];rfl,hr,hcap,rfl,rfl⟩,⟨rfl,rfl,rfl,ag (aq (by omega)),trivial⟩,⟨.inl rfl,.inl rfl,.inl rfl,trivial⟩,rfl⟩
  ·have c:i=nx:=by have:=ae c;omega
   have hLL:L=t8 al xs day:=by rw [hL,List.take_of_length_le (by rw [length_map];omega)];rfl
   clear hL
   subst hLL
   exact ⟨[_,_,_],[],⟨hy,rfl⟩,⟨.inl rfl,.inl rfl,.inl rfl,trivial⟩,rfl⟩
def fM (g:Led):Led×Int:=pfL ⟨nzf g.h,nzf g.c,nzf g.p⟩
def FinQ (g:Led) (vh vc vp:Value) (r:Value) (U:aA):Prop:=∃ xh xc xp,IsL xh (fM g).1.h.length/\IsL xc (fM g).1.c.length/\IsL xp (fM g).1.p.length/\r=.tuple #[.agg #[xh,xc,xp],.int .i64 (fM g).2]/\U=[(9701,Blk.own vh 66 2 g.h.length (cat ao g.h)),(9702,Blk.own vc 49 3 g.c.length (cat ai g.c)),(9703,Blk.own vp 49 3 g.p.length (cat ai g.p)),(9506,Blk.own xh 66 2 (fM g).1.h.length (cat ao (fM g).1.h)),(9507,Blk.own xc 49 3 (fM g).1.c.length (cat ai (fM g).1.c)),(9508,Blk.own xp 49 3 (fM g).1.p.length (cat ai (fM g).1.p))]
theorem FinQ.bad {g:Led} {vh vc vp:Value} {e:Int} (h:fM g=(.zero,e)):FinQ g vh vc vp (.tuple #[.agg #[.slice none 0 0,.slice none 0 0,.slice none 0 0],.int .i64 e]) [(9701,Blk.own vh 66 2 g.h.length (cat ao g.h)),(9702,Blk.own vc 49 3 g.c.length (cat ai g.c)),(9703,Blk.own vp 49 3 g.p.length (cat ai g.p)),(9506,Blk.own (.slice none 0 0) 66 2 0 #[]),(9507,Blk.own (.slice none 0 0) 49 3 0 #[]),(9508,Blk.own (.slice none 0 0) 49 3 0 #[])]:=by
 refine ⟨.slice none 0 0,.slice none 0 0,.slice none 0 0,by rw [h];exact .nil,by rw [h];exact .nil,by rw [h];exact .nil,by rw [h],by rw [h];rfl⟩
theorem DT {E:Env} (hE:E.P=prog) {g:Led} {vh vc vp:Value} (hh:IsL vh g.h.length) (_hc:IsL vc g.c.length) (_hp:IsL vp g.p.length) (hl:g.h.length<=10000000000/\g.c.length<=10000000000/\g.p.length<=10000000000):OwnC E 71 [SV.c (.agg #[vh,vc,vp])] [(9701,Blk.own vh 66 2 g.h.length (cat ao g.h)),(9702,Blk.own vc 49 3 g.c.length (cat ai g.c)),(9703,Blk.own vp 49 3 g.p.length (cat ai g.p))] (FinQ g vh vc vp):=by
 refine av [7] af ah NY E hE [SV.c (.agg #[vh,vc,vp])] [(9701,Blk.own vh 66 2 g.h.length (cat ao g.h)),(9702,Blk.own vc 49 3 g.c.length (cat ai g.c)),(9703,Blk.own vp 49 3 g.p.length (cat ai g.p))] _ rfl rfl fun w X β hT=>?_
 have hE':(aN prog tt Tryz.f71.ntmps w X (ay [(9701,Blk.own vh 66 2 g.h.length (cat ao g.h)),(9702,Blk.own vc 49 3 g.c.length (cat ai g.c)),(9703,Blk.own vp 49 3 g.p.length (cat ai g.p))] β) [7]).toEnv.P=prog:=rfl
 obtain ⟨ha,hcap,rfl⟩:=hh.len
 refine ⟨rfl,?_⟩
 refine ⟨fun f m=>∃ (s:Value) (k:Nat),k=(nzf g.h).length/\IsL s k/\f=[(1,SV.ptr 1 0),(2,SV.ptr 2 0),(4,SV.ptr 4 0)]/\m=[(1,Blk.row 40 3 #[.slice ha g.h.length hcap,vc,vp]),(2,Blk.row 40 3 #[.slice none 0 0,.slice none 0 0,.slice none 0 0]),(4,Blk.row 40 3 #[s,.slice none 0 0,.slice none 0 0]),(9506,Blk.own s 66 2 k (cat ao (nzf g.h))),(9701,Blk.own (.slice ha g.h.length hcap) 66 2 g.h.length (cat ao g.h)),(9702,Blk.own vc 49 3 g.c.length (cat ai g.c)),(9703,Blk.own vp 49 3 g.p.length (cat ai g.p))],?_,?_⟩
 ·refine ⟨fun q f m=>∃ (i k:Nat) (s:Value),q=g.h.length - i/\i<=g.h.length/\k=(nzf (g.h.take i)).length/\IsL s k/\f=[(1,SV.ptr 1 0),(2,SV.ptr 2 0),(4,SV.ptr 4 0),(5,SV.c (.int .i64 (i:Nat)))]/\m=[(1,Blk.row 40 3 #[.slice ha g.h.length hcap,vc,vp]),(2,Blk.row 40 3 #[.slice none 0 0,.slice none 0 0,.slice none 0 0]),(4,Blk.row 40 3 #[s,.slice none 0 0,.slice none 0 0]),(9506,Blk.own s 66 2 k (cat ao (nzf (g.h.take i)))),(9701,Blk.own (.slice ha g.h.length hcap) 66 2 g.h.length (cat ao g.h)),(9702,Blk.own vc 49 3 g.c.length (cat ai g.c)),(9703,Blk.own vp 49 3 g.p.length (cat ai g.p))],g.h.length,⟨_,_,⟨0,0,.slice none 0 0,by omega,by omega,rfl,.nil,rfl,rfl⟩,⟨rfl,rfl,rfl,rfl,trivial⟩,⟨rfl,rfl,rfl,.inr ⟨rfl,rfl,rfl⟩,.inl rfl,.inl rfl,.inl rfl,trivial⟩,rfl⟩,?_⟩
  rintro q f m ⟨i,k,s,rfl,hi,hk,hs,rfl,rfl⟩
  refine ⟨_,rfl,_,fun w' _=>ak Tryz.underlying37 w',fun c=>?_,fun c=>?_⟩
  ·have c:i < g.h.length:=by have:=ab c;omega
   rcases hh with ⟨hs1,hs2⟩ | ⟨g0,c0,hs1⟩
   ·omega
   cases hs1
   obtain ⟨y,hy⟩:∃ y,g.h[i]? = some y:=⟨_,getElem?_eq_getElem c⟩
   have L1:=bd aJ hy
   have hsz:(cat ao g.h).size=g.h.length*2:=Go.SX.cat_size aJ _
   have LQ:(cat ao g.h)[i*2+1]? = some (.int .i64 y.2):=cq aJ g.h i y 1 hy (by decide)
   have X1:(ao y).extract 0 (0+1*2)=ao y:=by simp [ao]
   have hNT:=u4 hy
   have hkl:=FE g.h i
   obtain ⟨q,hq,hqb⟩:=my
   refine ⟨_,rfl,by omega,by omega,.inr ⟨9701,g0,_,g.h.length,_,_,_,_,rfl,rfl,.int .i64 y.2,(by rw [xf];exact LQ),?_⟩⟩
   refine ⟨fun c1=>?_,fun c1=>?_⟩
   ·have c1:(y.2 != 0)=true:=c1
    have c1:y.2≠0:=by simpa using c1
    rw [if_neg c1] at hNT
    refine ⟨_,rfl,_,rfl,by omega,by omega,.inr ⟨9701,g0,_,g.h.length,_,_,_,_,rfl,rfl,(by rw [xf,hsz];show i*2+2<=g.h.length*2;omega),ao y,(by rw [xf];exact L1),?_⟩⟩
    refine .inl ⟨by decide,by decide,_,fu y,rfl,by decide,9506,k,_,.inl rfl,by decide,(bO y).one,rfl,_,X1,?_⟩
    refine ⟨by omega,by unfold maxLen;omega,⟨q,hq,by rw [hqb];omega⟩,by change _=true;kernel_rfl,fun g2 cap2=>?_⟩
    refine ⟨by decide,rfl,#[.slice (some ⟨g2,0,none⟩) (k+1) cap2,.slice none 0 0,.slice none 0 0],rfl,by kernel_rfl,?_⟩
    exact ⟨g.h.length - (i+1),_,_,by omega,⟨i+1,k+1,.slice (some ⟨g2,0,none⟩) (k+1) cap2,rfl,by omega,by rw [hNT,length_append,<- hk];rfl,.some,rfl,rfl⟩,⟨rfl,rfl,rfl,ag (aq (by omega)),trivial⟩,⟨rfl,rfl,rfl,.inl (aB (by rw [hNT,qM])),.inl rfl,.inl rfl,.inl rfl,trivial⟩,rfl⟩
   ·have c1:(y.2 != 0)=false:=c1
    have c1:y.2=0:=by simpa using c1
    rw [if_pos c1] at hNT
    exact ⟨g.h.length - (i+1),_,_,by omega,⟨i+1,k,s,rfl,by omega,by rw [hNT];exact hk,hs,rfl,rfl⟩,⟨rfl,rfl,rfl,ag (aq (by omega)),trivial⟩,⟨rfl,rfl,rfl,.inl (by rw [hNT];rfl),.inl rfl,.inl rfl,.inl rfl,trivial⟩,rfl⟩
  ·have c:i=g.h.length:=by have:=ae c;omega
   have ht:g.h.take i=g.h:=List.take_of_length_le (by omega)
   rw [ht] at hk
   exact ⟨_,_,⟨s,k,hk,hs,rfl,rfl⟩,⟨rfl,rfl,rfl,trivial⟩,⟨rfl,rfl,rfl,.inl (by rw [ht];rfl),.inl rfl,.inl rfl,.inl rfl,trivial⟩,rfl⟩
 ·rintro f1 m1 ⟨s,k,hk,hs,rfl,rfl⟩
  have BC:=Ey hE' (x:=vc) (C:=g.c) rfl (by omega)
  have BP:=Ey hE' (x:=vp) (C:=g.p) rfl (by omega)
  refine ⟨_,rfl,?_⟩
  refine .inr (.inr (.inr ⟨[(9611,9702),(9602,9507)],[9507],[_],[_],_,BC,rfl,⟨.inl rfl,trivial⟩,rfl,trivial,?_⟩))
  rintro r U ⟨xc,nc,hnc,hxc,rfl,rfl⟩
  refine ⟨by kernel_rfl,?_⟩
  obtain ⟨sa,sc,rfl⟩:=hs.len
  obtain ⟨xca,xcc,rfl⟩:=hxc.len
  refine ⟨by decide,be hxc,#[.slice sa k sc,.slice xca nc xcc,.slice none 0 0],rfl,?_⟩
  refine ⟨_,rfl,?_⟩
  refine .inr (.inr (.inr ⟨[(9611,9703),(9602,9508)],[9508],[_],[_],_,BP,rfl,⟨.inl rfl,trivial⟩,rfl,trivial,?_⟩))
  rintro r U ⟨xp,np,hnp,hxp,rfl,rfl⟩
  refine ⟨by kernel_rfl,?_⟩
  obtain ⟨xpa,xpc,rfl⟩:=hxp.len
  refine ⟨by decide,be hxp,#[.slice sa k sc,.slice xca nc xcc,.slice xpa np xpc],rfl,?_⟩
  have hmE:∀ b:Bool,(da (nzf g.c) && da (nzf g.p))=b->¬ ((nzf g.h).length > 64\/(nzf g.c).length > 8)->la ⟨nzf g.h,nzf g.c,nzf g.p⟩=if b then 0 else 33:=fun b hb hm=>by
   rw [<- hb];unfold la;rw [if_neg hm];rfl
  have bad1:(nzf g.h).length > 64\/(nzf g.c).length > 8->fM g=(.zero,123):=fun h=>by
   have:la ⟨nzf g.h,nzf g.c,nzf g.p⟩=123:=by unfold la;rw [if_pos h]
   unfold fM pfL;rw [this];rfl
  refine ⟨_,rfl,_,fun w' _=>ak Tryz.underlying37 w',?_⟩
  refine ⟨fun c=>?_,fun c=>?_⟩
  ·have c:¬ k > 64:=by have:=ae (show decide (((k:Nat):Int) > 64)=false from c);omega
   refine ⟨_,rfl,_,fun w' _=>ak Tryz.underlying38 w',fun c2=>?_,fun c2=>?_⟩
   ·have c2:nc > 8:=by have:=ab (show decide (((nc:Nat):Int) > 8)=true from c2);omega
    refine ⟨_,rfl,bD,?_⟩
    exact ⟨_,[],FinQ.bad (bad1 (.inr (by omega))),⟨.inl rfl,.inl rfl,.inl rfl,.inr ⟨rfl,rfl,rfl⟩,.inr ⟨rfl,rfl,rfl⟩,.inr ⟨rfl,rfl,rfl⟩,trivial⟩,rfl⟩
   ·have c2:¬ nc > 8:=by have:=ae (show decide (((nc:Nat):Int) > 8)=false from c2);omega
    have hmE:=fun b hb=>hmE b hb (by omega)
    have bad2:(da (nzf g.c) && da (nzf g.p))=false->fM g=(.zero,33):=fun h=>by
     unfold fM pfL;rw [hmE false h];rfl
    refine ⟨fun c3=>?_,fun c3=>?_⟩
    ·have c3:(!da (nzf g.c))=false:=c3
     have c3:da (nzf g.c)=true:=by simpa using c3
     refine ⟨fun c4=>?_,fun c4=>?_⟩
     ·have c4:(!da (nzf g.p))=true:=c4
      have c4:da (nzf g.p)=false:=by simpa using c4
      refine ⟨_,rfl,bD,?_⟩
      exact ⟨_,[],FinQ.bad (bad2 (by rw [c4,Bool.and_false])),⟨.inl rfl,.inl rfl,.inl rfl,.inr ⟨rfl,rfl,rfl⟩,.inr ⟨rfl,rfl,rfl⟩,.inr ⟨rfl,rfl,rfl⟩,trivial⟩,rfl⟩
     ·have c4:(!da (nzf g.p))=false:=c4
      have c4:da (nzf g.p)=true:=by simpa using c4
      have hF:fM g=(⟨nzf g.h,nzf g.c,nzf g.p⟩,0):=by
       unfold fM pfL;rw [hmE true (by rw [c3,c4];rfl)];rfl
      have Q:FinQ g (.slice ha g.h.length hcap) vc vp (.tuple #[.agg #[.slice sa k sc,.slice xca nc xcc,.slice xpa np xpc],.int .i64 0]) [(9701,Blk.own (.slice ha g.h.length hcap) 66 2 g.h.length (cat ao g.h)),(9702,Blk.own vc 49 3 g.c.length (cat ai g.c)),(9703,Blk.own vp 49 3 g.p.length (cat ai g.p)),(9506,Blk.own (.slice sa k sc) 66 2 k (cat ao (nzf g.h))),(9507,Blk.own (.slice xca nc xcc) 49 3 nc (cat ai (nzf g.c))),(9508,Blk.own (.slice xpa np xpc) 49 3 np (cat ai (nzf g.p)))]:=⟨_,_,_,by rw [hF];show IsL _ (nzf g.h).length;rw [<- hk];exact hs,by rw [hF];show IsL _ (nzf g.c).length;rw [<- hnc];exact hxc,by rw [hF];show IsL _ (nzf g.p).length;rw [<- hnp];exact hxp,by rw [hF],by rw [hF,hk,hnc,hnp]⟩
      exact ⟨ky rfl rfl rfl,_,[],Q,⟨.inl rfl,.inl rfl,.inl rfl,.inl rfl,.inl rfl,.inl rfl,trivial⟩,rfl⟩
    ·have c3:(!da (nzf g.c))=true:=by simpa using c3
     have c3:da (nzf g.c)=false:=by simpa using c3
     refine ⟨fun _=>?_,nofun⟩
     refine ⟨_,rfl,bD,?_⟩
     exact ⟨_,[],FinQ.bad (bad2 (by rw [c3,Bool.false_and])),⟨.inl rfl,.inl rfl,.inl rfl,.inr ⟨rfl,rfl,rfl⟩,.inr ⟨rfl,rfl,rfl⟩,.inr ⟨rfl,rfl,rfl⟩,trivial⟩,rfl⟩
  ·have c:k > 64:=by have:=ab (show decide (((k:Nat):Int) > 64)=true by simpa using c);omega
   refine ⟨fun _=>?_,nofun⟩
   refine ⟨_,rfl,bD,?_⟩
   exact ⟨_,[],FinQ.bad (bad1 (.inl (by omega))),⟨.inl rfl,.inl rfl,.inl rfl,.inr ⟨rfl,rfl,rfl⟩,.inr ⟨rfl,rfl,rfl⟩,.inr ⟨rfl,rfl,rfl⟩,trivial⟩,rfl⟩
theorem MF {E:Env} (hE:E.P=prog) {g:Led} {vh vc vp:Value} (hh:IsL vh g.h.length) (hc:IsL vc g.c.length) (hp:IsL vp g.p.length) (hl:g.h.length<=10000000000/\g.c.length<=10000000000/\g.p.length<=10000000000) {a:AC} (ha:a.In):OwnC E 69 [SV.ptr 9700 0,SV.c (.agg a.A)] [(9701,Blk.own vh 66 2 g.h.length (cat ao g.h)),(9702,Blk.own vc 49 3 g.c.length (cat ai g.c)),(9703,Blk.own vp 49 3 g.p.length (cat ai g.p)),(9700,Blk.row 40 3 #[vh,vc,vp])] (MI (oK g a)):=by
 refine av [] af ah N0 E hE [SV.ptr 9700 0,SV.c (.agg a.A)] [(9701,Blk.own vh 66 2 g.h.length (cat ao g.h)),(9702,Blk.own vc 49 3 g.c.length (cat ai g.c)),(9703,Blk.own vp 49 3 g.p.length (cat ai g.p)),(9700,Blk.row 40 3 #[vh,vc,vp])] _ rfl rfl fun w X β hT=>?_
 have hE':(aN prog tt Tryz.f69.ntmps w X (ay [(9701,Blk.own vh 66 2 g.h.length (cat ao g.h)),(9702,Blk.own vc 49 3 g.c.length (cat ai g.c)),(9703,Blk.own vp 49 3 g.p.length (cat ai g.p)),(9700,Blk.row 40 3 #[vh,vc,vp])] β)).toEnv.P=prog:=rfl
 have HO:=tA hE' (x:=vh) (vc:=vc) (vp:=vp) (H:=g.h) (k:=a.ins) rfl (by omega)
 have A0:=a.size
 have AF:=a.fits
 have AG0:=a.g0
 have A2:=a.g2
 have A3:=a.g3
 have A8:=a.g73
 have AZ:=Gy ha (az g.h a.ins)
 generalize a.A=AA at A0 AF AG0 A2 A3 A8 AZ ⊢
 refine ⟨A0,?_⟩
 refine ⟨_,A2,?_⟩
 refine .inr (.inr (.inl ⟨[(9610,9701)],[_,_],[_],_,[_],HO,rfl,⟨.inl rfl,trivial⟩,by kernel_rfl,by kernel_rfl,?_⟩))
 refine .inl ⟨_,AZ,(aG a (az g.h a.ins)).1.fits,?_⟩
 have hR:(aG a (az g.h a.ins)).2=0->oK g a=if a.kind=3 then (if w64 ((aG a (az g.h a.ins)).1.qty+az (dE g.h a.ins 0) a.into) > 1000000000000000 then .error 171 else .ok ⟨dE (dE g.h a.ins 0) (aG a (az g.h a.ins)).1.ins (w64 ((aG a (az g.h a.ins)).1.qty+az (dE g.h a.ins 0) a.into)),cW g.c (a.cur,0) (aG a (az g.h a.ins)).1.cash,g.p⟩) else .ok ⟨dE g.h (aG a (az g.h a.ins)).1.ins (aG a (az g.h a.ins)).1.qty,cW g.c (a.cur,0) (aG a (az g.h a.ins)).1.cash,g.p⟩:=fun h=>by unfold oK;rw [if_neg (fun h'=>h' h)]
 refine ⟨by kernel_rfl,fun c=>?_,fun c=>?_⟩
 ·have c:((aG a (az g.h a.ins)).2 != 0)=true:=c
  have c:(aG a (az g.h a.ins)).2≠0:=by simpa using c
  have eR:oK g a=.error (aG a (az g.h a.ins)).2:=by unfold oK;rw [if_pos c]
  rw [eR]
  exact ⟨[(9701,Blk.own vh 66 2 g.h.length (cat ao g.h)),(9702,Blk.own vc 49 3 g.c.length (cat ai g.c)),(9703,Blk.own vp 49 3 g.p.length (cat ai g.p)),(9700,Blk.row 40 3 #[vh,vc,vp])],[],⟨g,vh,vc,vp,hh,hc,hp,rfl,rfl,c⟩,⟨.inl rfl,.inl rfl,.inl rfl,rfl,trivial⟩,rfl⟩
 have c:((aG a (az g.h a.ins)).2 != 0)=false:=c
 have c:(aG a (az g.h a.ins)).2=0:=by simpa using c
 have hR:=hR c
 clear AZ c
 generalize (aG a (az g.h a.ins)).1=x at hR ⊢
 refine ⟨_,AG0,fun k1=>?_,fun k1=>?_⟩
 ·have k1:(a.kind == 3)=true:=k1
  have k1:a.kind=3:=by simpa using k1
  rw [if_pos k1] at hR
  have TO:=tc hE' (x:=vh) (H:=g.h) (k:=a.ins) (m:=0) rfl (by omega)
  have hl1:=jF g.h a.ins 0
  refine ⟨_,rfl,_,A2,?_⟩
  refine .inr (.inr (.inr ⟨[(9610,9701)],[9600],[_,_,_],[_],_,TO,rfl,⟨.inl rfl,trivial⟩,by kernel_rfl,(by change _=true;kernel_rfl),?_⟩))
  rintro r U ⟨hv1,rfl⟩
  generalize dE g.h a.ins 0=H1 at hv1 hR hl1 ⊢
  have HO2:=tA hE' (x:=r) (vc:=vc) (vp:=vp) (H:=H1) (k:=a.into) rfl (by omega)
  obtain ⟨ya,yc,rfl⟩:=hv1.len
  refine ⟨by kernel_rfl,by decide,rfl,#[.slice ya H1.length yc,vc,vp],rfl,by kernel_rfl,?_⟩
  refine ⟨_,rfl,_,A3,?_⟩
  refine .inr (.inr (.inl ⟨[(9610,9600)],[_,_],[_],_,[_],HO2,rfl,⟨.inl rfl,trivial⟩,by kernel_rfl,by kernel_rfl,?_⟩))
  refine ⟨by decide,rfl,#[.string (S x.ins),.int .i64 (w64 (x.qty+az H1 a.into)),.int .i64 x.cash],rfl,by kernel_rfl,?_⟩
  refine ⟨_,rfl,fun c1=>?_,fun c1=>?_⟩
  ·have c1:w64 (x.qty+az H1 a.into) > 1000000000000000:=ab c1
   rw [if_pos c1] at hR
   rw [hR]
   exact ⟨[(9701,Blk.own (.slice ya H1.length yc) 66 2 H1.length (cat ao H1)),(9702,Blk.own vc 49 3 g.c.length (cat ai g.c)),(9703,Blk.own vp 49 3 g.p.length (cat ai g.p)),(9700,Blk.row 40 3 #[.slice ya H1.length yc,vc,vp])],[(9701,9600)],⟨⟨H1,g.c,g.p⟩,.slice ya H1.length yc,vc,vp,hv1,hc,hp,rfl,rfl,by decide⟩,⟨.inl rfl,.inl rfl,.inl rfl,rfl,trivial⟩,rfl⟩
  ·have c1:¬ w64 (x.qty+az H1 a.into) > 1000000000000000:=ae c1
   rw [if_neg c1] at hR
   generalize w64 (x.qty+az H1 a.into)=z at hR ⊢
   have TO2:=tc hE' (x:=.slice ya H1.length yc) (H:=H1) (k:=x.ins) (m:=z) rfl (by omega)
   refine ⟨_,rfl,_,rfl,_,rfl,?_⟩
   refine .inr (.inr (.inr ⟨[(9610,9600),(9600,9630)],[9630],[_,_,_],[_],_,TO2,rfl,⟨.inl rfl,trivial⟩,by kernel_rfl,(by change _=true;kernel_rfl),?_⟩))
   rintro r U ⟨hv2,rfl⟩
   generalize dE H1 x.ins z=H2 at hv2 hR ⊢
   obtain ⟨yb,yd,rfl⟩:=hv2.len
   refine ⟨by kernel_rfl,by decide,rfl,#[.slice yb H2.length yd,vc,vp],rfl,by kernel_rfl,?_⟩
   have PO:=nE hE' (x:=vc) (C:=g.c) (k:=(a.cur,0)) (m:=x.cash) rfl (by omega)
   refine ⟨_,rfl,_,A8,_,rfl,_,o6 a.cur x.cash rfl,?_⟩
   refine .inr (.inr (.inr ⟨[(9611,9702)],[9601],[_,_],[_],_,PO,rfl,⟨.inl rfl,trivial⟩,by kernel_rfl,(by change _=true;kernel_rfl),?_⟩))
   rintro r U ⟨hv,rfl⟩
   generalize cW g.c (a.cur,0) x.cash=C2 at hv hR ⊢
   obtain ⟨yg,yk,rfl⟩:=hv.len
   refine ⟨by kernel_rfl,by decide,rfl,#[.slice yb H2.length yd,.slice yg C2.length yk,vp],rfl,by kernel_rfl,?_⟩
   rw [hR]
   exact ⟨[(9701,Blk.own (.slice yb H2.length yd) 66 2 H2.length (cat ao H2)),(9702,Blk.own (.slice yg C2.length yk) 49 3 C2.length (cat ai C2)),(9703,Blk.own vp 49 3 g.p.length (cat ai g.p)),(9700,Blk.row 40 3 #[.slice yb H2.length yd,.slice yg C2.length yk,vp])],[(9701,9630),(9702,9601)],⟨⟨H2,C2,g.p⟩,.slice yb H2.length yd,.slice yg C2.length yk,vp,hv2,hv,hp,rfl,rfl,rfl⟩,⟨.inl rfl,.inl rfl,.inl rfl,rfl,trivial⟩,rfl⟩
 ·have k1:(a.kind == 3)=false:=k1
  have k1:¬ a.kind=3:=by simpa using k1
  rw [if_neg k1] at hR
  have TO:=tc hE' (x:=vh) (H:=g.h) (k:=x.ins) (m:=x.qty) rfl (by omega)
  refine ⟨_,rfl,_,rfl,_,rfl,?_⟩
  refine .inr (.inr (.inr ⟨[(9610,9701)],[9600],[_,_,_],[_],_,TO,rfl,⟨.inl rfl,trivial⟩,by kernel_rfl,(by change _=true;kernel_rfl),?_⟩))
  rintro r U ⟨hv2,rfl⟩
  generalize dE g.h x.ins x.qty=H2 at hv2 hR ⊢
  obtain ⟨yb,yd,rfl⟩:=hv2.len
  refine ⟨by kernel_rfl,by decide,rfl,#[.slice yb H2.length yd,vc,vp],rfl,by kernel_rfl,?_⟩
  have PO:=nE hE' (x:=vc) (C:=g.c) (k:=(a.cur,0)) (m:=x.cash) rfl (by omega)
  refine ⟨_,rfl,_,A8,_,rfl,_,o6 a.cur x.cash rfl,?_⟩
  refine .inr (.inr (.inr ⟨[(9611,9702)],[9601],[_,_],[_],_,PO,rfl,⟨.inl rfl,trivial⟩,by kernel_rfl,(by change _=true;kernel_rfl),?_⟩))
  rintro r U ⟨hv,rfl⟩
  generalize cW g.c (a.cur,0) x.cash=C2 at hv hR ⊢
  obtain ⟨ya,yc,rfl⟩:=hv.len
  refine ⟨by kernel_rfl,by decide,rfl,#[.slice yb H2.length yd,.slice ya C2.length yc,vp],rfl,by kernel_rfl,?_⟩
  rw [hR]
  exact ⟨[(9701,Blk.own (.slice yb H2.length yd) 66 2 H2.length (cat ao H2)),(9702,Blk.own (.slice ya C2.length yc) 49 3 C2.length (cat ai C2)),(9703,Blk.own vp 49 3 g.p.length (cat ai g.p)),(9700,Blk.row 40 3 #[.slice yb H2.length yd,.slice ya C2.length yc,vp])],[(9701,9600),(9702,9601)],⟨⟨H2,C2,g.p⟩,.slice yb H2.length yd,.slice ya C2.length yc,vp,hv2,hv,hp,rfl,rfl,rfl⟩,⟨.inl rfl,.inl rfl,.inl rfl,rfl,trivial⟩,rfl⟩
theorem EN {g g':Led} {a:AC} (e:oK g a=.ok g'):g'.h.length<=g.h.length+2/\g'.c.length<=g.c.length+1/\g'.p=g.p:=by
 unfold oK at e
 split at e
 ·cases e
 ·split at e
  ·split at e
   ·cases e
   ·cases e
    have h1:=jF g.h a.ins 0
    have h2:=jF (dE g.h a.ins 0) (aG a (az g.h a.ins)).1.ins (w64 ((aG a (az g.h a.ins)).1.qty+az (dE g.h a.ins 0) a.into))
    exact ⟨by show (dE _ _ _).length<=_;omega,mi _ _ _,rfl⟩
  ·cases e
   have h1:=jF g.h (aG a (az g.h a.ins)).1.ins (aG a (az g.h a.ins)).1.qty
   exact ⟨by show (dE _ _ _).length<=_;omega,mi _ _ _,rfl⟩
theorem sE (day:Int) (g:Led) (x:EC):(fh day g x).h=g.h/\(fh day g x).c.length<=g.c.length+1/\(fh day g x).p.length<=g.p.length+1:=by
 unfold fh
 split
 ·exact ⟨rfl,mi _ _ _,by simp⟩
 ·exact ⟨rfl,by simp,mi _ _ _⟩
theorem D8 {day:Int} {g g':Led} {x:EC} (e:ko day g x=.ok g'):g'.h.length<=g.h.length+1/\g'.c.length<=g.c.length+1/\g'.p.length<=g.p.length+1:=by
 unfold ko at e
 split at e
 ·split at e
  ·cases e
  ·split at e
   ·cases e
   ·cases e
    have h:=sE day { g with h:=dE g.h x.ins (w64 (az g.h x.ins+x.qty)) } x
    have h1:=jF g.h x.ins (w64 (az g.h x.ins+x.qty))
    refine ⟨by rw [h.1];exact h1,h.2.1,h.2.2⟩
 ·cases e
  have h:=sE day g x
  exact ⟨by rw [h.1];omega,h.2.1,h.2.2⟩
theorem Ny {E:Env} (hE:E.P=prog) {ve va:Value} {xs:List EC} {al:List AC} {k day:Int} (hv:Lst E ve 10 xs.length (cat EC.A xs)) (hva:Lst E va 76 al.length (cat AC.A al)) (hn:xs.length<=2000000000000) (hm:al.length<=1000000000000) (hin:∀ y∈xs,y.In) (hina:∀ y∈al,y.In):OwnC E 32 [SV.c ve,SV.c va,SV.c (.int .i64 k),SV.c (.int .i64 day)] [] (AtQ (atP xs al k day)):=by
 refine av [] af ah OA E hE [SV.c ve,SV.c va,SV.c (.int .i64 k),SV.c (.int .i64 day)] [] _ rfl rfl fun w X β hT=>?_
 have hv':=hv.of_old hT
 have hva':=hva.of_old hT
 have hE':(aN prog tt Tryz.f32.ntmps w X (ay [] β)).toEnv.P=prog:=rfl
 have C1:=ue (k:=k) hE' hv' hn hin
 have C2:=EW (k:=k) hE' hva' hm hina
 refine .inr (.inr (.inr ⟨[],[3000],[_,_],[],_,C1,rfl,trivial,rfl,trivial,?_⟩))
 rintro r U ⟨sx,nx,hsx,rfl,hx,rfl⟩
 refine ⟨rfl,?_⟩
 have bad:∀ e:Int,atP xs al k day=(.zero,e)->AtQ (atP xs al k day) (.tuple #[.agg #[.slice none 0 0,.slice none 0 0,.slice none 0 0],.int .i64 e]) [(9506,Blk.own (.slice none 0 0) 66 2 0 #[]),(9507,Blk.own (.slice none 0 0) 49 3 0 #[]),(9508,Blk.own (.slice none 0 0) 49 3 0 #[])]:=fun e h=>by
  rw [h];exact AtQ.bad e
 refine ⟨fun h=>?_,fun h=>?_⟩
 ·have h:(cT xs != 0)=true:=h
  have h:cT xs≠0:=by simpa using h
  have hP:atP xs al k day=(.zero,cT xs):=by unfold atP;rw [if_pos h]
  refine ⟨_,rfl,bD,?_⟩
  exact ⟨_,[],bad _ hP,⟨.inr ⟨rfl,rfl,rfl⟩,.inr ⟨rfl,rfl,rfl⟩,.inr ⟨rfl,rfl,rfl⟩,trivial⟩,rfl⟩
 have h:(cT xs != 0)=false:=h
 have hX:cT xs=0:=by simpa using h
 refine .inr (.inr (.inr ⟨[(3000,3001)],[3001],[_,_],[],_,C2,rfl,trivial,rfl,trivial,?_⟩))
 rintro r U ⟨sa,na,hsa,rfl,ha,rfl⟩
 refine ⟨rfl,?_⟩
 refine ⟨fun h=>?_,fun h=>?_⟩
 ·have h:(cZ al != 0)=true:=h
  have h:cZ al≠0:=by simpa using h
  have hP:atP xs al k day=(.zero,cZ al):=by unfold atP;rw [if_neg (fun h=>h hX),if_pos h]
  refine ⟨_,rfl,bD,?_⟩
  exact ⟨_,[],bad _ hP,⟨.inr ⟨rfl,rfl,rfl⟩,.inr ⟨rfl,rfl,rfl⟩,.inr ⟨rfl,rfl,rfl⟩,trivial⟩,rfl⟩
 have h:(cZ al != 0)=false:=h
 have hA:cZ al=0:=by simpa using h
 refine .inl ⟨_,uT day,fun h=>?_,fun h=>?_⟩
 ·have h:(decide (day < 0) || decide (day > 73048))=true:=h
  have hP:atP xs al k day=(.zero,50):=by
   unfold atP
   rw [if_neg (fun h=>h hX),if_neg (fun h=>h hA),if_pos]
   rw [Bool.eq_false_iff]
   intro h2
   have h2:=ef.1 h2
   simp only [Bool.or_eq_true,decide_eq_true_eq] at h
   omega
  refine ⟨_,rfl,bD,?_⟩
  exact ⟨_,[],bad _ hP,⟨.inr ⟨rfl,rfl,rfl⟩,.inr ⟨rfl,rfl,rfl⟩,.inr ⟨rfl,rfl,rfl⟩,trivial⟩,rfl⟩
 have h:(decide (day < 0) || decide (day > 73048))=false:=h
 have hD:inB day 0 73048=true:=by
  simp only [Bool.or_eq_false_iff,decide_eq_false_iff_not] at h
  exact ef.2 ⟨by omega,by omega⟩
 have hP:atP xs al k day=H7 (kK day .zero ((t8 (eJ al k) (dQ xs k) day).flatMap (onD (eJ al k) (dQ xs k)))):=by
  rw [<- Fy,Iq];unfold atP;rw [if_neg (fun h=>h hX),if_neg (fun h=>h hA),if_neg (by rw [hD];decide)]
 have mA:∀ a∈eJ al k,a.In:=fun a h=>hina a (pr a h).1
 have nX:nx<=4096:=by rw [hsx];exact lm hX
 have nA:na<=4096:=by rw [hsa];exact pt hA
 obtain ⟨aaa,aac,rfl⟩:=ha.len
 obtain ⟨xxa,xxc,rfl⟩:=hx.len
 have DR:=Ig hE' (day:=day) ha hx hsa hsx (by omega)
 generalize eJ al k=A at hsa hP mA DR ⊢
 generalize dQ xs k=B at hsx hP DR ⊢
 have lD:(t8 A B day).length<=na+nx:=by
  have:=ke day (A.map AC.day++B.map EC.day) []
  simp only [length_append,length_map,length_nil] at this
  unfold t8;omega
 refine .inr (.inr (.inr ⟨[(9630,3001),(9631,3000)],[9620],[_,_,_],[_,_],_,DR,rfl,⟨.inl rfl,.inl rfl,trivial⟩,rfl,trivial,?_⟩))
 rintro vD U ⟨hvD,rfl⟩
 generalize t8 A B day=D at hP lD hvD ⊢
 refine ⟨by kernel_rfl,?_⟩
 obtain ⟨aD,cD,rfl⟩:=hvD.len
 refine ⟨fun q f m=>∃ (i:Nat) (r:Led) (vh vc vp:Value),q=D.length - i/\i<=D.length/\IsL vh r.h.length/\IsL vc r.c.length/\IsL vp r.p.length/\(r.h.length<=2*(i*(na+nx))/\r.c.length<=i*(na+nx)/\r.p.length<=i*(na+nx))/\kK day .zero (D.flatMap (onD A B))=kK day r ((D.drop i).flatMap (onD A B))/\f=[(3,SV.c (.int .i64 day)),(8,SV.ptr 8 0),(10,SV.c (.slice xxa nx xxc)),(12,SV.c (.slice aaa na aac)),(13,SV.ptr 13 0),(14,SV.c (.slice aD D.length cD)),(15,SV.c (.int .i64 (i:Nat)))]/\m=[(8,Blk.row 40 3 #[.slice none 0 0,.slice none 0 0,.slice none 0 0]),(13,Blk.row 40 3 #[vh,vc,vp]),(3000,Blk.own (.slice xxa nx xxc) 31 10 nx (cat EC.A B)),(3001,Blk.own (.slice aaa na aac) 61 76 na (cat AC.A A)),(9620,Blk.own (.slice aD D.length cD) 3 1 D.length (aO D)),(9701,Blk.own vh 66 2 (r.h).length (cat ao r.h)),(9702,Blk.own vc 49 3 (r.c).length (cat ai r.c)),(9703,Blk.own vp 49 3 (r.p).length (cat ai r.p))],D.length,⟨_,_,⟨0,.zero,.slice none 0 0,.slice none 0 0,.slice none 0 0,by omega,by omega,.nil,.nil,.nil,⟨by show (0:Nat)<=_;omega,by show (0:Nat)<=_;omega,by show (0:Nat)<=_;omega⟩,rfl,rfl,rfl⟩,⟨rfl,rfl,rfl,rfl,rfl,rfl,rfl,trivial⟩,⟨rfl,rfl,.inl rfl,.inl rfl,.inl rfl,.inr ⟨rfl,rfl,rfl⟩,.inr ⟨rfl,rfl,rfl⟩,.inr ⟨rfl,rfl,rfl⟩,trivial⟩,rfl⟩,?_⟩
 rintro q f m ⟨i,r,vh,vc,vp,rfl,hi,hh,hc,hp,hl,hR,rfl,rfl⟩
 have hPb:i*(na+nx)<=8192*8192:=Nat.mul_le_mul (by omega) (by omega)
 refine ⟨_,fun w' _=>ak Tryz.underlying22 w',fun c=>?_,fun c=>?_⟩
 ·have c:i < D.length:=by have:=ab c;omega
  have hlt:(i+1)*(na+nx)=i*(na+nx)+(na+nx):=Nat.succ_mul _ _
  generalize i*(na+nx)=P0 at hlt hl hPb
  obtain ⟨d,hd⟩:∃ d,D[i]? = some d:=⟨_,getElem?_eq_getElem c⟩
  have hdd:=co hd
  rw [hdd,List.flatMap_cons] at hR
  rw [show onD A B d=(A.filter fun a=>decide (a.day=d)).map (Sum.inl:AC->Ev)++(B.filter fun x=>decide (x.day=d)).map (Sum.inr:EC->Ev) from rfl] at hR
  rw [List.append_assoc] at hR
  rcases hvD with ⟨hs1,hs2⟩ | ⟨gD,c0,hs1⟩
  ·omega
  cases hs1
  have LD:(aO D)[i]? = some (.int .i64 d):=tw hd
  obtain ⟨T,hT0⟩:∃ T,T=(D.drop (i+1)).flatMap (onD A B):=⟨_,rfl⟩
  obtain ⟨TB,hTB⟩:∃ TB,TB=(B.filter fun x=>decide (x.day=d)).map (Sum.inr:EC->Ev)++T:=⟨_,rfl⟩
  rw [<- hT0,<- hTB] at hR
  refine ⟨fun q f m=>∃ (j:Nat) (r2:Led) (wh wc wp:Value),q=na - j/\j<=na/\IsL wh r2.h.length/\IsL wc r2.c.length/\IsL wp r2.p.length/\(r2.h.length<=2*(P0+j)/\r2.c.length<=P0+j/\r2.p.length<=P0+j)/\kK day .zero (D.flatMap (onD A B))=kK day r2 (((A.drop j).filter fun a=>decide (a.day=d)).map (Sum.inl:AC->Ev)++TB)/\f=[(3,SV.c (.int .i64 day)),(8,SV.ptr 8 0),(10,SV.c (.slice xxa nx xxc)),(12,SV.c (.slice aaa na aac)),(13,SV.ptr 13 0),(14,SV.c (.slice (some ⟨gD,0,none⟩) D.length cD)),(15,SV.c (.int .i64 (i:Nat))),(16,SV.c (.int .i64 (j:Nat)))]/\m=[(8,Blk.row 40 3 #[.slice none 0 0,.slice none 0 0,.slice none 0 0]),(13,Blk.row 40 3 #[wh,wc,wp]),(3000,Blk.own (.slice xxa nx xxc) 31 10 nx (cat EC.A B)),(3001,Blk.own (.slice aaa na aac) 61 76 na (cat AC.A A)),(9620,Blk.own (.slice (some ⟨gD,0,none⟩) D.length cD) 3 1 D.length (aO D)),(9701,Blk.own wh 66 2 (r2.h).length (cat ao r2.h)),(9702,Blk.own wc 49 3 (r2.c).length (cat ai r2.c)),(9703,Blk.own wp 49 3 (r2.p).length (cat ai r2.p))],na,⟨_,_,⟨0,r,vh,vc,vp,by omega,by omega,hh,hc,hp,by omega,hR,rfl,rfl⟩,⟨rfl,rfl,rfl,rfl,rfl,rfl,rfl,rfl,trivial⟩,⟨rfl,rfl,.inl rfl,.inl rfl,.inl rfl,.inl rfl,.inl rfl,.inl rfl,trivial⟩,rfl⟩,?_⟩
  rintro q f m ⟨j,r2,wh,wc,wp,rfl,hj,hh2,hc2,hp2,hl2,hR2,rfl,rfl⟩
  refine ⟨_,fun w' _=>ak Tryz.underlying51 w',fun c1=>?_,fun c1=>?_⟩
  ·have c1:j < na:=by have:=ab c1;omega
   rcases ha with ⟨hs1,hs2⟩ | ⟨gA,cA0,hs1⟩
   ·omega
   cases hs1
   obtain ⟨a,haj⟩:∃ a,A[j]? = some a:=⟨_,getElem?_eq_getElem (by omega)⟩
   have LA:(cat AC.A A)[j*76+4]? = some (.int .i64 a.day):=(cq AC.size A j a 4 haj (by decide)).trans a.g4
   rw [co haj,List.filter_cons] at hR2
   refine ⟨by omega,by omega,.inr ⟨3001,gA,_,na,_,_,_,_,rfl,rfl,.int .i64 a.day,(by rw [yO];exact LA),?_⟩⟩
   refine ⟨by omega,by omega,.inr ⟨9620,gD,_,D.length,_,_,_,_,rfl,rfl,.int .i64 d,(by rw [u3];exact LD),?_⟩⟩
   refine ⟨by kernel_rfl,fun c2=>?_,fun c2=>?_⟩
   ·have c2:(a.day != d)=true:=c2
    have c2:¬ a.day=d:=by simpa using c2
    rw [if_neg (by simpa using c2)] at hR2
    exact ⟨na - (j+1),_,_,by omega,⟨j+1,r2,wh,wc,wp,rfl,by omega,hh2,hc2,hp2,by omega,hR2,rfl,rfl⟩,⟨rfl,rfl,rfl,rfl,rfl,rfl,rfl,ag (aq (by omega)),trivial⟩,⟨rfl,rfl,.inl rfl,.inl rfl,.inl rfl,.inl rfl,.inl rfl,.inl rfl,trivial⟩,rfl⟩
   ·have c2:(a.day != d)=false:=c2
    have c2:a.day=d:=by simpa using c2
    rw [if_pos (by simpa using c2),map_cons,List.cons_append,kK] at hR2
    have AO:=MF hE' (g:=r2) hh2 hc2 hp2 (by omega) (mA a (mem_of_getElem? haj))
    have EA:=bd AC.size haj
    have hszA:(cat AC.A A).size=na*76:=by rw [Go.SX.cat_size AC.size,hsa]
    generalize a.A=AA at AO EA
    refine ⟨by omega,by omega,.inr ⟨3001,gA,_,na,_,_,_,_,rfl,rfl,(by rw [yO,hszA];show j*76+76<=na*76;omega),AA,(by rw [yO];exact EA),?_⟩⟩
    refine .inr (.inr (.inr ⟨[(9700,13)],[],[_,_],[_,_,_,_],_,AO,rfl,⟨.inl rfl,.inl rfl,.inl rfl,rfl,trivial⟩,by kernel_rfl,trivial,?_⟩))
    rintro r U ⟨g2,zh,zc,zp,k1,k2,k3,rfl,hM⟩
    refine ⟨by kernel_rfl,?_⟩
    have hst:ry day r2 (.inl a)=oK r2 a:=rfl
    rw [hst] at hR2
    cases hS:oK r2 a with
    | error e =>
     rw [hS] at hM hR2
     obtain ⟨rfl,he⟩:=hM
     have hR2:kK day .zero (D.flatMap (onD A B))=.error e:=hR2
     refine ⟨fun _=>?_,fun c3=>absurd (show (e != 0)=false from c3) (by simpa using he)⟩
     refine ⟨_,rfl,bD,?_⟩
     exact ⟨_,[],bad e (by rw [hP,hR2];rfl),⟨.inr ⟨rfl,rfl,rfl⟩,.inr ⟨rfl,rfl,rfl⟩,.inr ⟨rfl,rfl,rfl⟩,trivial⟩,rfl⟩
    | ok g' =>
     rw [hS] at hM hR2
     obtain ⟨rfl,rfl⟩:=hM
     obtain ⟨s1,s2,s3⟩:=EN hS
     refine ⟨nofun,fun _=>?_⟩
     exact ⟨na - (j+1),_,_,by omega,⟨j+1,g2,zh,zc,zp,rfl,by omega,k1,k2,k3,⟨by omega,by omega,by rw [s3];omega⟩,hR2,rfl,rfl⟩,⟨rfl,rfl,rfl,rfl,rfl,rfl,rfl,ag (aq (by omega)),trivial⟩,⟨rfl,rfl,.inl rfl,.inl rfl,.inl rfl,.inl rfl,.inl rfl,.inl rfl,trivial⟩,rfl⟩
  ·have c1:j=na:=by have:=ae c1;omega
   rw [List.drop_eq_nil_of_le (by omega),List.filter_nil,map_nil,List.nil_append] at hR2
   clear hl hR hh hc hp
   subst hTB
   refine ⟨fun q f m=>∃ (j:Nat) (r3:Led) (wh wc wp:Value),q=nx - j/\j<=nx/\IsL wh r3.h.length/\IsL wc r3.c.length/\IsL wp r3.p.length/\(r3.h.length<=2*(P0+na+j)/\r3.c.length<=P0+na+j/\r3.p.length<=P0+na+j)/\kK day .zero (D.flatMap (onD A B))=kK day r3 (((B.drop j).filter fun x=>decide (x.day=d)).map (Sum.inr:EC->Ev)++T)/\f=[(3,SV.c (.int .i64 day)),(8,SV.ptr 8 0),(10,SV.c (.slice xxa nx xxc)),(12,SV.c (.slice aaa na aac)),(13,SV.ptr 13 0),(14,SV.c (.slice (some ⟨gD,0,none⟩) D.length cD)),(15,SV.c (.int .i64 (i:Nat))),(18,SV.c (.int .i64 (j:Nat)))]/\m=[(8,Blk.row 40 3 #[.slice none 0 0,.slice none 0 0,.slice none 0 0]),(13,Blk.row 40 3 #[wh,wc,wp]),(3000,Blk.own (.slice xxa nx xxc) 31 10 nx (cat EC.A B)),(3001,Blk.own (.slice aaa na aac) 61 76 na (cat AC.A A)),(9620,Blk.own (.slice (some ⟨gD,0,none⟩) D.length cD) 3 1 D.length (aO D)),(9701,Blk.own wh 66 2 (r3.h).length (cat ao r3.h)),(9702,Blk.own wc 49 3 (r3.c).length (cat ai r3.c)),(9703,Blk.own wp 49 3 (r3.p).length (cat ai r3.p))],nx,⟨_,_,⟨0,r2,wh,wc,wp,by omega,by omega,hh2,hc2,hp2,by omega,hR2,rfl,rfl⟩,⟨rfl,rfl,rfl,rfl,rfl,rfl,rfl,rfl,trivial⟩,⟨rfl,rfl,.inl rfl,.inl rfl,.inl rfl,.inl rfl,.inl rfl,.inl rfl,trivial⟩,rfl⟩,?_⟩
   clear hl2 hR2 hh2 hc2 hp2
   rintro q f m ⟨j,r3,wh,wc,wp,rfl,hj,hh3,hc3,hp3,hl3,hR3,rfl,rfl⟩
   refine ⟨_,fun w' _=>ak Tryz.underlying26 w',fun c1=>?_,fun c1=>?_⟩
   ·have c1:j < nx:=by have:=ab c1;omega
    rcases hx with ⟨hs1,hs2⟩ | ⟨gX,cX0,hs1⟩
    ·omega
    cases hs1
    obtain ⟨x,hxj⟩:∃ x,B[j]? = some x:=⟨_,getElem?_eq_getElem (by omega)⟩
    have LX:(cat EC.A B)[j*10+2]? = some (.int .i64 x.day):=(cq EC.size B j x 2 hxj (by decide)).trans x.g2
    rw [co hxj,List.filter_cons] at hR3
    refine ⟨by omega,by omega,.inr ⟨3000,gX,_,nx,_,_,_,_,rfl,rfl,.int .i64 x.day,(by rw [u0];exact LX),?_⟩⟩
    refine ⟨by omega,by omega,.inr ⟨9620,gD,_,D.length,_,_,_,_,rfl,rfl,.int .i64 d,(by rw [u3];exact LD),?_⟩⟩
    refine ⟨by kernel_rfl,fun c2=>?_,fun c2=>?_⟩
    ·have c2:(x.day != d)=true:=c2
     have c2:¬ x.day=d:=by simpa using c2
     rw [if_neg (by simpa using c2)] at hR3
     exact ⟨nx - (j+1),_,_,by omega,⟨j+1,r3,wh,wc,wp,rfl,by omega,hh3,hc3,hp3,by omega,hR3,rfl,rfl⟩,⟨rfl,rfl,rfl,rfl,rfl,rfl,rfl,ag (aq (by omega)),trivial⟩,⟨rfl,rfl,.inl rfl,.inl rfl,.inl rfl,.inl rfl,.inl rfl,.inl rfl,trivial⟩,rfl⟩
    ·have c2:(x.day != d)=false:=c2
     have c2:x.day=d:=by simpa using c2
     rw [if_pos (by simpa using c2),map_cons,List.cons_append,kK] at hR3
     have AO:=Gg hE' (g:=r3) (day:=day) hh3 hc3 hp3 (by omega) (x:=x)
     have EA:=bd EC.size hxj
     have hszX:(cat EC.A B).size=nx*10:=by rw [Go.SX.cat_size EC.size,hsx]
     generalize x.A=AA at AO EA
     refine ⟨by omega,by omega,.inr ⟨3000,gX,_,nx,_,_,_,_,rfl,rfl,(by rw [u0,hszX];show j*10+10<=nx*10;omega),AA,(by rw [u0];exact EA),?_⟩⟩
     refine .inr (.inr (.inr ⟨[(9700,13)],[],[_,_,_],[_,_,_,_],_,AO,rfl,⟨.inl rfl,.inl rfl,.inl rfl,rfl,trivial⟩,by kernel_rfl,trivial,?_⟩))
     rintro r U ⟨g2,zh,zc,zp,k1,k2,k3,rfl,hM⟩
     refine ⟨by kernel_rfl,?_⟩
     have hst:ry day r3 (.inr x)=ko day r3 x:=rfl
     rw [hst] at hR3
     cases hS:ko day r3 x with
     | error e =>
      rw [hS] at hM hR3
      obtain ⟨rfl,he⟩:=hM
      have hR3:kK day .zero (D.flatMap (onD A B))=.error e:=hR3
      refine ⟨fun _=>?_,fun c3=>absurd (show (e != 0)=false from c3) (by simpa using he)⟩
      refine ⟨_,rfl,bD,?_⟩
      exact ⟨_,[],bad e (by rw [hP,hR3];rfl),⟨.inr ⟨rfl,rfl,rfl⟩,.inr ⟨rfl,rfl,rfl⟩,.inr ⟨rfl,rfl,rfl⟩,trivial⟩,rfl⟩
     | ok g' =>
      rw [hS] at hM hR3
      obtain ⟨rfl,rfl⟩:=hM
      obtain ⟨s1,s2,s3⟩:=D8 hS
      refine ⟨nofun,fun _=>?_⟩
      exact ⟨nx - (j+1),_,_,by omega,⟨j+1,g2,zh,zc,zp,rfl,by omega,k1,k2,k3,⟨by omega,by omega,by omega⟩,hR3,rfl,rfl⟩,⟨rfl,rfl,rfl,rfl,rfl,rfl,rfl,ag (aq (by omega)),trivial⟩,⟨rfl,rfl,.inl rfl,.inl rfl,.inl rfl,.inl rfl,.inl rfl,.inl rfl,trivial⟩,rfl⟩
   ·have c1:j=nx:=by have:=ae c1;omega
    rw [List.drop_eq_nil_of_le (by omega),List.filter_nil,map_nil,List.nil_append] at hR3
    exact ⟨D.length - (i+1),_,_,by omega,⟨i+1,r3,wh,wc,wp,rfl,by omega,hh3,hc3,hp3,⟨by rw [hlt];omega,by rw [hlt];omega,by rw [hlt];omega⟩,by rw [hR3,hT0],rfl,rfl⟩,⟨rfl,rfl,rfl,rfl,rfl,rfl,ag (aq (by omega)),trivial⟩,⟨rfl,rfl,.inl rfl,.inl rfl,.inl rfl,.inl rfl,.inl rfl,.inl rfl,trivial⟩,rfl⟩
 ·have c:i=D.length:=by have:=ae c;omega
  rw [List.drop_eq_nil_of_le (by omega)] at hR
  have hF:atP xs al k day=fM r:=by rw [hP,hR];rfl
  have FO:=DT hE' (g:=r) hh hc hp (by omega)
  refine .inr (.inr (.inr ⟨[],[9506,9507,9508],[_],[_,_,_],_,FO,rfl,⟨.inl rfl,.inl rfl,.inl rfl,trivial⟩,rfl,trivial,?_⟩))
  rintro r' U ⟨xh,xc,xp,q1,q2,q3,rfl,rfl⟩
  refine ⟨by kernel_rfl,?_⟩
  have Q:AtQ (atP xs al k day) (.tuple #[.agg #[xh,xc,xp],.int .i64 (fM r).2]) [(9506,Blk.own xh 66 2 (fM r).1.h.length (cat ao (fM r).1.h)),(9507,Blk.own xc 49 3 (fM r).1.c.length (cat ai (fM r).1.c)),(9508,Blk.own xp 49 3 (fM r).1.p.length (cat ai (fM r).1.p))]:=by
   rw [hF];exact ⟨xh,xc,xp,q1,q2,q3,rfl,rfl⟩
  exact ⟨ky (be q1) (be q2) (be q3),_,[],Q,⟨.inl rfl,.inl rfl,.inl rfl,trivial⟩,rfl⟩
end Go.Proofs.YtekfkdddadcalaaGreatDoor
namespace Go.Proofs.YtekfkdddadcalaaGreatDoor
open Go Go.RowKit Go.SX
section
variable {H:Type} {enc:TypeId×Value->H} {w:World} {base:Nat} {sp:Nat->Bool} {held:Bool}
end
end Go.Proofs.YtekfkdddadcalaaGreatDoor
namespace Go.Proofs.YtekfkdddadcalaaGreatDoor
open Go Go.RowKit Go.SX
open Go.Proofs.Tryz (prog)
theorem HX {E:Env} (a b:List UInt8):bG E (Op.stringOp .leq (S a) (S b)) (.bool (ltB a b || decide (a=b))):=fun w _=>by
 have e:Op.bytesLess (S a).toList (S b).toList=ltB a b:=by rw [f8,oa,oa]
 have e2:((S a).toList == (S b).toList)=decide (a=b):=(dP a b).symm ▸ rfl
 rw [<- e,<- e2];rfl
def cR (p:Nat->Bool) (n:Nat):Bool:=(List.range n).all p
theorem iU {p:Nat->Bool} {n i:Nat} (h:i < n) (hp:p i=false):cR p n=false:=by
 unfold cR
 rw [List.all_eq_false]
 exact ⟨i,List.mem_range.2 h,by rw [hp];decide⟩
theorem fx {p:Nat->Bool} {n:Nat} (h:∀ i,i < n->p i=true):cR p n=true:=by
 unfold cR
 rw [List.all_eq_true]
 exact fun i hi=>h i (List.mem_range.1 hi)
def okH (l:List (Bs×Int)) (i:Nat):Bool:=match l[i]? with
 | none=>true
 | some x=>bp x.1 && (inB x.2 1 1000000000000000 && (decide (i=0) || match l[i - 1]? with
  | none=>true
  | some y=>ltB y.1 x.1))
def okK (l:List (Ky×Int)) (i:Nat):Bool:=match l[i]? with
 | none=>true
 | some x=>bH x.1.1 && (inB x.1.2 0 73048 && (!(x.2 == 0) && (inB x.2 (-1000000000000000) 1000000000000000 && (decide (i=0) || match l[i - 1]? with
  | none=>true
  | some y=>bh y.1 x.1))))
def qG (l:List (Ky×Int)):Bool:=l.all fun x=>x.1.2 == 0
def ct (g:Led):Bool:=(!decide (g.h.length > 64) && !decide (g.c.length > 8)) && (cR (okH g.h) g.h.length && (cR (okK g.c) g.c.length && (cR (okK g.p) g.p.length && qG g.c)))
theorem zu {xs:List (Ky×Int)} {i:Nat} {y:Ky×Int} (hy:xs[i]? = some y) (h:(y.1.2 == 0)=false):qG xs=false:=by
 unfold qG
 rw [List.all_eq_false]
 exact ⟨y,mem_of_getElem? hy,by rw [h];simp⟩
theorem v8 {xs:List (Ky×Int)} (h:∀ (j:Nat) y,xs[j]? = some y->(y.1.2 == 0)=true):qG xs=true:=by
 unfold qG
 rw [List.all_eq_true]
 intro x hx
 obtain ⟨j,hj⟩:=List.getElem?_of_mem hx
 exact h j x hj
theorem BZ (x:Ky×Int):aw prog 59 [SV.c (.agg (ai x))] (.bool (!(x.1.2 == 0))):=by
 refine aj af ah N8 _ _ rfl rfl fun w=>?_
 exact ⟨rfl,_,rfl,rfl,trivial⟩
theorem F9 (a b:Option Addr) (n c n2 c2:Nat):Instr.fill (fun k=>some (k*Ab.size,Ab.size)) (madeCells Ab.zero (2*Ab.size)) [(0,.slice a n c),(1,.slice b n2 c2)]=some #[.slice a n c,.slice b n2 c2]:=by kernel_rfl
theorem JD (j:Nat):bg 0 ((j:Nat):Int) Ab.size=j:=by
 show bg 0 ((j:Nat):Int) 1=j
 simp [bg]
theorem Dz {E:Env} (hE:E.P=prog) {v:Value} {xs:List (Ky×Int)} (hv:Lst E v 3 xs.length (cat ai xs)) (hn:xs.length<=2000000000000):OwnC E 96 [SV.c v,SV.c (fnW 59)] [] (fun r U=>(∃ n:Int,r=.int .i64 n/\decide (n >= 0)=!(qG xs))/\U=[]):=by
 refine av [] af ah NC E hE [SV.c v,SV.c (fnW 59)] [] _ rfl rfl fun w X β hT=>?_
 obtain ⟨a,cap,rfl,hc,h4⟩:=(hv.of_old hT).shape
 refine ⟨_,fun w' _=>ak Tryz.underlying38 w',?_⟩
 refine ⟨fun q f m=>∃ (i:Nat),q=xs.length - i/\i<=xs.length/\(∀ (j:Nat) y,j < i->xs[j]? = some y->(y.1.2 == 0)=true)/\f=[(0,SV.c (.slice a xs.length cap)),(1,SV.c (fnW 59)),(6,SV.c (.slice a xs.length cap)),(7,SV.c (.int .i64 (xs.length:Nat))),(8,SV.c (.int .i64 (i:Nat)))]/\m=[],xs.length,⟨_,_,⟨0,rfl,by omega,fun j y h=>by omega,rfl,rfl⟩,⟨rfl,rfl,rfl,rfl,rfl,trivial⟩,trivial,rfl⟩,?_⟩
 rintro q f m ⟨i,rfl,hi,hok,rfl,rfl⟩
 refine ⟨fun h=>?_,fun h=>?_⟩
 ·have h:i < xs.length:=by have:=ab h;omega
  obtain ⟨b,o,rfl,h5⟩:=h4 (by omega)
  obtain ⟨y,hy⟩:∃ y,xs[i]? = some y:=⟨_,getElem?_eq_getElem h⟩
  have hE':VOk (aN prog tt Tryz.f96.ntmps w X (ay [] β)):=af
  have L1:=bi hE' h5 aH hy (ty:=49) (ti:=jy) rfl rfl rfl (p:=o+(i:Int).toNat*3) rfl
  have K1:=BZ y
  generalize hY:ai y=YA at L1 K1
  refine ⟨by omega,by omega,.inl ⟨_,L1,.inl ⟨_,K1,fun c=>?_,fun c=>?_⟩⟩⟩
  ·have c:(!(y.1.2 == 0))=true:=c
   have hb:=zu hy (by simpa using c)
   exact ⟨[],[],⟨⟨(i:Nat),rfl,by rw [hb];simp⟩,rfl⟩,trivial,rfl⟩
  ·have c:(!(y.1.2 == 0))=false:=c
   have c:(y.1.2 == 0)=true:=by simpa using c
   refine ⟨xs.length - (i+1),_,_,by omega,⟨i+1,rfl,by omega,fun j z hj hz=>?_,rfl,rfl⟩,⟨rfl,rfl,rfl,rfl,ag (aq (by omega)),trivial⟩,trivial,rfl⟩
   rcases Nat.lt_or_ge j i with h9 | h9
   ·exact hok j z h9 hz
   ·have:j=i:=by omega
    subst this
    rw [hy] at hz;cases hz
    exact c
 ·have h:i=xs.length:=by have:=ae h;omega
  subst h
  have hg:=v8 fun j y hy=>hok j y (List.getElem?_eq_some_iff.1 hy).1 hy
  exact ⟨[],[],⟨⟨-1,rfl,by rw [hg];rfl⟩,rfl⟩,trivial,rfl⟩
theorem we {E:Env} (hE:E.P=prog) {v:Value} {xs:List (Ky×Int)} (hv:Lst E v 3 xs.length (cat ai xs)) (hn:xs.length<=2000000000000):OwnC E 58 [SV.c v,SV.c (fnW 59)] [] (fun r U=>r=.bool (!(qG xs))/\U=[]):=by
 refine av [] af ah N9 E hE [SV.c v,SV.c (fnW 59)] [] _ rfl rfl fun w X β hT=>?_
 have I1:=Dz rfl (hv.of_old hT) hn
 refine .inr (.inr (.inr ⟨[],[],[_,_],[],_,I1,rfl,trivial,rfl,trivial,?_⟩))
 rintro r U ⟨⟨n,rfl,h1⟩,rfl⟩
 exact ⟨rfl,[],[],⟨by rw [<- h1];rfl,rfl⟩,trivial,rfl⟩
structure PfIn (E:Env) (g:Led) (vh vc vp:Value):Prop where
 h:Lst E vh 2 g.h.length (cat ao g.h)
 c:Lst E vc 3 g.c.length (cat ai g.c)
 p:Lst E vp 3 g.p.length (cat ai g.p)
 b:g.h.length<=6000000000000/\g.c.length<=6000000000000/\g.p.length<=6000000000000
 ih:∀ x∈g.h,x.1.length<=9223372036854775807
 ic:∀ x∈g.c,x.1.1.length<=9223372036854775807
 ip:∀ x∈g.p,x.1.1.length<=9223372036854775807
theorem BW {E:Env} (hE:E.P=prog) {g:Led} {vh vc vp:Value} (I:PfIn E g vh vc vp):OwnC E 26 [SV.c (.agg #[vh,vc,vp])] [] (fun r U=>r=.bool (ct g)/\U=[]):=by
 refine av [11,23] af ah Ke E hE [SV.c (.agg #[vh,vc,vp])] [] _ rfl rfl fun w X β hT=>?_
 have hE':(aN prog tt Tryz.f26.ntmps w X (ay [] β) [11,23]).toEnv.P=prog:=rfl
 have hh:=I.h.of_old hT
 have hc:=I.c.of_old hT
 have hp:=I.p.of_old hT
 have hb:=I.b
 obtain ⟨ha,hcap,rfl,-,h4h⟩:=hh.shape
 obtain ⟨ca,ccap,rfl,-,h4c⟩:=hc.shape
 obtain ⟨pa,pcap,rfl,-,h4p⟩:=hp.shape
 refine ⟨rfl,_,rfl,_,fun w' _=>ak Tryz.underlying37 w',fun c=>?_,fun c=>?_⟩
 ·have c1:¬ g.h.length > 64:=by have:=ae (show decide (((g.h.length:Nat):Int) > 64)=false from c);omega
  refine ⟨_,rfl,_,fun w' _=>ak Tryz.underlying38 w',fun c2=>?_,fun c2=>?_⟩
  ·have c2:g.c.length > 8:=by have:=ab (show decide (((g.c.length:Nat):Int) > 8)=true from c2);omega
   exact ⟨[],[],⟨bv (by unfold ct;rw [decide_eq_true c2];simp),rfl⟩,trivial,rfl⟩
  ·have c2:¬ g.c.length > 8:=by have:=ae (show decide (((g.c.length:Nat):Int) > 8)=false from c2);omega
   have hV:ct g=(cR (okH g.h) g.h.length && (cR (okK g.c) g.c.length && (cR (okK g.p) g.p.length && qG g.c))):=by unfold ct;rw [decide_eq_false c1,decide_eq_false c2];rfl
   refine ⟨fun f m=>cR (okH g.h) g.h.length=true/\f=[(1,SV.ptr 1 0)]/\m=[(1,Blk.row 40 3 #[.slice ha g.h.length hcap,.slice ca g.c.length ccap,.slice pa g.p.length pcap])],?_,?_⟩
   ·refine ⟨_,rfl,_,fun w' _=>ak Tryz.underlying37 w',?_⟩
    refine ⟨fun q f m=>∃ (i:Nat) (last:Bs),q=g.h.length - i/\i<=g.h.length/\(∀ j,j < i->okH g.h j=true)/\((i=0/\last=[])\/∃ y,0 < i/\g.h[i - 1]? = some y/\last=y.1)/\f=[(1,SV.ptr 1 0),(3,SV.c (.string (S last))),(21,SV.c (.slice ha g.h.length hcap)),(22,SV.c (.int .i64 (g.h.length:Nat))),(23,SV.c (.int .i64 (i:Nat)))]/\m=[(1,Blk.row 40 3 #[.slice ha g.h.length hcap,.slice ca g.c.length ccap,.slice pa g.p.length pcap])],g.h.length,⟨_,_,⟨0,[],by omega,by omega,fun j h=>absurd h (by omega),.inl ⟨rfl,rfl⟩,rfl,rfl⟩,⟨rfl,rfl,rfl,rfl,rfl,trivial⟩,⟨rfl,trivial⟩,rfl⟩,?_⟩
    rintro q f m ⟨i,last,rfl,hi,hok,hlast,rfl,rfl⟩
    refine ⟨fun c=>?_,fun c=>?_⟩
    ·have c:i < g.h.length:=by have:=ab c;omega
     obtain ⟨b,o,rfl,h5⟩:=h4h (by omega)
     obtain ⟨y,hy⟩:∃ y,g.h[i]? = some y:=⟨_,getElem?_eq_getElem c⟩
     have hE'':VOk (aN prog tt Tryz.f26.ntmps w X (ay [] β) [11,23]):=af
     have L1:=bi hE'' h5 aJ hy (ty:=66) (ti:=pw) rfl rfl rfl (p:=o+(i:Int).toNat*2) rfl
     have K1:=ze y.1 (I.ih y (mem_of_getElem? hy))
     have hP:okH g.h i=(bp y.1 && (inB y.2 1 1000000000000000 && (decide (i=0) || match g.h[i - 1]? with | none=>true | some z=>ltB z.1 y.1))):=by unfold okH;rw [hy]
     have bad:okH g.h i=false->ct g=false:=fun h=>by rw [hV,iU c h];rfl
     refine ⟨by omega,by omega,.inl ⟨_,L1,bO y,?_⟩⟩
     refine ⟨_,rfl,.inl ⟨_,K1,?_⟩⟩
     refine ⟨fun c1=>?_,fun c1=>?_⟩
     ·have c1:(!bp y.1)=false:=c1
      have c1:bp y.1=true:=by simpa using c1
      refine ⟨_,rfl,_,HX _ _,fun c2=>?_,fun c2=>?_⟩
      ·have c2:(ltB y.1 last || decide (y.1=last))=false:=c2
       refine ⟨_,rfl,.inl ⟨_,dS y.2 1 1000000000000000,fun c3=>?_,fun c3=>?_⟩⟩
       ·have c3:(!inB y.2 1 1000000000000000)=true:=c3
        have c3:inB y.2 1 1000000000000000=false:=by simpa using c3
        exact ⟨[],[],⟨bv (bad (by rw [hP,c1,c3];rfl)).symm,rfl⟩,trivial,rfl⟩
       ·have c3:(!inB y.2 1 1000000000000000)=false:=c3
        have c3:inB y.2 1 1000000000000000=true:=by simpa using c3
        refine ⟨_,rfl,?_⟩
        have hb2:okH g.h i=true:=by
         rw [hP,c1,c3]
         rcases hlast with ⟨rfl,-⟩ | ⟨z,hz0,hz,rfl⟩
         ·rfl
         ·rw [hz]
          simp only [Bool.or_eq_false_iff,decide_eq_false_iff_not] at c2
          have:ltB z.1 y.1=true:=by
           cases h:ltB z.1 y.1 with
           | true=>rfl
           | false=>exact absurd (fB _ _ c2.1 h) c2.2
          show (true && (true && (decide (i=0) || ltB z.1 y.1)))=true
          rw [this,Bool.or_true];rfl
        exact ⟨g.h.length - (i+1),_,_,by omega,⟨i+1,y.1,rfl,by omega,fun j hj=>by
         rcases Nat.lt_succ_iff_lt_or_eq.1 hj with h | rfl
         ·exact hok j h
         ·exact hb2,.inr ⟨y,by omega,by rw [Nat.add_sub_cancel];exact hy,rfl⟩,rfl,rfl⟩,⟨rfl,rfl,rfl,rfl,ag (aq (by omega)),trivial⟩,⟨rfl,trivial⟩,rfl⟩
      ·have c2:(ltB y.1 last || decide (y.1=last))=true:=by simpa using c2
       refine ⟨fun _=>?_,nofun⟩
       have hne:y.1≠[]:=fun h=>by rw [h] at c1;exact absurd c1 (by decide)
       have hb2:okH g.h i=false:=by
        rw [hP]
        rcases hlast with ⟨-,rfl⟩ | ⟨z,hz0,hz,rfl⟩
        ·exfalso
         simp only [Bool.or_eq_true,decide_eq_true_eq] at c2
         rcases c2 with c2 | c2
         ·cases hy1:y.1 with
          | nil=>exact hne hy1
          | cons u v=>rw [hy1] at c2;cases c2
         ·exact hne c2
        ·rw [hz]
         simp only [Bool.or_eq_true,decide_eq_true_eq] at c2
         have:ltB z.1 y.1=false:=by
          rcases c2 with c2 | c2
          ·exact cd.asym c2
          ·rw [c2];exact dL _
         show (bp y.1 && (inB y.2 1 1000000000000000 && (decide (i=0) || ltB z.1 y.1)))=false
         rw [this,decide_eq_false (by omega),Bool.or_false,Bool.and_false,Bool.and_false]
       exact ⟨[],[],⟨bv (bad hb2).symm,rfl⟩,trivial,rfl⟩
     ·have c1:(!bp y.1)=true:=by simpa using c1
      have c1:bp y.1=false:=by simpa using c1
      refine ⟨nofun,fun _=>?_⟩
      refine ⟨fun _=>?_,nofun⟩
      exact ⟨[],[],⟨bv (bad (by rw [hP,c1];rfl)).symm,rfl⟩,trivial,rfl⟩
    ·have c:i=g.h.length:=by have:=ae c;omega
     exact ⟨_,_,⟨fx fun j hj=>hok j (by omega),rfl,rfl⟩,⟨rfl,trivial⟩,⟨rfl,trivial⟩,rfl⟩
   ·rintro f1 m1 ⟨hH,rfl,rfl⟩
    rw [hH,Bool.true_and] at hV
    refine ⟨fun f m=>cR (okK g.c) g.c.length=true/\cR (okK g.p) g.p.length=true/\f=[(1,SV.ptr 1 0)]/\m=[(1,Blk.row 40 3 #[.slice ha g.h.length hcap,.slice ca g.c.length ccap,.slice pa g.p.length pcap])],?_,?_⟩
    ·refine ⟨_,rfl,_,rfl,?_⟩
     refine .inr ⟨by decide,by decide,by decide,_,F9 _ _ _ _ _ _,rfl,trivial,fun gl=>?_⟩
     refine ⟨_,fun w' _=>ak Tryz.underlying106 w',?_⟩
     refine ⟨fun q f m=>∃ i:Nat,q=2 - i/\i<=2/\(1<=i->cR (okK g.c) g.c.length=true)/\(2<=i->cR (okK g.p) g.p.length=true)/\f=[(1,SV.ptr 1 0),(50,SV.c (.slice (some ⟨gl,0,none⟩) 2 2)),(51,SV.c (.int .i64 ((2:Nat):Int))),(52,SV.c (.int .i64 (i:Nat)))]/\m=[(1,Blk.row 40 3 #[.slice ha g.h.length hcap,.slice ca g.c.length ccap,.slice pa g.p.length pcap]),(50,Blk.own (.slice (some ⟨gl,0,none⟩) 2 2) 38 1 2 #[.slice ca g.c.length ccap,.slice pa g.p.length pcap])],2,⟨_,_,⟨0,by omega,by omega,fun h=>absurd h (by omega),fun h=>absurd h (by omega),rfl,rfl⟩,⟨rfl,rfl,rfl,rfl,trivial⟩,⟨rfl,.inl rfl,trivial⟩,rfl⟩,?_⟩
     rintro q f m ⟨i,rfl,hi,hC1,hP1,rfl,rfl⟩
     refine ⟨fun c=>?_,fun c=>?_⟩
     ·have c:i < 2:=by have:=ab c;omega
      obtain ⟨C,aC,cC,hAt,hL,hlen,hin,hwhich⟩:∃ (C:List (Ky×Int)) (aC:Option Addr) (cC:Nat),#[(Value.slice ca g.c.length ccap),.slice pa g.p.length pcap][i]? = some (.slice aC C.length cC)/\Lst (aN prog tt Tryz.f26.ntmps w X (ay [] β) [11,23]).toEnv (.slice aC C.length cC) 3 C.length (cat ai C)/\C.length<=6000000000000/\(∀ x∈C,x.1.1.length<=9223372036854775807)/\((i=0/\C=g.c)\/(i=1/\C=g.p)):=by
       rcases Nat.eq_zero_or_pos i with rfl | h0
       ·exact ⟨g.c,ca,ccap,rfl,hc,hb.2.1,I.ic,.inl ⟨rfl,rfl⟩⟩
       ·obtain rfl:i=1:=by omega
        exact ⟨g.p,pa,pcap,rfl,hp,hb.2.2,I.ip,.inr ⟨rfl,rfl⟩⟩
      have badC:∀ j,j < C.length->okK C j=false->ct g=false:=fun j hj h=>by
       rcases hwhich with ⟨-,rfl⟩ | ⟨-,rfl⟩
       ·rw [hV,iU hj h];rfl
       ·rw [hV,iU hj h,Bool.false_and,Bool.and_false]
      obtain ⟨aC',cC',hsv,hnC,h4C⟩:=hL.shape
      cases hsv
      refine ⟨by omega,by omega,.inr ⟨50,gl,_,2,2,_,_,_,rfl,rfl,.slice aC C.length cC,(by rw [JD];exact hAt),?_⟩⟩
      refine ⟨_,fun w' _=>ak Tryz.underlying38 w',?_⟩
      refine ⟨fun q f m=>∃ j:Nat,q=C.length - j/\j<=C.length/\(∀ j',j' < j->okK C j'=true)/\f=[(1,SV.ptr 1 0),(7,SV.c (.slice aC C.length cC)),(50,SV.c (.slice (some ⟨gl,0,none⟩) 2 2)),(51,SV.c (.int .i64 ((2:Nat):Int))),(52,SV.c (.int .i64 (i:Nat))),(56,SV.c (.slice aC C.length cC)),(57,SV.c (.int .i64 (C.length:Nat))),(58,SV.c (.int .i64 (j:Nat)))]/\m=[(1,Blk.row 40 3 #[.slice ha g.h.length hcap,.slice ca g.c.length ccap,.slice pa g.p.length pcap]),(50,Blk.own (.slice (some ⟨gl,0,none⟩) 2 2) 38 1 2 #[.slice ca g.c.length ccap,.slice pa g.p.length pcap])],C.length,⟨_,_,⟨0,by omega,by omega,fun j h=>absurd h (by omega),rfl,rfl⟩,⟨rfl,rfl,rfl,rfl,rfl,rfl,rfl,rfl,trivial⟩,⟨rfl,.inl rfl,trivial⟩,rfl⟩,?_⟩
      rintro q f m ⟨j,rfl,hj,hok,rfl,rfl⟩
      refine ⟨fun c2=>?_,fun c2=>?_⟩
      ·have c2:j < C.length:=by have:=ab c2;omega
       obtain ⟨b,o,rfl,h5⟩:=h4C (by omega)
       obtain ⟨y,hy⟩:∃ y,C[j]? = some y:=⟨_,getElem?_eq_getElem c2⟩
       have hE'':VOk (aN prog tt Tryz.f26.ntmps w X (ay [] β) [11,23]):=af
       have L1:=bi hE'' h5 aH hy (ty:=49) (ti:=jy) rfl rfl rfl (p:=o+(j:Int).toNat*3) rfl
       have K1:=zv y.1.1 (hin y (mem_of_getElem? hy))
       have hPk:okK C j=(bH y.1.1 && (inB y.1.2 0 73048 && (!(y.2 == 0) && (inB y.2 (-1000000000000000) 1000000000000000 && (decide (j=0) || match C[j - 1]? with | none=>true | some z=>bh z.1 y.1))))):=by unfold okK;rw [hy]
       have bad:=badC j c2
       refine ⟨by omega,by omega,.inl ⟨_,L1,cf y,?_⟩⟩
       refine ⟨_,rfl,.inl ⟨_,K1,?_⟩⟩
       have out:okK C j=false->∀ b:Bool,b=false->Value.bool b=Value.bool (ct g):=fun h b hb=>by rw [hb,bad h]
       refine ⟨fun d1=>?_,fun d1=>?_⟩
       ·have d1:(!bH y.1.1)=false:=d1
        have d1:bH y.1.1=true:=by simpa using d1
        refine ⟨_,rfl,.inl ⟨_,dS y.1.2 0 73048,fun d2=>?_,fun d2=>?_⟩⟩
        ·have d2:(!inB y.1.2 0 73048)=false:=d2
         have d2:inB y.1.2 0 73048=true:=by simpa using d2
         refine ⟨_,rfl,fun d3=>?_,fun d3=>?_⟩
         ·have d3:(y.2 == 0)=false:=d3
          refine ⟨_,rfl,.inl ⟨_,dS y.2 (-1000000000000000) 1000000000000000,fun d4=>?_,fun d4=>?_⟩⟩
          ·have d4:(!inB y.2 (-1000000000000000) 1000000000000000)=true:=d4
           have d4:inB y.2 (-1000000000000000) 1000000000000000=false:=by simpa using d4
           exact ⟨[],[],⟨out (by rw [hPk,d1,d2,d3,d4];rfl) _ rfl,rfl⟩,trivial,rfl⟩
          ·have d4:(!inB y.2 (-1000000000000000) 1000000000000000)=false:=d4
           have d4:inB y.2 (-1000000000000000) 1000000000000000=true:=by simpa using d4
           have hP2:okK C j=(decide (j=0) || match C[j - 1]? with | none=>true | some z=>bh z.1 y.1):=by rw [hPk,d1,d2,d3,d4];rfl
           have next:okK C j=true->∀ j',j' < j+1->okK C j'=true:=fun h j' hj'=>by
            rcases Nat.lt_succ_iff_lt_or_eq.1 hj' with h' | rfl
            ·exact hok j' h'
            ·exact h
           refine ⟨fun d5=>?_,fun d5=>?_⟩
           ·have d5:j > 0:=by have:=ab (show decide (((j:Nat):Int) > 0)=true from d5);omega
            have ew:IntKind.i64.wrap (((j:Nat):Int) - 1)=((j - 1:Nat):Int):=by rw [i64_in (by omega)];omega
            obtain ⟨z,hz⟩:∃ z,C[j - 1]? = some z:=⟨_,getElem?_eq_getElem (by omega)⟩
            have LZ0:=ce hE'' h5 aH hz (j:=0) (v:=.string (S z.1.1)) rfl (ty:=9) (ti:=ti9) rfl rfl (p:=o+(IntKind.i64.wrap (((j:Nat):Int) - 1)).toNat*3+0) (by rw [ew];rfl)
            have LZ1:=ce hE'' h5 aH hz (j:=1) (v:=.int .i64 z.1.2) rfl (ty:=3) (ti:=ti3) rfl rfl (p:=o+(IntKind.i64.wrap (((j:Nat):Int) - 1)).toNat*3+1) (by rw [ew];rfl)
            have EO:=sk hE' z.1 y.1
            have hP3:okK C j=bh z.1 y.1:=by
             rw [hP2,hz,decide_eq_false (by omega)];rfl
            refine ⟨by rw [ew];omega,by rw [ew];omega,.inl ⟨_,LZ0,by rw [ew];omega,by rw [ew];omega,.inl ⟨_,LZ1,_,nR z.1.1 z.1.2 rfl,?_⟩⟩⟩
            refine ⟨_,rfl,_,rfl,_,nR y.1.1 y.1.2 rfl,?_⟩
            refine .inr (.inr (.inl ⟨[],[_,_],[],_,[],EO,rfl,trivial,rfl,rfl,?_⟩))
            refine ⟨by kernel_rfl,fun d6=>?_,fun d6=>?_⟩
            ·have d6:qI z.1 y.1 >= 0:=ab d6
             have hz2:bh z.1 y.1=false:=by
              rw [Bool.eq_false_iff]
              intro h
              have:=o8.2 h
              omega
             exact ⟨[],[],⟨out (by rw [hP3,hz2]) _ rfl,rfl⟩,trivial,rfl⟩
            ·have d6:¬ qI z.1 y.1 >= 0:=ae d6
             have hz2:bh z.1 y.1=true:=o8.1 (by omega)
             exact ⟨C.length - (j+1),_,_,by omega,⟨j+1,rfl,by omega,next (by rw [hP3,hz2]),rfl,rfl⟩,⟨rfl,rfl,rfl,rfl,rfl,rfl,rfl,ag (aq (by omega)),trivial⟩,⟨rfl,.inl rfl,trivial⟩,rfl⟩
           ·have d5:j=0:=by have:=ae (show decide (((j:Nat):Int) > 0)=false by simpa using d5);omega
            refine ⟨by kernel_rfl,nofun,fun _=>?_⟩
            exact ⟨C.length - (j+1),_,_,by omega,⟨j+1,rfl,by omega,next (by rw [hP2,decide_eq_true d5];rfl),rfl,rfl⟩,⟨rfl,rfl,rfl,rfl,rfl,rfl,rfl,ag (aq (by omega)),trivial⟩,⟨rfl,.inl rfl,trivial⟩,rfl⟩
         ·have d3:(y.2 == 0)=true:=by simpa using d3
          refine ⟨fun _=>?_,nofun⟩
          exact ⟨[],[],⟨out (by rw [hPk,d1,d2,d3];rfl) _ rfl,rfl⟩,trivial,rfl⟩
        ·have d2:(!inB y.1.2 0 73048)=true:=by simpa using d2
         have d2:inB y.1.2 0 73048=false:=by simpa using d2
         refine ⟨nofun,fun _=>?_⟩
         refine ⟨fun _=>?_,nofun⟩
         exact ⟨[],[],⟨out (by rw [hPk,d1,d2];rfl) _ rfl,rfl⟩,trivial,rfl⟩
       ·have d1:(!bH y.1.1)=true:=by simpa using d1
        have d1:bH y.1.1=false:=by simpa using d1
        refine ⟨nofun,fun _=>?_⟩
        refine ⟨nofun,fun _=>?_⟩
        refine ⟨fun _=>?_,nofun⟩
        exact ⟨[],[],⟨out (by rw [hPk,d1];rfl) _ rfl,rfl⟩,trivial,rfl⟩
      ·have c2:j=C.length:=by have:=ae c2;omega
       have hCk:cR (okK C) C.length=true:=fx fun j' h=>hok j' (by omega)
       exact ⟨2 - (i+1),_,_,by omega,⟨i+1,rfl,by omega,fun _=>by
        rcases hwhich with ⟨-,rfl⟩ | ⟨rfl,-⟩
        ·exact hCk
        ·exact hC1 (by omega),fun h=>by
        rcases hwhich with ⟨h0,-⟩ | ⟨-,rfl⟩
        ·omega
        ·exact hCk,rfl,rfl⟩,⟨rfl,rfl,rfl,ag (aq (by omega)),trivial⟩,⟨rfl,.inl rfl,trivial⟩,rfl⟩
     ·have c:i=2:=by have:=ae (show decide (((i:Nat):Int) < ((2:Nat):Int))=false from c);omega
      exact ⟨_,_,⟨hC1 (by omega),hP1 (by omega),rfl,rfl⟩,⟨rfl,trivial⟩,⟨rfl,trivial⟩,rfl⟩
    ·rintro f2 m2 ⟨hC,hPk,rfl,rfl⟩
     rw [hC,hPk,Bool.true_and,Bool.true_and] at hV
     have CF:=we hE' hc (by omega)
     refine ⟨_,rfl,?_⟩
     refine .inr (.inr (.inr ⟨[],[],[_,_],[],_,CF,rfl,trivial,rfl,trivial,?_⟩))
     rintro r U ⟨rfl,rfl⟩
     exact ⟨rfl,[],[],⟨bv (by rw [hV,Bool.not_not]),rfl⟩,trivial,rfl⟩
 ·have c1:g.h.length > 64:=by have:=ab (show decide (((g.h.length:Nat):Int) > 64)=true by simpa using c);omega
  refine ⟨fun _=>?_,nofun⟩
  exact ⟨[],[],⟨bv (by unfold ct;rw [decide_eq_true c1];simp),rfl⟩,trivial,rfl⟩
theorem Fv (n:Int):(decide (n < 0) || decide (n > 73048))=!inB n 0 73048:=by
 unfold inB
 by_cases h1:n < 0
 ·rw [decide_eq_true h1,decide_eq_false (show ¬ 0<=n by omega)];rfl
 ·rw [decide_eq_false h1,decide_eq_true (show 0<=n by omega)]
  by_cases h2:n > 73048
  ·rw [decide_eq_true h2,decide_eq_false (show ¬ n<=73048 by omega)];rfl
  ·rw [decide_eq_false h2,decide_eq_true (show n<=73048 by omega)];rfl
theorem qU {E:Env} (hE:E.P=prog) {v:Value} {C:List (Ky×Int)} (hv:Lst E v 3 C.length (cat ai C)) (hn:C.length<=6000000000000) (hin:∀ x∈C,x.1.1.length<=9223372036854775807):OwnC E 61 [SV.c v] [] (fun r U=>r=.bool (cR (okK C) C.length)/\U=[]):=by
 refine av [] af ah N6 E hE [SV.c v] [] _ rfl rfl fun w X β hT=>?_
 have hE':(aN prog tt Tryz.f61.ntmps w X (ay [] β)).toEnv.P=prog:=rfl
 obtain ⟨a,cap,rfl,hnc,h4⟩:=(hv.of_old hT).shape
 refine ⟨fun q f m=>∃ j:Nat,q=C.length - j/\j<=C.length/\(∀ j',j' < j->okK C j'=true)/\f=[(0,SV.c (.slice a C.length cap)),(3,SV.c (.int .i64 (j:Nat)))]/\m=[],C.length,⟨_,_,⟨0,by omega,by omega,fun j h=>absurd h (by omega),rfl,rfl⟩,⟨rfl,rfl,trivial⟩,trivial,rfl⟩,?_⟩
 rintro q f m ⟨j,rfl,hj,hok,rfl,rfl⟩
 refine ⟨_,fun w' _=>ak Tryz.underlying38 w',fun c2=>?_,fun c2=>?_⟩
 ·have c2:j < C.length:=by have:=ab c2;omega
  obtain ⟨b,o,rfl,h5⟩:=h4 (by omega)
  obtain ⟨y,hy⟩:∃ y,C[j]? = some y:=⟨_,getElem?_eq_getElem c2⟩
  have hE'':VOk (aN prog tt Tryz.f61.ntmps w X (ay [] β)):=af
  have L0:=ce hE'' h5 aH hy (j:=0) (v:=.string (S y.1.1)) rfl (ty:=9) (ti:=ti9) rfl rfl (p:=o+(j:Int).toNat*3+0) rfl
  have LD:=ce hE'' h5 aH hy (j:=1) (v:=.int .i64 y.1.2) rfl (ty:=3) (ti:=ti3) rfl rfl (p:=o+(j:Int).toNat*3+1) rfl
  have LM:=ce hE'' h5 aH hy (j:=2) (v:=.int .i64 y.2) rfl (ty:=3) (ti:=ti3) rfl rfl (p:=o+(j:Int).toNat*3+2) rfl
  have LE:=bi hE'' h5 aH hy (ty:=49) (ti:=jy) rfl rfl rfl (p:=o+(j:Int).toNat*3) rfl
  have K1:=xP y.1.1 (hin y (mem_of_getElem? hy))
  have O1:=uT y.1.2
  rw [Fv] at O1
  have F1:=D4 y.2
  have hPk:okK C j=(bH y.1.1 && (inB y.1.2 0 73048 && (!(y.2 == 0) && (inB y.2 (-1000000000000000) 1000000000000000 && (decide (j=0) || match C[j - 1]? with | none=>true | some z=>bh z.1 y.1))))):=by unfold okK;rw [hy]
  have out:okK C j=false->∀ b:Bool,b=false->Value.bool b=Value.bool (cR (okK C) C.length):=fun h b hb=>by rw [hb,iU c2 h]
  have next:okK C j=true->∀ j',j' < j+1->okK C j'=true:=fun h j' hj'=>by
   rcases Nat.lt_succ_iff_lt_or_eq.1 hj' with h' | rfl
   ·exact hok j' h'
   ·exact h
  refine ⟨by omega,by omega,.inl ⟨_,L0,.inl ⟨_,K1,?_⟩⟩⟩
  refine ⟨fun d1=>?_,fun d1=>?_⟩
  ·have d1:(!bH y.1.1)=false:=d1
   have d1:bH y.1.1=true:=by simpa using d1
   refine ⟨by omega,by omega,.inl ⟨_,LD,.inl ⟨_,O1,fun d2=>?_,fun d2=>?_⟩⟩⟩
   ·have d2:(!inB y.1.2 0 73048)=false:=d2
    have d2:inB y.1.2 0 73048=true:=by simpa using d2
    refine ⟨by omega,by omega,.inl ⟨_,LM,fun d3=>?_,fun d3=>?_⟩⟩
    ·have d3:(y.2 == 0)=false:=d3
     refine ⟨by omega,by omega,.inl ⟨_,LM,.inl ⟨_,F1,fun d4=>?_,fun d4=>?_⟩⟩⟩
     ·have d4:(!inB y.2 (-1000000000000000) 1000000000000000)=false:=d4
      have d4:inB y.2 (-1000000000000000) 1000000000000000=true:=by simpa using d4
      have hP2:okK C j=(decide (j=0) || match C[j - 1]? with | none=>true | some z=>bh z.1 y.1):=by rw [hPk,d1,d2,d3,d4];rfl
      refine ⟨fun d5=>?_,fun d5=>?_⟩
      ·have d5:j > 0:=by have:=ab (show decide (((j:Nat):Int) > 0)=true from d5);omega
       have ew:IntKind.i64.wrap (((j:Nat):Int) - 1)=((j - 1:Nat):Int):=by rw [i64_in (by omega)];omega
       obtain ⟨z,hz⟩:∃ z,C[j - 1]? = some z:=⟨_,getElem?_eq_getElem (by omega)⟩
       have LZ:=bi hE'' h5 aH hz (ty:=49) (ti:=jy) rfl rfl rfl (p:=o+(IntKind.i64.wrap (((j:Nat):Int) - 1)).toNat*3) (by rw [ew];rfl)
       have BO:=qS z y
       have hP3:okK C j=bh z.1 y.1:=by
        rw [hP2,hz,decide_eq_false (by omega)];rfl
       refine ⟨by rw [ew];omega,by rw [ew];omega,.inl ⟨_,LZ,by omega,by omega,.inl ⟨_,LE,.inl ⟨_,BO,?_⟩⟩⟩⟩
       refine ⟨by kernel_rfl,fun d6=>?_,fun d6=>?_⟩
       ·have d6:(!bh z.1 y.1)=true:=d6
        exact ⟨[],[],⟨out (by rw [hP3];simpa using d6) _ rfl,rfl⟩,trivial,rfl⟩
       ·have d6:(!bh z.1 y.1)=false:=d6
        exact ⟨C.length - (j+1),_,_,by omega,⟨j+1,rfl,by omega,next (by rw [hP3];simpa using d6),rfl,rfl⟩,⟨rfl,ag (aq (by omega)),trivial⟩,trivial,rfl⟩
      ·have d5:j=0:=by have:=ae (show decide (((j:Nat):Int) > 0)=false by simpa using d5);omega
       refine ⟨by kernel_rfl,nofun,fun _=>?_⟩
       exact ⟨C.length - (j+1),_,_,by omega,⟨j+1,rfl,by omega,next (by rw [hP2,decide_eq_true d5];rfl),rfl,rfl⟩,⟨rfl,ag (aq (by omega)),trivial⟩,trivial,rfl⟩
     ·have d4:(!inB y.2 (-1000000000000000) 1000000000000000)=true:=by simpa using d4
      have d4:inB y.2 (-1000000000000000) 1000000000000000=false:=by simpa using d4
      refine ⟨by kernel_rfl,fun _=>?_,nofun⟩
      exact ⟨[],[],⟨out (by rw [hPk,d1,d2,d3,d4];rfl) _ rfl,rfl⟩,trivial,rfl⟩
    ·have d3:(y.2 == 0)=true:=by simpa using d3
     refine ⟨nofun,fun _=>?_⟩
     refine ⟨by kernel_rfl,fun _=>?_,nofun⟩
     exact ⟨[],[],⟨out (by rw [hPk,d1,d2,d3];rfl) _ rfl,rfl⟩,trivial,rfl⟩
   ·have d2:(!inB y.1.2 0 73048)=true:=by simpa using d2
    have d2:inB y.1.2 0 73048=false:=by simpa using d2
    refine ⟨nofun,fun _=>?_⟩
    refine ⟨nofun,fun _=>?_⟩
    refine ⟨by kernel_rfl,fun _=>?_,nofun⟩
    exact ⟨[],[],⟨out (by rw [hPk,d1,d2];rfl) _ rfl,rfl⟩,trivial,rfl⟩
  ·have d1:(!bH y.1.1)=true:=by simpa using d1
   have d1:bH y.1.1=false:=by simpa using d1
   refine ⟨nofun,fun _=>?_⟩
   refine ⟨nofun,fun _=>?_⟩
   refine ⟨nofun,fun _=>?_⟩
   refine ⟨by kernel_rfl,fun _=>?_,nofun⟩
   exact ⟨[],[],⟨out (by rw [hPk,d1];rfl) _ rfl,rfl⟩,trivial,rfl⟩
 ·have c2:j=C.length:=by have:=ae c2;omega
  have hCk:cR (okK C) C.length=true:=fx fun j' h=>hok j' (by omega)
  exact ⟨[],[],⟨bv hCk.symm,rfl⟩,trivial,rfl⟩
theorem BX {E:Env} (hE:E.P=prog) {g:Led} {vh vc vp:Value} (I:PfIn E g vh vc vp):OwnC E 27 [SV.c (.agg #[vh,vc,vp])] [] (fun r U=>r=.bool (ct g)/\U=[]):=by
 refine av [] af ah J6 E hE [SV.c (.agg #[vh,vc,vp])] [] _ rfl rfl fun w X β hT=>?_
 have hE':(aN prog tt Tryz.f27.ntmps w X (ay [] β)).toEnv.P=prog:=rfl
 have hh:=I.h.of_old hT
 have hc:=I.c.of_old hT
 have hp:=I.p.of_old hT
 have hb:=I.b
 have BC:=qU hE' hc hb.2.1 I.ic
 have BP:=qU hE' hp hb.2.2 I.ip
 obtain ⟨ha,hcap,rfl,-,h4h⟩:=hh.shape
 obtain ⟨ca,ccap,rfl,-,h4c⟩:=hc.shape
 obtain ⟨pa,pcap,rfl,-,h4p⟩:=hp.shape
 refine ⟨rfl,_,rfl,_,fun w' _=>ak Tryz.underlying37 w',fun c=>?_,fun c=>?_⟩
 ·have c1:¬ g.h.length > 64:=by have:=ae (show decide (((g.h.length:Nat):Int) > 64)=false from c);omega
  refine ⟨_,rfl,_,fun w' _=>ak Tryz.underlying38 w',fun c2=>?_,fun c2=>?_⟩
  ·have c2:g.c.length > 8:=by have:=ab (show decide (((g.c.length:Nat):Int) > 8)=true from c2);omega
   exact ⟨[],[],⟨bv (by unfold ct;rw [decide_eq_true c2];simp),rfl⟩,trivial,rfl⟩
  ·have c2:¬ g.c.length > 8:=by have:=ae (show decide (((g.c.length:Nat):Int) > 8)=false from c2);omega
   have hV:ct g=(cR (okH g.h) g.h.length && (cR (okK g.c) g.c.length && (cR (okK g.p) g.p.length && qG g.c))):=by unfold ct;rw [decide_eq_false c1,decide_eq_false c2];rfl
   refine ⟨fun q f m=>∃ i:Nat,q=g.h.length - i/\i<=g.h.length/\(∀ j,j < i->okH g.h j=true)/\f=[(1,SV.ptr 1 0),(3,SV.c (.int .i64 (i:Nat)))]/\m=[(1,Blk.row 40 3 #[.slice ha g.h.length hcap,.slice ca g.c.length ccap,.slice pa g.p.length pcap])],g.h.length,⟨_,_,⟨0,by omega,by omega,fun j h=>absurd h (by omega),rfl,rfl⟩,⟨rfl,rfl,trivial⟩,⟨rfl,trivial⟩,rfl⟩,?_⟩
   rintro q f m ⟨i,rfl,hi,hok,rfl,rfl⟩
   refine ⟨_,rfl,_,fun w' _=>ak Tryz.underlying37 w',fun c=>?_,fun c=>?_⟩
   ·have c:i < g.h.length:=by have:=ab c;omega
    obtain ⟨b,o,rfl,h5⟩:=h4h (by omega)
    obtain ⟨y,hy⟩:∃ y,g.h[i]? = some y:=⟨_,getElem?_eq_getElem c⟩
    have hE'':VOk (aN prog tt Tryz.f27.ntmps w X (ay [] β)):=af
    have L1:=bi hE'' h5 aJ hy (ty:=66) (ti:=pw) rfl rfl rfl (p:=o+(i:Int).toNat*2) rfl
    have K1:=oV y.1 (I.ih y (mem_of_getElem? hy))
    have hP:okH g.h i=(bp y.1 && (inB y.2 1 1000000000000000 && (decide (i=0) || match g.h[i - 1]? with | none=>true | some z=>ltB z.1 y.1))):=by unfold okH;rw [hy]
    have out:okH g.h i=false->∀ b:Bool,b=false->Value.bool b=Value.bool (ct g):=fun h b hb=>by rw [hb,hV,iU c h];rfl
    have next:okH g.h i=true->∀ j',j' < i+1->okH g.h j'=true:=fun h j' hj'=>by
     rcases Nat.lt_succ_iff_lt_or_eq.1 hj' with h' | rfl
     ·exact hok j' h'
     ·exact h
    refine ⟨_,rfl,by omega,by omega,.inl ⟨_,L1,bO y,?_⟩⟩
    refine ⟨_,rfl,.inl ⟨_,K1,?_⟩⟩
    refine ⟨fun d1=>?_,fun d1=>?_⟩
    ·have d1:(!bp y.1)=false:=d1
     have d1:bp y.1=true:=by simpa using d1
     refine ⟨_,rfl,fun d2=>?_,fun d2=>?_⟩
     ·have d2:¬ y.2 < 1:=ae d2
      refine ⟨_,rfl,fun d3=>?_,fun d3=>?_⟩
      ·have d3:¬ y.2 > 1000000000000000:=ae d3
       have hB:inB y.2 1 1000000000000000=true:=ef.2 ⟨by omega,by omega⟩
       have hP2:okH g.h i=(decide (i=0) || match g.h[i - 1]? with | none=>true | some z=>ltB z.1 y.1):=by rw [hP,d1,hB];rfl
       refine ⟨fun d5=>?_,fun d5=>?_⟩
       ·have d5:i > 0:=by have:=ab (show decide (((i:Nat):Int) > 0)=true from d5);omega
        have ew:IntKind.i64.wrap (((i:Nat):Int) - 1)=((i - 1:Nat):Int):=by rw [i64_in (by omega)];omega
        obtain ⟨z,hz⟩:∃ z,g.h[i - 1]? = some z:=⟨_,getElem?_eq_getElem (by omega)⟩
        have LZ:=ce hE'' h5 aJ hz (j:=0) (v:=.string (S z.1)) rfl (ty:=9) (ti:=ti9) rfl rfl (p:=o+(IntKind.i64.wrap (((i:Nat):Int) - 1)).toNat*2+0) (by rw [ew];rfl)
        have hP3:okH g.h i=ltB z.1 y.1:=by
         rw [hP2,hz,decide_eq_false (by omega)];rfl
        refine ⟨_,rfl,by rw [ew];omega,by rw [ew];omega,.inl ⟨_,LZ,_,rfl,_,DL _ _,?_⟩⟩
        refine ⟨by kernel_rfl,fun d6=>?_,fun d6=>?_⟩
        ·have d6:(!ltB z.1 y.1)=true:=d6
         exact ⟨[],[],⟨out (by rw [hP3];simpa using d6) _ rfl,rfl⟩,trivial,rfl⟩
        ·have d6:(!ltB z.1 y.1)=false:=d6
         exact ⟨g.h.length - (i+1),_,_,by omega,⟨i+1,rfl,by omega,next (by rw [hP3];simpa using d6),rfl,rfl⟩,⟨rfl,ag (aq (by omega)),trivial⟩,⟨rfl,trivial⟩,rfl⟩
       ·have d5:i=0:=by have:=ae (show decide (((i:Nat):Int) > 0)=false by simpa using d5);omega
        refine ⟨by kernel_rfl,nofun,fun _=>?_⟩
        exact ⟨g.h.length - (i+1),_,_,by omega,⟨i+1,rfl,by omega,next (by rw [hP2,decide_eq_true d5];rfl),rfl,rfl⟩,⟨rfl,ag (aq (by omega)),trivial⟩,⟨rfl,trivial⟩,rfl⟩
      ·have d3:y.2 > 1000000000000000:=ab (by simpa using d3)
       have hB:inB y.2 1 1000000000000000=false:=by
        rw [Bool.eq_false_iff];intro h;have:=ef.1 h;omega
       refine ⟨by kernel_rfl,fun _=>?_,nofun⟩
       exact ⟨[],[],⟨out (by rw [hP,hB,Bool.false_and,Bool.and_false]) _ rfl,rfl⟩,trivial,rfl⟩
     ·have d2:y.2 < 1:=ab (by simpa using d2)
      have hB:inB y.2 1 1000000000000000=false:=by
       rw [Bool.eq_false_iff];intro h;have:=ef.1 h;omega
      refine ⟨nofun,fun _=>?_⟩
      refine ⟨by kernel_rfl,fun _=>?_,nofun⟩
      exact ⟨[],[],⟨out (by rw [hP,hB,Bool.false_and,Bool.and_false]) _ rfl,rfl⟩,trivial,rfl⟩
    ·have d1:(!bp y.1)=true:=by simpa using d1
     have d1:bp y.1=false:=by simpa using d1
     refine ⟨nofun,fun _=>?_⟩
     refine ⟨nofun,fun _=>?_⟩
     refine ⟨by kernel_rfl,fun _=>?_,nofun⟩
     exact ⟨[],[],⟨out (by rw [hP,d1];rfl) _ rfl,rfl⟩,trivial,rfl⟩
   ·have c:i=g.h.length:=by have:=ae c;omega
    have hH:cR (okH g.h) g.h.length=true:=fx fun j hj=>hok j (by omega)
    rw [hH,Bool.true_and] at hV
    refine ⟨fun q f m=>∃ i:Nat,q=g.c.length - i/\i<=g.c.length/\(∀ (j:Nat) y,j < i->g.c[j]? = some y->(y.1.2 == 0)=true)/\f=[(1,SV.ptr 1 0),(5,SV.c (.int .i64 (i:Nat)))]/\m=[(1,Blk.row 40 3 #[.slice ha g.h.length hcap,.slice ca g.c.length ccap,.slice pa g.p.length pcap])],g.c.length,⟨_,_,⟨0,by omega,by omega,fun j y h=>absurd h (by omega),rfl,rfl⟩,⟨rfl,rfl,trivial⟩,⟨rfl,trivial⟩,rfl⟩,?_⟩
    rintro q f m ⟨i,rfl,hi,hok,rfl,rfl⟩
    refine ⟨_,rfl,_,fun w' _=>ak Tryz.underlying38 w',fun c=>?_,fun c=>?_⟩
    ·have c:i < g.c.length:=by have:=ab c;omega
     obtain ⟨b,o,rfl,h5⟩:=h4c (by omega)
     obtain ⟨y,hy⟩:∃ y,g.c[i]? = some y:=⟨_,getElem?_eq_getElem c⟩
     have hE'':VOk (aN prog tt Tryz.f27.ntmps w X (ay [] β)):=af
     have LD:=ce hE'' h5 aH hy (j:=1) (v:=.int .i64 y.1.2) rfl (ty:=3) (ti:=ti3) rfl rfl (p:=o+(i:Int).toNat*3+1) rfl
     refine ⟨_,rfl,by omega,by omega,.inl ⟨_,LD,fun d1=>?_,fun d1=>?_⟩⟩
     ·have d1:(y.1.2 != 0)=true:=d1
      have hb2:qG g.c=false:=zu hy (by simpa using d1)
      exact ⟨[],[],⟨bv (by rw [hV,hb2,Bool.and_false,Bool.and_false]),rfl⟩,trivial,rfl⟩
     ·have d1:(y.1.2 != 0)=false:=d1
      have d1:y.1.2=0:=by simpa using d1
      exact ⟨g.c.length - (i+1),_,_,by omega,⟨i+1,rfl,by omega,(fun j z hj hz=>by
       rcases Nat.lt_succ_iff_lt_or_eq.1 hj with h | rfl
       ·exact hok j z h hz
       ·rw [hy] at hz;cases hz;rw [d1];rfl),rfl,rfl⟩,⟨rfl,ag (aq (by omega)),trivial⟩,⟨rfl,trivial⟩,rfl⟩
    ·have c:i=g.c.length:=by have:=ae c;omega
     have hDy:qG g.c=true:=v8 fun j y hy=>hok j y (by have:=(List.getElem?_eq_some_iff.1 hy).1;omega) hy
     rw [hDy,Bool.and_true] at hV
     refine ⟨_,rfl,?_⟩
     refine .inr (.inr (.inr ⟨[],[],[_],[],_,BC,rfl,trivial,rfl,trivial,?_⟩))
     rintro r U ⟨rfl,rfl⟩
     refine ⟨rfl,fun e1=>?_,fun e1=>?_⟩
     ·have e1:cR (okK g.c) g.c.length=true:=e1
      rw [e1,Bool.true_and] at hV
      refine ⟨_,rfl,?_⟩
      refine .inr (.inr (.inr ⟨[],[],[_],[],_,BP,rfl,trivial,rfl,trivial,?_⟩))
      rintro r U ⟨rfl,rfl⟩
      exact ⟨rfl,[],[],⟨bv hV.symm,rfl⟩,trivial,rfl⟩
     ·have e1:cR (okK g.c) g.c.length=false:=by simpa using e1
      exact ⟨[],[],⟨bv (by rw [hV,e1];rfl),rfl⟩,trivial,rfl⟩
 ·have c1:g.h.length > 64:=by have:=ab (show decide (((g.h.length:Nat):Int) > 64)=true by simpa using c);omega
  refine ⟨fun _=>?_,nofun⟩
  exact ⟨[],[],⟨bv (by unfold ct;rw [decide_eq_true c1];simp),rfl⟩,trivial,rfl⟩
end Go.Proofs.YtekfkdddadcalaaGreatDoor
