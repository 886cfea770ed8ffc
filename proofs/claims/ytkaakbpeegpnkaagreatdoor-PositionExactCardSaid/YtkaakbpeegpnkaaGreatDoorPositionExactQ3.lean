/- PositionExact, at every call; no condition. -/
import Derived.Test.YtkaakbpeegpnkaaGreatDoorPositionExactQ2
import Derived.Test.YtkaakbpeegpnkaaGreatDoorP32
import Derived.Test.YtkaakbpeegpnkaaGreatDoorP31
set_option maxRecDepth 100000
set_option maxHeartbeats 4000000
namespace Go.Proofs.YtkaakbpeegpnkaaGreatDoor
open Go Go.RowKit Go.SX
theorem run_len {day:Int}:∀ (ops:List Ev) {g g':Led},LedOk g→runL day g ops=.ok g'→g'.h.length≤g.h.length+2*ops.length∧g'.c.length≤g.c.length+ops.length∧g'.p.length≤g.p.length+ops.length
 | [],g,g',_,h=>by cases h;simp
 | o :: l,g,g',hg,h=>by
  rw [runL] at h
  cases e:stepL day g o with
  | error e'=>rw [e] at h;cases h
  | ok g1 =>
   rw [e] at h
   obtain ⟨h1,h2,h3,h4⟩:=step_okL hg e
   obtain ⟨h5,h6,h7⟩:=run_len l h1 h
   simp only [List.length_cons]
   exact ⟨by omega,by omega,by omega⟩
theorem pfL_len (g:Led):(pfL g).1.h.length≤g.h.length∧(pfL g).1.c.length≤g.c.length∧(pfL g).1.p.length≤g.p.length:=by
 unfold pfL
 split
 ·simp
 ·exact ⟨Nat.zero_le _,Nat.zero_le _,Nat.zero_le _⟩
theorem ops_len (al:List AC) (xs:List EC) (day:Int):(opsL al xs day).length≤al.length+xs.length:=by
 unfold opsL
 rw [(stabK_stab dayO _).len]
 refine Nat.le_trans (List.length_filter_le _ _) ?_
 simp
theorem atP_len (xs:List EC) (al:List AC) (k day:Int):(atP xs al k day).1.h.length≤20000∧(atP xs al k day).1.c.length≤20000∧(atP xs al k day).1.p.length≤20000:=by
 unfold atP
 split
 ·exact ⟨Nat.zero_le _,Nat.zero_le _,Nat.zero_le _⟩
 rename_i h1
 split
 ·exact ⟨Nat.zero_le _,Nat.zero_le _,Nat.zero_le _⟩
 rename_i h2
 split
 ·exact ⟨Nat.zero_le _,Nat.zero_le _,Nat.zero_le _⟩
 have l1:=visX_len (k:=k) (Classical.not_not.1 h1)
 have l2:=visA_len (k:=k) (Classical.not_not.1 h2)
 have l3:=ops_len (visA al k) (visX xs k) day
 cases e:runL day .zero (opsL (visA al k) (visX xs k) day) with
 | error e'=>exact ⟨Nat.zero_le _,Nat.zero_le _,Nat.zero_le _⟩
 | ok g =>
  obtain ⟨h3,h4,h5⟩:=run_len _ .zero e
  have h6:=pfL_len g
  have z1:Led.zero.h.length=0:=rfl
  have z2:Led.zero.c.length=0:=rfl
  have z3:Led.zero.p.length=0:=rfl
  show (pfL g).1.h.length≤_∧(pfL g).1.c.length≤_∧(pfL g).1.p.length≤_
  exact ⟨by omega,by omega,by omega⟩
theorem exact_p {E:Env} (hE:E.P=Tryz.prog) {ve va:Value} {xs:List EC} {al:List AC} {k day:Int} (hv:Lst E ve 10 xs.length (cat EC.A xs)) (hva:Lst E va 76 al.length (cat AC.A al)) (hn:xs.length≤2000000000000) (hm:al.length≤1000000000000) (hin:∀ y∈xs,y.In) (hina:∀ y∈al,y.In):OwnC E 3 [SV.c ve,SV.c va,SV.c (.int .i64 k),SV.c (.int .i64 day)] [] (fun x U=>x=.bool true∧U=[]):=by
 refine sx_ownC [] tt_ok mixed at3 E hE [SV.c ve,SV.c va,SV.c (.int .i64 k),SV.c (.int .i64 day)] [] _ rfl rfl fun w X β hT=>?_
 have hv':=hv.of_old hT
 have hva':=hva.of_old hT
 have hE':(envC Tryz.prog tt Tryz.f3.ntmps w X (tiedK [] β)).toEnv.P=Tryz.prog:=rfl
 have V1:=vis_e (k:=k) hE' hv' hn hin
 have V2:=vis_er18 (k:=k) hE' hv' hn hin
 have P1:=at_z (k:=k) (day:=day) hE' hv' hva' hn hm hin hina
 have P2:=at_r8 (k:=k) (day:=day) hE' hv' hva' hn hm hin hina
 have K1:=check_e8 hE' hv' hn hin
 have K2:=check_er18 hE' hv' hn hin
 have hl:=atP_len xs al k day
 refine .inr (.inr (.inr ⟨[],[3000],[_,_],[],_,V1,rfl,trivial,rfl,trivial,?_⟩))
 rintro r U ⟨sx,nx,hsx,rfl,hx,rfl⟩
 refine ⟨rfl,?_⟩
 refine .inr (.inr (.inr ⟨[(3000,3001)],[3001],[_,_],[],_,V2,rfl,trivial,rfl,trivial,?_⟩))
 rintro r U ⟨sy,ny,hsy,rfl,hy,rfl⟩
 refine ⟨rfl,?_⟩
 refine .inr (.inr (.inr ⟨[],[9506,9507,9508],[_,_,_,_],[],_,P1,rfl,trivial,rfl,trivial,?_⟩))
 rintro r U ⟨xh,xc,xp,q1,q2,q3,rfl,rfl⟩
 generalize atP xs al k day=R at *
 refine ⟨rfl,fits3 (isL_one q1) (isL_one q2) (isL_one q3),?_⟩
 refine .inr (.inr (.inr ⟨[(9506,9516),(9507,9517),(9508,9518)],[9516,9517,9518],[_,_,_,_],[],_,P2,rfl,trivial,rfl,trivial,?_⟩))
 rintro r U ⟨yh,yc,yp,w1,w2,w3,rfl,rfl⟩
 refine ⟨rfl,fits3 (isL_one w1) (isL_one w2) (isL_one w3),?_⟩
 obtain rfl:ny=nx:=by rw [hsy,hsx]
 have hlx:ny≤1000000000000:=by
  rw [hsx]
  by_cases h0:chkX xs=0
  ·have:=visX_len (k:=k) h0;omega
  ·have:visX xs k=[]:=by unfold visX;rw [if_neg h0]
   rw [this];simp
 have SE:=sameE_o hE' hx hy hsx hlx
 have SP:=same_o hE' (g:=R.1) q1 q2 q3 w1 w2 w3 (by omega)
 refine .inl ⟨_,known_p,fun _=>?_,fun h=>absurd h (by decide)⟩
 refine .inr (.inr (.inl ⟨[],[_],[],_,[],K1,rfl,trivial,rfl,rfl,?_⟩))
 refine .inr (.inr (.inl ⟨[],[_],[],_,[],K2,rfl,trivial,rfl,rfl,?_⟩))
 refine ⟨fun _=>?_,fun h=>absurd h (by simp)⟩
 refine .inr (.inr (.inl ⟨[(9522,3000),(9523,3001)],[_,_],[_,_],_,[_,_],SE,rfl,⟨.inl rfl,.inl rfl,trivial⟩,rfl,rfl,?_⟩))
 refine ⟨fun _=>?_,nofun⟩
 refine ⟨fun _=>?_,fun h=>absurd h (by simp)⟩
 refine .inr (.inr (.inl ⟨[],[_,_],[_,_,_,_,_,_],_,[_,_,_,_,_,_],SP,rfl,⟨.inl rfl,.inl rfl,.inl rfl,.inl rfl,.inl rfl,.inl rfl,trivial⟩,rfl,rfl,?_⟩))
 refine ⟨fun _=>?_,nofun⟩
 exact ⟨[],[],⟨by show Value.bool _=_;simp,rfl⟩,trivial,rfl⟩
end Go.Proofs.YtkaakbpeegpnkaaGreatDoor
