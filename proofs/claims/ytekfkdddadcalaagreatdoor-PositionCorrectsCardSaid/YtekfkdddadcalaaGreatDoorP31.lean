/- PositionValid, at every call. At, Visible, Valid of lists of the call s own; no condition. -/
import Derived.Test.YtekfkdddadcalaaGreatDoorP30
set_option maxRecDepth 100000
set_option maxHeartbeats 4000000
namespace Go.Proofs.YtekfkdddadcalaaGreatDoor
open Go Go.RowKit Go.SX
theorem vis_eo {E:Env} (hE:E.P=Tryz.prog) {x:Value} {xs:List EC} {nx:Nat} {k:Int} (hx:nx=xs.length) (hn:nx≤1000000000000) (hin:∀ y∈xs,y.In):OwnC E 18 [SV.c x,SV.c (.int .i64 k)] [(9640,Blk.own x 31 10 nx (cat EC.A xs))] (fun r U=>∃ U0,VisXQ xs k r U0∧U=(9640,Blk.own x 31 10 nx (cat EC.A xs)) :: U0):=by
 subst hx
 exact OwnC.with_own (k:=9640) (v:=x) (e:=31) (sz:=10) (n:=xs.length) (A:=cat EC.A xs) (pre:=[]) rfl rfl (Go.SX.cat_all EC.one xs) (by rw [hE];exact at18.enters) (fun E0 h hl=>vis_e (h.trans hE) hl (by omega) hin) (fun r U ⟨s,n,_,_,_,h⟩=>by rw [h];rfl)
end Go.Proofs.YtekfkdddadcalaaGreatDoor
