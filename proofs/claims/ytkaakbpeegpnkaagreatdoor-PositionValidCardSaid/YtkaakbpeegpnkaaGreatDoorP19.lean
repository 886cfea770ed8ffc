/- walks: the law of an action's effects; no condition. -/
import Derived.Test.YtkaakbpeegpnkaaGreatDoorP18
set_option maxRecDepth 100000
set_option maxHeartbeats 4000000
namespace Go.Proofs.YtkaakbpeegpnkaaGreatDoor
open Go Go.RowKit Go.SX
def EF.beq (x y:EF):Bool:=decide (x.ins=y.ins) && ((x.qty == y.qty) && ((x.cash == y.cash) && true))
theorem EF.beq_self (x:EF):x.beq x=true:=by simp [EF.beq]
theorem RQ.beq_self (r:RQ):r.beq r=true:=(r.beq_iff r).mpr rfl
theorem made_of {n d:Int} (h1 : -9223372036854775808≤n) (h2:n≤9223372036854775807) (h3 : -9223372036854775808≤d) (h4:d≤9223372036854775807):Pure Tryz.prog 39 [SV.c (.int .i64 n),SV.c (.int .i64 d)] (.agg (mkQ n d).1.A):=by
 refine sx_pure tt_ok mixed at39 _ _ rfl rfl fun w=>?_
 exact .inl ⟨_,of_r h1 h2 h3 h4,RQ.A_fits _,RQ.A_fits _,rfl,trivial⟩
end Go.Proofs.YtkaakbpeegpnkaaGreatDoor
