/- walks: what an action makes, the reference. walks: the law of an action's effects; no condition. -/
import Derived.Test.YtjkgmglmgndaoaaGreatDoorP20
set_option maxRecDepth 100000
set_option maxHeartbeats 4000000
namespace Go.Proofs.YtjkgmglmgndaoaaGreatDoor
open Go Go.RowKit Go.SX
def EF.beq (x y:EF):Bool:=decide (x.ins=y.ins) && ((x.qty == y.qty) && ((x.cash == y.cash) && true))
theorem EF.beq_self (x:EF):x.beq x=true:=by simp [EF.beq]
theorem RQ.beq_self (r:RQ):r.beq r=true:=(r.beq_iff r).mpr rfl
theorem made_of {n d:Int} (h1 : -9223372036854775808≤n) (h2:n≤9223372036854775807) (h3 : -9223372036854775808≤d) (h4:d≤9223372036854775807):Pure Tryz.prog 41 [SV.c (.int .i64 n),SV.c (.int .i64 d)] (.agg (mkQ n d).1.A):=by
 refine sx_pure tt_ok mixed at41 _ _ rfl rfl fun w=>?_
 exact .inl ⟨_,of_r h1 h2 h3 h4,RQ.A_fits _,RQ.A_fits _,rfl,trivial⟩
theorem eqs_ratio {E:Env} (hE:E.P=Tryz.prog) {r:RQ} (hr:r.In) {u v:Operand}:Runs E (do eqGuard .eql 29 u v (.agg r.A) (.agg r.A);binOp .eql 29 (.agg r.A) (.agg r.A)) (.bool true):=by
 have:=eql_ratio hE hr hr (u:=u) (v:=v)
 rwa [RQ.beq_self] at this
end Go.Proofs.YtjkgmglmgndaoaaGreatDoor
