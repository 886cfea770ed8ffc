/- walks: the reference, texts of whole numbers. walks: the reference, decimals read and written. walks: the reference, the text of a pair. walks: a corporate action, the reference. walks: what an action makes, the reference. walks: the law of an action's effects; no condition. -/
import Derived.Test.YtekfkdddadcalaaGreatDoorPositionLaterQ15
set_option maxRecDepth 100000
set_option maxHeartbeats 4000000
namespace Go.Proofs.YtekfkdddadcalaaGreatDoor
open Go Go.RowKit Go.SX
def ten:List UInt8:=[48,49,50,51,52,53,54,55,56,57]
theorem one_in0:(RQ.of 0 1).In:=⟨i64_lt (n:=0) (by omega) (by omega),i64_lt (n:=1) (by omega) (by omega)⟩
def EF.beq (x y:EF):Bool:=decide (x.ins=y.ins) && ((x.qty == y.qty) && ((x.cash == y.cash) && true))
theorem made_of {n d:Int} (h1 : -9223372036854775808≤n) (h2:n≤9223372036854775807) (h3 : -9223372036854775808≤d) (h4:d≤9223372036854775807):Pure Tryz.prog 36 [SV.c (.int .i64 n),SV.c (.int .i64 d)] (.agg (mkQ n d).1.A):=by
 refine sx_pure tt_ok mixed at36 _ _ rfl rfl fun w=>?_
 exact .inl ⟨_,of_r h1 h2 h3 h4,RQ.A_fits _,RQ.A_fits _,rfl,trivial⟩
end Go.Proofs.YtekfkdddadcalaaGreatDoor
