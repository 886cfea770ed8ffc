/- the law ExchangeExact; no condition. -/
import Derived.Test.YtklehfchdoikeaaGreatDoorP29
set_option maxRecDepth 100000
set_option maxHeartbeats 4000000
namespace Go.Proofs.YtklehfchdoikeaaGreatDoor
open Go Go.RowKit Go.SX
theorem vj (n:Int):(n == n)=true:=by simp
end Go.Proofs.YtklehfchdoikeaaGreatDoor
