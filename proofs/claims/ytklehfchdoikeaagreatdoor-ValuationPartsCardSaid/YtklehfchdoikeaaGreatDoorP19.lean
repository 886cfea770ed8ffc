/- what came in, read; no condition. -/
import Derived.Handy
import Derived.Lay
import Derived.Lib.SmallJoins
import Derived.SevenTiedAt
import Derived.Test.YtklehfchdoikeaaGreatDoorP17
set_option maxRecDepth 100000
set_option maxHeartbeats 4000000
namespace Go.Proofs.YtklehfchdoikeaaGreatDoor
open Go Go.RowKit Go.SX
section
variable {H:Type} {enc:TypeId×Value->H} {w:World} {base:Nat} {sp:Nat->Bool} {held:Bool}
end
end Go.Proofs.YtklehfchdoikeaaGreatDoor
