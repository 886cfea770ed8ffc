/- An abstract walk: a row of the call's own, handed to a callee that only reads it; no condition. -/
import Derived.Test.YtofllflnmmjijaaGreatDoorP6
set_option maxRecDepth 100000
set_option maxHeartbeats 4000000
namespace Go.SX
open Go Go.RowKit
end Go.SX
