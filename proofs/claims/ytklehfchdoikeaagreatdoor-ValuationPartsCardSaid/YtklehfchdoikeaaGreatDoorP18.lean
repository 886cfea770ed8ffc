/- Lists that came in, read by the row; no condition. -/
import Derived.Deep.Slices
import Derived.Test.YtklehfchdoikeaaGreatDoorP9
set_option maxRecDepth 100000
set_option maxHeartbeats 4000000
namespace Go.SX
open Go Go.RowKit
section
variable {α:Type} {g:α->Array Value} {s:Nat}
end
end Go.SX
