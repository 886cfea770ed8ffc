/- Made lists of actions; a cell turned in a list; the law ActionSpoilt; no condition. -/
import Derived.Test.YtekfkdddadcalaaGreatDoorPositionBentQ20
import Derived.Test.YtekfkdddadcalaaGreatDoorPositionBentQ19
set_option maxRecDepth 100000
set_option maxHeartbeats 4000000
namespace Go.Proofs.YtekfkdddadcalaaGreatDoor
open Go Go.RowKit Go.SX
end Go.Proofs.YtekfkdddadcalaaGreatDoor
