/- Made lists of actions; a cell turned in a list; the law Acti; no condition. -/
import Derived.Test.YtekfkdddadcalaaGreatDoorPositionPlaysQ22
import Derived.Test.YtekfkdddadcalaaGreatDoorPositionPlaysQ21
set_option maxRecDepth 100000
set_option maxHeartbeats 4000000
namespace Go.Proofs.YtekfkdddadcalaaGreatDoor
open Go Go.RowKit Go.SX
end Go.Proofs.YtekfkdddadcalaaGreatDoor
