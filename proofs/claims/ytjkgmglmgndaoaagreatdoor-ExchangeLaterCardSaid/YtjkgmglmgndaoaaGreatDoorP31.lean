/- Lists that came in, read by the row; no condition. -/
import Derived.Below
import Derived.Carry
import Derived.Deep.LoopGhost
import Derived.Deep.MidRow
import Derived.Deep.Slices
import Derived.Laws.AppendOwn
import Derived.Laws.BytesString
import Derived.Laws.Cells
import Derived.Laws.Entries
import Derived.Laws.MakeOwn
import Derived.Laws.OwnMore
import Derived.Maps.RangeWalk
import Derived.Orders
import Derived.Test.YtjkgmglmgndaoaaGreatDoorP10
namespace Go.SX
open Go Go.RowKit
section
variable {α:Type} {g:α→Array Value} {s:Nat}
end
end Go.SX
