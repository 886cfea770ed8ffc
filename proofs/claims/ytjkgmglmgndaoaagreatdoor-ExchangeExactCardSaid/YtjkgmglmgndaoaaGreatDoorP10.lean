/- An abstract walk: functions that hand out a list in a block of their own. An abstract walk: a region that draws its order is walked in another order; no condition. -/
import Derived.Test.YtjkgmglmgndaoaaGreatDoorP9
namespace Go.SX
open Go Go.RowKit
end Go.SX
namespace Go.SX
open Go Go.RowKit
section
variable {P : Program} {ops : Array Oper} {Q : Exit → Act → World → Prop} {π iv : List Nat}
end
end Go.SX
