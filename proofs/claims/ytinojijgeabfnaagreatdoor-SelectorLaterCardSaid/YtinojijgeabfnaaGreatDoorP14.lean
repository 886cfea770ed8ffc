/- Lists that came in, read by the row; no condition. -/
import Derived.Test.YtinojijgeabfnaaGreatDoorP11
import Derived.Deep.Slices
namespace Go.SX
open Go Go.RowKit
section
variable {α : Type} {g : α → Array Value} {s : Nat}
end
end Go.SX
