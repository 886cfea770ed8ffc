/- SelectorExact, walk; no condition. -/
import Derived.Test.YtinojijgeabfnaaGreatDoorP32
namespace Go.Proofs.YtinojijgeabfnaaGreatDoor
open Go Go.RowKit Go.SX
end Go.Proofs.YtinojijgeabfnaaGreatDoor
