/- what came in: quotes and policies; no condition. -/
import Derived.Test.YtofllflnmmjijaaGreatDoorP31
set_option maxRecDepth 100000
set_option maxHeartbeats 4000000
namespace Go.Proofs.YtofllflnmmjijaaGreatDoor
open Go Go.RowKit Go.SX
open ChangeShapes WideShapes
instance:Inhabited QC:=⟨noQ⟩
end Go.Proofs.YtofllflnmmjijaaGreatDoor
