/- Made lists of actions; a cell turned in a list; the law ActionSpoilt; no condition. -/
import Derived.Test.YtekfkdddadcalaaGreatDoorPositionLaterQ20
import Derived.Test.YtekfkdddadcalaaGreatDoorPositionLaterQ19
set_option maxRecDepth 100000
set_option maxHeartbeats 4000000
namespace Go.Proofs.YtekfkdddadcalaaGreatDoor
open Go Go.RowKit Go.SX
theorem AC.set1 (a:AC) (l:List UInt8):a.A.setIfInBounds (0+1) (.string (S l))=({ a with key:=l }:AC).A:=by kernel_rfl
theorem AC.set4 (a:AC) (n:Int):a.A.setIfInBounds (0+4) (.int .i64 n)=({ a with day:=n }:AC).A:=by kernel_rfl
end Go.Proofs.YtekfkdddadcalaaGreatDoor
