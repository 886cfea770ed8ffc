/- SelectorExact, walk; no condition. -/
import Derived.Test.YtjkgmglmgndaoaaGreatDoorP30
set_option maxRecDepth 100000
set_option maxHeartbeats 4000000
namespace Go.Proofs.YtjkgmglmgndaoaaGreatDoor
open Go Go.RowKit Go.SX
theorem selCh_in {L:List QC} {tol:RQ} (h:∀ z∈L,z.In):(selCh L tol).price.In:=by
 unfold selCh
 cases e:L.find? (isGood (curH L) (yardQ L) tol) with
 | none=>exact zeroQ_in
 | some q=>exact (h q (List.mem_of_find?_eq_some e)).price
end Go.Proofs.YtjkgmglmgndaoaaGreatDoor
