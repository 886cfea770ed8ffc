/- SelectorExact, walk; no condition. -/
import Derived.Below
import Derived.Carry
import Derived.ChangeSlices
import Derived.Deep.LoopGhost
import Derived.Deep.MidRow
import Derived.Handy
import Derived.IntWalk
import Derived.Laws.AppendOwn
import Derived.Laws.BitsAllLaws
import Derived.Laws.BytesString
import Derived.Laws.Cells
import Derived.Laws.Entries
import Derived.Laws.IdiomStrings
import Derived.Laws.MakeOwn
import Derived.Laws.OwnMore
import Derived.Laws.RangeAny
import Derived.Laws.RangeString
import Derived.Laws.Slices
import Derived.Laws.Strings2
import Derived.Laws.Strings3
import Derived.Laws.StructEq
import Derived.Lay
import Derived.Lib.MinMax
import Derived.Lib.OthersKept
import Derived.Lib.SmallJoins
import Derived.Maps.RangeWalk
import Derived.Orders
import Derived.ProofKit
import Derived.SevenTiedAt
import Derived.Shelf.Slices.In.SortNone
import Derived.Shelf.Sort.Plain
import Derived.Sort.OwnSortedInts
import Derived.Test.YtjkgmglmgndaoaaGreatDoorProg
import Derived.Test.YtjkgmglmgndaoaaGreatDoorRows
import Derived.WalkKit
import Derived.Test.YtjkgmglmgndaoaaGreatDoorExchangeConvertsQ1
import Derived.Test.YtjkgmglmgndaoaaGreatDoorP29
namespace Go.Proofs.YtjkgmglmgndaoaaGreatDoor
open Go Go.RowKit Go.SX
theorem selCh_in {L:List QC} {tol:RQ} (h:∀ z∈L,z.In):(selCh L tol).price.In:=by
 unfold selCh
 cases e:L.find? (isGood (curH L) (yardQ L) tol) with
 | none=>exact zeroQ_in
 | some q=>exact (h q (List.mem_of_find?_eq_some e)).price
end Go.Proofs.YtjkgmglmgndaoaaGreatDoor
