/-
  DERIVED. GIVEN WITH THE SEED: THE CARDS: each row of YtkaakbpeegpnkaaGreatDoorRows.lean that lists a variable, with what it lists TIED to the program's text (the seventh form; the later family's looks); each row that meets fmt, with fmt's text TOLD by the authors' own Lean function (tested against real Go, not proved from fmt's source: count such statements apart). THE CARD IS WHAT COUNTS. Prove the row's statement (the work); the ties are given (YtkaakbpeegpnkaaGreatDoorTie.lean); close each card by the builder's one call (the guide's Derived/Test/ToyasCard.lean, 'card_holds'). Laid BY PROGRAM, IN A SANDBOX (cutbox-door.mjs). By AI agents, Wed Nov 11 2026. No macro, syntax, notation, axiom, sorry.
-/
import Derived.Test.YtkaakbpeegpnkaaGreatDoorRows
import GoSem.ClaimSeven
namespace Go.Proofs.YtkaakbpeegpnkaaGreatDoor
namespace Rows

/-- THE TIED CARD OF 'fundadminlaw18.PositionExact'. -/
def positionExactCard : Claim7 := { stood := { row := positionExactRow, standIns := [], harness := (true, "50441acfdc37b087390412179478dd3f101bd979b2d127afa52ca7f525d0394c"), looks := false }, kinds := [], alts := [], laidByText := true, laidKinds := [.data, .pinned], laidTests := true, laidLooks := .later }
def PositionExactCardSaid : Prop := Claim7.holds Tryz.pinned (.plain (OpenSpec.ofChange positionExactSpec)) positionExactCard

/-- THE TIED CARD OF 'fundadminlaw18.PositionValid'. -/
def positionValidCard : Claim7 := { stood := { row := positionValidRow, standIns := [], harness := (true, "50441acfdc37b087390412179478dd3f101bd979b2d127afa52ca7f525d0394c"), looks := false }, kinds := [], alts := [], laidByText := true, laidKinds := [.data, .pinned], laidTests := true, laidLooks := .later }
def PositionValidCardSaid : Prop := Claim7.holds Tryz.pinned (.plain (OpenSpec.ofChange positionValidSpec)) positionValidCard

/-- THE SECOND FORM's CARD OF 'fundadminlaw18.PositionExact'. -/
def positionExactUptoCard : Claim7 := { stood := { row := positionExactUptoRow, standIns := [], harness := (true, "50441acfdc37b087390412179478dd3f101bd979b2d127afa52ca7f525d0394c"), looks := false }, kinds := [], alts := [], laidByText := true, laidKinds := [.data, .pinned], laidTests := true, laidLooks := .later }
def PositionExactUptoCardSaid : Prop := Claim7.holds Tryz.pinned (.plain (OpenSpec.upto positionExactSpec)) positionExactUptoCard

/-- THE SECOND FORM's CARD OF 'fundadminlaw18.PositionValid'. -/
def positionValidUptoCard : Claim7 := { stood := { row := positionValidUptoRow, standIns := [], harness := (true, "50441acfdc37b087390412179478dd3f101bd979b2d127afa52ca7f525d0394c"), looks := false }, kinds := [], alts := [], laidByText := true, laidKinds := [.data, .pinned], laidTests := true, laidLooks := .later }
def PositionValidUptoCardSaid : Prop := Claim7.holds Tryz.pinned (.plain (OpenSpec.upto positionValidSpec)) positionValidUptoCard
end Rows
end Go.Proofs.YtkaakbpeegpnkaaGreatDoor
