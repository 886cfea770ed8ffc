/-
  DERIVED. GIVEN WITH THE SEED: THE CARDS: each row of YtofllflnmmjijaaGreatDoorRows.lean that lists a variable, with what it lists TIED to the program's text (the seventh form; the later family's looks); each row that meets fmt, with fmt's text TOLD by the authors' own Lean function (tested against real Go, not proved from fmt's source: count such statements apart). THE CARD IS WHAT COUNTS. Prove the row's statement (the work); the ties are given (YtofllflnmmjijaaGreatDoorTie.lean); close each card by the builder's one call (the guide's Derived/Test/ToyasCard.lean, 'card_holds'). Laid BY PROGRAM, IN A SANDBOX (cutbox-door.mjs). By AI agents, Wed Nov 11 2026. No macro, syntax, notation, axiom, sorry.
-/
import Derived.Test.YtofllflnmmjijaaGreatDoorRows
import GoSem.ClaimSeven
namespace Go.Proofs.YtofllflnmmjijaaGreatDoor
namespace Rows

/-- THE TIED CARD OF 'fundadminlaw20.ValuationExact'. -/
def valuationExactCard : Claim7 := { stood := { row := valuationExactRow, standIns := [], harness := (true, "6ee20449c94c97ba295719eee901b553d1f0d28fe158322f833a90a49d5ad373"), looks := false }, kinds := [], alts := [], laidByText := true, laidKinds := [.data, .pinned], laidTests := true, laidLooks := .later }
def ValuationExactCardSaid : Prop := Claim7.holds Tryz.pinned (.plain (OpenSpec.ofChange valuationExactSpec)) valuationExactCard

/-- THE TIED CARD OF 'fundadminlaw20.ValuationAmounts'. -/
def valuationAmountsCard : Claim7 := { stood := { row := valuationAmountsRow, standIns := [], harness := (true, "6ee20449c94c97ba295719eee901b553d1f0d28fe158322f833a90a49d5ad373"), looks := false }, kinds := [], alts := [], laidByText := true, laidKinds := [.data, .pinned], laidTests := true, laidLooks := .later }
def ValuationAmountsCardSaid : Prop := Claim7.holds Tryz.pinned (.plain (OpenSpec.ofChange valuationAmountsSpec)) valuationAmountsCard

/-- THE TIED CARD OF 'fundadminlaw20.ValuationVerifies'. -/
def valuationVerifiesCard : Claim7 := { stood := { row := valuationVerifiesRow, standIns := [], harness := (true, "6ee20449c94c97ba295719eee901b553d1f0d28fe158322f833a90a49d5ad373"), looks := false }, kinds := [], alts := [], laidByText := true, laidKinds := [.data, .pinned], laidTests := true, laidLooks := .later }
def ValuationVerifiesCardSaid : Prop := Claim7.holds Tryz.pinned (.plain (OpenSpec.ofChange valuationVerifiesSpec)) valuationVerifiesCard

/-- THE SECOND FORM's CARD OF 'fundadminlaw20.ValuationExact'. -/
def valuationExactUptoCard : Claim7 := { stood := { row := valuationExactUptoRow, standIns := [], harness := (true, "6ee20449c94c97ba295719eee901b553d1f0d28fe158322f833a90a49d5ad373"), looks := false }, kinds := [], alts := [], laidByText := true, laidKinds := [.data, .pinned], laidTests := true, laidLooks := .later }
def ValuationExactUptoCardSaid : Prop := Claim7.holds Tryz.pinned (.plain (OpenSpec.upto valuationExactSpec)) valuationExactUptoCard

/-- THE SECOND FORM's CARD OF 'fundadminlaw20.ValuationAmounts'. -/
def valuationAmountsUptoCard : Claim7 := { stood := { row := valuationAmountsUptoRow, standIns := [], harness := (true, "6ee20449c94c97ba295719eee901b553d1f0d28fe158322f833a90a49d5ad373"), looks := false }, kinds := [], alts := [], laidByText := true, laidKinds := [.data, .pinned], laidTests := true, laidLooks := .later }
def ValuationAmountsUptoCardSaid : Prop := Claim7.holds Tryz.pinned (.plain (OpenSpec.upto valuationAmountsSpec)) valuationAmountsUptoCard

/-- THE SECOND FORM's CARD OF 'fundadminlaw20.ValuationVerifies'. -/
def valuationVerifiesUptoCard : Claim7 := { stood := { row := valuationVerifiesUptoRow, standIns := [], harness := (true, "6ee20449c94c97ba295719eee901b553d1f0d28fe158322f833a90a49d5ad373"), looks := false }, kinds := [], alts := [], laidByText := true, laidKinds := [.data, .pinned], laidTests := true, laidLooks := .later }
def ValuationVerifiesUptoCardSaid : Prop := Claim7.holds Tryz.pinned (.plain (OpenSpec.upto valuationVerifiesSpec)) valuationVerifiesUptoCard
end Rows
end Go.Proofs.YtofllflnmmjijaaGreatDoor
