/-
  DERIVED. GIVEN WITH THE SEED: THE CARDS: each row of YtnfmpddhcjkjbaaGreatDoorRows.lean that lists a variable, with what it lists TIED to the program's text (the seventh form; the later family's looks); each row that meets fmt, with fmt's text TOLD by the authors' own Lean function (tested against real Go, not proved from fmt's source: count such statements apart). THE CARD IS WHAT COUNTS. Prove the row's statement (the work); the ties are given (YtnfmpddhcjkjbaaGreatDoorTie.lean); close each card by the builder's one call (the guide's Derived/Test/ToyasCard.lean, 'card_holds'). Laid BY PROGRAM, IN A SANDBOX (cutbox-door.mjs). By AI agents, Wed Nov 11 2026. No macro, syntax, notation, axiom, sorry.
-/
import Derived.Test.YtnfmpddhcjkjbaaGreatDoorRows
import GoSem.ClaimSeven
namespace Go.Proofs.YtnfmpddhcjkjbaaGreatDoor
namespace Rows

/-- THE TIED CARD OF 'fundadminlaw17.ActionExact'. -/
def actionExactCard : Claim7 := { stood := { row := actionExactRow, standIns := [], harness := (true, "cc9d86643e8ee8caee89dbb895cc8d904febe9707500b1f1ff3f4f989e6866ab"), looks := false }, kinds := [], alts := [], laidByText := true, laidKinds := [.data, .pinned], laidTests := true, laidLooks := .later }
def ActionExactCardSaid : Prop := Claim7.holds Tryz.pinned (.plain (OpenSpec.ofChange actionExactSpec)) actionExactCard

/-- THE TIED CARD OF 'fundadminlaw17.ActionPlays'. -/
def actionPlaysCard : Claim7 := { stood := { row := actionPlaysRow, standIns := [], harness := (true, "cc9d86643e8ee8caee89dbb895cc8d904febe9707500b1f1ff3f4f989e6866ab"), looks := false }, kinds := [], alts := [], laidByText := true, laidKinds := [.data, .pinned], laidTests := true, laidLooks := .later }
def ActionPlaysCardSaid : Prop := Claim7.holds Tryz.pinned (.plain (OpenSpec.ofChange actionPlaysSpec)) actionPlaysCard

/-- THE TIED CARD OF 'fundadminlaw17.ActionValue'. -/
def actionValueCard : Claim7 := { stood := { row := actionValueRow, standIns := [], harness := (true, "cc9d86643e8ee8caee89dbb895cc8d904febe9707500b1f1ff3f4f989e6866ab"), looks := false }, kinds := [], alts := [], laidByText := true, laidKinds := [.data, .pinned], laidTests := true, laidLooks := .later }
def ActionValueCardSaid : Prop := Claim7.holds Tryz.pinned (.plain (OpenSpec.ofChange actionValueSpec)) actionValueCard

/-- THE TIED CARD OF 'fundadminlaw17.ActionDividend'. -/
def actionDividendCard : Claim7 := { stood := { row := actionDividendRow, standIns := [], harness := (true, "cc9d86643e8ee8caee89dbb895cc8d904febe9707500b1f1ff3f4f989e6866ab"), looks := false }, kinds := [], alts := [], laidByText := true, laidKinds := [.data, .pinned], laidTests := true, laidLooks := .later }
def ActionDividendCardSaid : Prop := Claim7.holds Tryz.pinned (.plain (OpenSpec.ofChange actionDividendSpec)) actionDividendCard

/-- THE TIED CARD OF 'fundadminlaw17.ActionMonotone'. -/
def actionMonotoneCard : Claim7 := { stood := { row := actionMonotoneRow, standIns := [], harness := (true, "cc9d86643e8ee8caee89dbb895cc8d904febe9707500b1f1ff3f4f989e6866ab"), looks := false }, kinds := [], alts := [], laidByText := true, laidKinds := [.data, .pinned], laidTests := true, laidLooks := .later }
def ActionMonotoneCardSaid : Prop := Claim7.holds Tryz.pinned (.plain (OpenSpec.ofChange actionMonotoneSpec)) actionMonotoneCard

/-- THE TIED CARD OF 'fundadminlaw17.ActionInverse'. -/
def actionInverseCard : Claim7 := { stood := { row := actionInverseRow, standIns := [], harness := (true, "cc9d86643e8ee8caee89dbb895cc8d904febe9707500b1f1ff3f4f989e6866ab"), looks := false }, kinds := [], alts := [], laidByText := true, laidKinds := [.data, .pinned], laidTests := true, laidLooks := .later }
def ActionInverseCardSaid : Prop := Claim7.holds Tryz.pinned (.plain (OpenSpec.ofChange actionInverseSpec)) actionInverseCard

/-- THE TIED CARD OF 'fundadminlaw17.ActionBooks'. -/
def actionBooksCard : Claim7 := { stood := { row := actionBooksRow, standIns := [], harness := (true, "cc9d86643e8ee8caee89dbb895cc8d904febe9707500b1f1ff3f4f989e6866ab"), looks := false }, kinds := [], alts := [], laidByText := true, laidKinds := [.data, .pinned], laidTests := true, laidLooks := .later }
def ActionBooksCardSaid : Prop := Claim7.holds Tryz.pinned (.plain (OpenSpec.ofChange actionBooksSpec)) actionBooksCard

/-- THE TIED CARD OF 'fundadminlaw17.ActionSpoilt'. -/
def actionSpoiltCard : Claim7 := { stood := { row := actionSpoiltRow, standIns := [], harness := (true, "cc9d86643e8ee8caee89dbb895cc8d904febe9707500b1f1ff3f4f989e6866ab"), looks := false }, kinds := [], alts := [], laidByText := true, laidKinds := [.data, .pinned], laidTests := true, laidLooks := .later }
def ActionSpoiltCardSaid : Prop := Claim7.holds Tryz.pinned (.plain (OpenSpec.ofChange actionSpoiltSpec)) actionSpoiltCard

/-- THE SECOND FORM's CARD OF 'fundadminlaw17.ActionExact'. -/
def actionExactUptoCard : Claim7 := { stood := { row := actionExactUptoRow, standIns := [], harness := (true, "cc9d86643e8ee8caee89dbb895cc8d904febe9707500b1f1ff3f4f989e6866ab"), looks := false }, kinds := [], alts := [], laidByText := true, laidKinds := [.data, .pinned], laidTests := true, laidLooks := .later }
def ActionExactUptoCardSaid : Prop := Claim7.holds Tryz.pinned (.plain (OpenSpec.upto actionExactSpec)) actionExactUptoCard

/-- THE SECOND FORM's CARD OF 'fundadminlaw17.ActionPlays'. -/
def actionPlaysUptoCard : Claim7 := { stood := { row := actionPlaysUptoRow, standIns := [], harness := (true, "cc9d86643e8ee8caee89dbb895cc8d904febe9707500b1f1ff3f4f989e6866ab"), looks := false }, kinds := [], alts := [], laidByText := true, laidKinds := [.data, .pinned], laidTests := true, laidLooks := .later }
def ActionPlaysUptoCardSaid : Prop := Claim7.holds Tryz.pinned (.plain (OpenSpec.upto actionPlaysSpec)) actionPlaysUptoCard

/-- THE SECOND FORM's CARD OF 'fundadminlaw17.ActionValue'. -/
def actionValueUptoCard : Claim7 := { stood := { row := actionValueUptoRow, standIns := [], harness := (true, "cc9d86643e8ee8caee89dbb895cc8d904febe9707500b1f1ff3f4f989e6866ab"), looks := false }, kinds := [], alts := [], laidByText := true, laidKinds := [.data, .pinned], laidTests := true, laidLooks := .later }
def ActionValueUptoCardSaid : Prop := Claim7.holds Tryz.pinned (.plain (OpenSpec.upto actionValueSpec)) actionValueUptoCard

/-- THE SECOND FORM's CARD OF 'fundadminlaw17.ActionDividend'. -/
def actionDividendUptoCard : Claim7 := { stood := { row := actionDividendUptoRow, standIns := [], harness := (true, "cc9d86643e8ee8caee89dbb895cc8d904febe9707500b1f1ff3f4f989e6866ab"), looks := false }, kinds := [], alts := [], laidByText := true, laidKinds := [.data, .pinned], laidTests := true, laidLooks := .later }
def ActionDividendUptoCardSaid : Prop := Claim7.holds Tryz.pinned (.plain (OpenSpec.upto actionDividendSpec)) actionDividendUptoCard

/-- THE SECOND FORM's CARD OF 'fundadminlaw17.ActionMonotone'. -/
def actionMonotoneUptoCard : Claim7 := { stood := { row := actionMonotoneUptoRow, standIns := [], harness := (true, "cc9d86643e8ee8caee89dbb895cc8d904febe9707500b1f1ff3f4f989e6866ab"), looks := false }, kinds := [], alts := [], laidByText := true, laidKinds := [.data, .pinned], laidTests := true, laidLooks := .later }
def ActionMonotoneUptoCardSaid : Prop := Claim7.holds Tryz.pinned (.plain (OpenSpec.upto actionMonotoneSpec)) actionMonotoneUptoCard

/-- THE SECOND FORM's CARD OF 'fundadminlaw17.ActionInverse'. -/
def actionInverseUptoCard : Claim7 := { stood := { row := actionInverseUptoRow, standIns := [], harness := (true, "cc9d86643e8ee8caee89dbb895cc8d904febe9707500b1f1ff3f4f989e6866ab"), looks := false }, kinds := [], alts := [], laidByText := true, laidKinds := [.data, .pinned], laidTests := true, laidLooks := .later }
def ActionInverseUptoCardSaid : Prop := Claim7.holds Tryz.pinned (.plain (OpenSpec.upto actionInverseSpec)) actionInverseUptoCard

/-- THE SECOND FORM's CARD OF 'fundadminlaw17.ActionBooks'. -/
def actionBooksUptoCard : Claim7 := { stood := { row := actionBooksUptoRow, standIns := [], harness := (true, "cc9d86643e8ee8caee89dbb895cc8d904febe9707500b1f1ff3f4f989e6866ab"), looks := false }, kinds := [], alts := [], laidByText := true, laidKinds := [.data, .pinned], laidTests := true, laidLooks := .later }
def ActionBooksUptoCardSaid : Prop := Claim7.holds Tryz.pinned (.plain (OpenSpec.upto actionBooksSpec)) actionBooksUptoCard

/-- THE SECOND FORM's CARD OF 'fundadminlaw17.ActionSpoilt'. -/
def actionSpoiltUptoCard : Claim7 := { stood := { row := actionSpoiltUptoRow, standIns := [], harness := (true, "cc9d86643e8ee8caee89dbb895cc8d904febe9707500b1f1ff3f4f989e6866ab"), looks := false }, kinds := [], alts := [], laidByText := true, laidKinds := [.data, .pinned], laidTests := true, laidLooks := .later }
def ActionSpoiltUptoCardSaid : Prop := Claim7.holds Tryz.pinned (.plain (OpenSpec.upto actionSpoiltSpec)) actionSpoiltUptoCard
end Rows
end Go.Proofs.YtnfmpddhcjkjbaaGreatDoor
