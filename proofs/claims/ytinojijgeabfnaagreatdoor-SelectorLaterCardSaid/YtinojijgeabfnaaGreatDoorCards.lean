/-
  DERIVED. GIVEN WITH THE SEED: THE CARDS: each row of YtinojijgeabfnaaGreatDoorRows.lean that lists a variable, with what it lists TIED to the program's text (the seventh form; the later family's looks); each row that meets fmt, with fmt's text TOLD by the authors' own Lean function (tested against real Go, not proved from fmt's source: count such statements apart). THE CARD IS WHAT COUNTS. Prove the row's statement (the work); the ties are given (YtinojijgeabfnaaGreatDoorTie.lean); close each card by the builder's one call (the guide's Derived/Test/ToyasCard.lean, 'card_holds'). Laid BY PROGRAM, IN A SANDBOX (cutbox-door.mjs). By AI agents, Wed Nov 11 2026. No macro, syntax, notation, axiom, sorry.
-/
import Derived.Test.YtinojijgeabfnaaGreatDoorRows
import GoSem.ClaimSeven
namespace Go.Proofs.YtinojijgeabfnaaGreatDoor
namespace Rows

/-- THE TIED CARD OF 'fundadminlaw15.SelectorExact'. -/
def selectorExactCard : Claim7 := { stood := { row := selectorExactRow, standIns := [], harness := (true, "bf43d9e4814d3b796474a5b1a90df8abce083bbfa2d6a714e20a65e339192414"), looks := false }, kinds := [], alts := [], laidByText := true, laidKinds := [.data, .pinned], laidTests := true, laidLooks := .later }
def SelectorExactCardSaid : Prop := Claim7.holds Tryz.pinned (.plain (OpenSpec.ofChange selectorExactSpec)) selectorExactCard

/-- THE TIED CARD OF 'fundadminlaw15.SelectorPlays'. -/
def selectorPlaysCard : Claim7 := { stood := { row := selectorPlaysRow, standIns := [], harness := (true, "bf43d9e4814d3b796474a5b1a90df8abce083bbfa2d6a714e20a65e339192414"), looks := false }, kinds := [], alts := [], laidByText := true, laidKinds := [.data, .pinned], laidTests := true, laidLooks := .later }
def SelectorPlaysCardSaid : Prop := Claim7.holds Tryz.pinned (.plain (OpenSpec.ofChange selectorPlaysSpec)) selectorPlaysCard

/-- THE TIED CARD OF 'fundadminlaw15.SelectorSpoilt'. -/
def selectorSpoiltCard : Claim7 := { stood := { row := selectorSpoiltRow, standIns := [], harness := (true, "bf43d9e4814d3b796474a5b1a90df8abce083bbfa2d6a714e20a65e339192414"), looks := false }, kinds := [], alts := [], laidByText := true, laidKinds := [.data, .pinned], laidTests := true, laidLooks := .later }
def SelectorSpoiltCardSaid : Prop := Claim7.holds Tryz.pinned (.plain (OpenSpec.ofChange selectorSpoiltSpec)) selectorSpoiltCard

/-- THE TIED CARD OF 'fundadminlaw15.SelectorMiddle'. -/
def selectorMiddleCard : Claim7 := { stood := { row := selectorMiddleRow, standIns := [], harness := (true, "bf43d9e4814d3b796474a5b1a90df8abce083bbfa2d6a714e20a65e339192414"), looks := false }, kinds := [], alts := [], laidByText := true, laidKinds := [.data, .pinned], laidTests := true, laidLooks := .later }
def SelectorMiddleCardSaid : Prop := Claim7.holds Tryz.pinned (.plain (OpenSpec.ofChange selectorMiddleSpec)) selectorMiddleCard

/-- THE TIED CARD OF 'fundadminlaw15.SelectorLater'. -/
def selectorLaterCard : Claim7 := { stood := { row := selectorLaterRow, standIns := [], harness := (true, "bf43d9e4814d3b796474a5b1a90df8abce083bbfa2d6a714e20a65e339192414"), looks := false }, kinds := [], alts := [], laidByText := true, laidKinds := [.data, .pinned], laidTests := true, laidLooks := .later }
def SelectorLaterCardSaid : Prop := Claim7.holds Tryz.pinned (.plain (OpenSpec.ofChange selectorLaterSpec)) selectorLaterCard

/-- THE TIED CARD OF 'fundadminlaw15.SelectorMajority'. -/
def selectorMajorityCard : Claim7 := { stood := { row := selectorMajorityRow, standIns := [], harness := (true, "bf43d9e4814d3b796474a5b1a90df8abce083bbfa2d6a714e20a65e339192414"), looks := false }, kinds := [], alts := [], laidByText := true, laidKinds := [.data, .pinned], laidTests := true, laidLooks := .later }
def SelectorMajorityCardSaid : Prop := Claim7.holds Tryz.pinned (.plain (OpenSpec.ofChange selectorMajoritySpec)) selectorMajorityCard

/-- THE TIED CARD OF 'fundadminlaw15.SelectorSingle'. -/
def selectorSingleCard : Claim7 := { stood := { row := selectorSingleRow, standIns := [], harness := (true, "bf43d9e4814d3b796474a5b1a90df8abce083bbfa2d6a714e20a65e339192414"), looks := false }, kinds := [], alts := [], laidByText := true, laidKinds := [.data, .pinned], laidTests := true, laidLooks := .later }
def SelectorSingleCardSaid : Prop := Claim7.holds Tryz.pinned (.plain (OpenSpec.ofChange selectorSingleSpec)) selectorSingleCard

/-- THE SECOND FORM's CARD OF 'fundadminlaw15.SelectorExact'. -/
def selectorExactUptoCard : Claim7 := { stood := { row := selectorExactUptoRow, standIns := [], harness := (true, "bf43d9e4814d3b796474a5b1a90df8abce083bbfa2d6a714e20a65e339192414"), looks := false }, kinds := [], alts := [], laidByText := true, laidKinds := [.data, .pinned], laidTests := true, laidLooks := .later }
def SelectorExactUptoCardSaid : Prop := Claim7.holds Tryz.pinned (.plain (OpenSpec.upto selectorExactSpec)) selectorExactUptoCard

/-- THE SECOND FORM's CARD OF 'fundadminlaw15.SelectorPlays'. -/
def selectorPlaysUptoCard : Claim7 := { stood := { row := selectorPlaysUptoRow, standIns := [], harness := (true, "bf43d9e4814d3b796474a5b1a90df8abce083bbfa2d6a714e20a65e339192414"), looks := false }, kinds := [], alts := [], laidByText := true, laidKinds := [.data, .pinned], laidTests := true, laidLooks := .later }
def SelectorPlaysUptoCardSaid : Prop := Claim7.holds Tryz.pinned (.plain (OpenSpec.upto selectorPlaysSpec)) selectorPlaysUptoCard

/-- THE SECOND FORM's CARD OF 'fundadminlaw15.SelectorSpoilt'. -/
def selectorSpoiltUptoCard : Claim7 := { stood := { row := selectorSpoiltUptoRow, standIns := [], harness := (true, "bf43d9e4814d3b796474a5b1a90df8abce083bbfa2d6a714e20a65e339192414"), looks := false }, kinds := [], alts := [], laidByText := true, laidKinds := [.data, .pinned], laidTests := true, laidLooks := .later }
def SelectorSpoiltUptoCardSaid : Prop := Claim7.holds Tryz.pinned (.plain (OpenSpec.upto selectorSpoiltSpec)) selectorSpoiltUptoCard

/-- THE SECOND FORM's CARD OF 'fundadminlaw15.SelectorMiddle'. -/
def selectorMiddleUptoCard : Claim7 := { stood := { row := selectorMiddleUptoRow, standIns := [], harness := (true, "bf43d9e4814d3b796474a5b1a90df8abce083bbfa2d6a714e20a65e339192414"), looks := false }, kinds := [], alts := [], laidByText := true, laidKinds := [.data, .pinned], laidTests := true, laidLooks := .later }
def SelectorMiddleUptoCardSaid : Prop := Claim7.holds Tryz.pinned (.plain (OpenSpec.upto selectorMiddleSpec)) selectorMiddleUptoCard

/-- THE SECOND FORM's CARD OF 'fundadminlaw15.SelectorLater'. -/
def selectorLaterUptoCard : Claim7 := { stood := { row := selectorLaterUptoRow, standIns := [], harness := (true, "bf43d9e4814d3b796474a5b1a90df8abce083bbfa2d6a714e20a65e339192414"), looks := false }, kinds := [], alts := [], laidByText := true, laidKinds := [.data, .pinned], laidTests := true, laidLooks := .later }
def SelectorLaterUptoCardSaid : Prop := Claim7.holds Tryz.pinned (.plain (OpenSpec.upto selectorLaterSpec)) selectorLaterUptoCard

/-- THE SECOND FORM's CARD OF 'fundadminlaw15.SelectorMajority'. -/
def selectorMajorityUptoCard : Claim7 := { stood := { row := selectorMajorityUptoRow, standIns := [], harness := (true, "bf43d9e4814d3b796474a5b1a90df8abce083bbfa2d6a714e20a65e339192414"), looks := false }, kinds := [], alts := [], laidByText := true, laidKinds := [.data, .pinned], laidTests := true, laidLooks := .later }
def SelectorMajorityUptoCardSaid : Prop := Claim7.holds Tryz.pinned (.plain (OpenSpec.upto selectorMajoritySpec)) selectorMajorityUptoCard

/-- THE SECOND FORM's CARD OF 'fundadminlaw15.SelectorSingle'. -/
def selectorSingleUptoCard : Claim7 := { stood := { row := selectorSingleUptoRow, standIns := [], harness := (true, "bf43d9e4814d3b796474a5b1a90df8abce083bbfa2d6a714e20a65e339192414"), looks := false }, kinds := [], alts := [], laidByText := true, laidKinds := [.data, .pinned], laidTests := true, laidLooks := .later }
def SelectorSingleUptoCardSaid : Prop := Claim7.holds Tryz.pinned (.plain (OpenSpec.upto selectorSingleSpec)) selectorSingleUptoCard
end Rows
end Go.Proofs.YtinojijgeabfnaaGreatDoor
