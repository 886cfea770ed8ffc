/-
  DERIVED. GIVEN WITH THE SEED: THE CARDS: each row of YtekfkdddadcalaaGreatDoorRows.lean that lists a variable, with what it lists TIED to the program's text (the seventh form; the later family's looks); each row that meets fmt, with fmt's text TOLD by the authors' own Lean function (tested against real Go, not proved from fmt's source: count such statements apart). THE CARD IS WHAT COUNTS. Prove the row's statement (the work); the ties are given (YtekfkdddadcalaaGreatDoorTie.lean); close each card by the builder's one call (the guide's Derived/Test/ToyasCard.lean, 'card_holds'). Laid BY PROGRAM, IN A SANDBOX (cutbox-door.mjs). By AI agents, Wed Nov 11 2026. No macro, syntax, notation, axiom, sorry.
-/
import Derived.Test.YtekfkdddadcalaaGreatDoorRows
import GoSem.ClaimSeven
namespace Go.Proofs.YtekfkdddadcalaaGreatDoor
namespace Rows

/-- THE TIED CARD OF 'fundadminlaw18.PositionSpoilt'. -/
def positionSpoiltCard : Claim7 := { stood := { row := positionSpoiltRow, standIns := [], harness := (true, "aa5000ee0d7c1d901af995a79e019268efdca6199fc5768e4c4b152e43e19c9a"), looks := false }, kinds := [], alts := [], laidByText := true, laidKinds := [.data, .pinned], laidTests := true, laidLooks := .later }
def PositionSpoiltCardSaid : Prop := Claim7.holds Tryz.pinned (.plain (OpenSpec.ofChange positionSpoiltSpec)) positionSpoiltCard

/-- THE TIED CARD OF 'fundadminlaw18.PositionSums'. -/
def positionSumsCard : Claim7 := { stood := { row := positionSumsRow, standIns := [], harness := (true, "aa5000ee0d7c1d901af995a79e019268efdca6199fc5768e4c4b152e43e19c9a"), looks := false }, kinds := [], alts := [], laidByText := true, laidKinds := [.data, .pinned], laidTests := true, laidLooks := .later }
def PositionSumsCardSaid : Prop := Claim7.holds Tryz.pinned (.plain (OpenSpec.ofChange positionSumsSpec)) positionSumsCard

/-- THE TIED CARD OF 'fundadminlaw18.PositionLater'. -/
def positionLaterCard : Claim7 := { stood := { row := positionLaterRow, standIns := [], harness := (true, "aa5000ee0d7c1d901af995a79e019268efdca6199fc5768e4c4b152e43e19c9a"), looks := false }, kinds := [], alts := [], laidByText := true, laidKinds := [.data, .pinned], laidTests := true, laidLooks := .later }
def PositionLaterCardSaid : Prop := Claim7.holds Tryz.pinned (.plain (OpenSpec.ofChange positionLaterSpec)) positionLaterCard

/-- THE TIED CARD OF 'fundadminlaw18.PositionOrder'. -/
def positionOrderCard : Claim7 := { stood := { row := positionOrderRow, standIns := [], harness := (true, "aa5000ee0d7c1d901af995a79e019268efdca6199fc5768e4c4b152e43e19c9a"), looks := false }, kinds := [], alts := [], laidByText := true, laidKinds := [.data, .pinned], laidTests := true, laidLooks := .later }
def PositionOrderCardSaid : Prop := Claim7.holds Tryz.pinned (.plain (OpenSpec.ofChange positionOrderSpec)) positionOrderCard

/-- THE TIED CARD OF 'fundadminlaw18.PositionSettles'. -/
def positionSettlesCard : Claim7 := { stood := { row := positionSettlesRow, standIns := [], harness := (true, "aa5000ee0d7c1d901af995a79e019268efdca6199fc5768e4c4b152e43e19c9a"), looks := false }, kinds := [], alts := [], laidByText := true, laidKinds := [.data, .pinned], laidTests := true, laidLooks := .later }
def PositionSettlesCardSaid : Prop := Claim7.holds Tryz.pinned (.plain (OpenSpec.ofChange positionSettlesSpec)) positionSettlesCard

/-- THE TIED CARD OF 'fundadminlaw18.PositionCorrects'. -/
def positionCorrectsCard : Claim7 := { stood := { row := positionCorrectsRow, standIns := [], harness := (true, "aa5000ee0d7c1d901af995a79e019268efdca6199fc5768e4c4b152e43e19c9a"), looks := false }, kinds := [], alts := [], laidByText := true, laidKinds := [.data, .pinned], laidTests := true, laidLooks := .later }
def PositionCorrectsCardSaid : Prop := Claim7.holds Tryz.pinned (.plain (OpenSpec.ofChange positionCorrectsSpec)) positionCorrectsCard

/-- THE TIED CARD OF 'fundadminlaw18.PositionPlays'. -/
def positionPlaysCard : Claim7 := { stood := { row := positionPlaysRow, standIns := [], harness := (true, "aa5000ee0d7c1d901af995a79e019268efdca6199fc5768e4c4b152e43e19c9a"), looks := false }, kinds := [], alts := [], laidByText := true, laidKinds := [.data, .pinned], laidTests := true, laidLooks := .later }
def PositionPlaysCardSaid : Prop := Claim7.holds Tryz.pinned (.plain (OpenSpec.ofChange positionPlaysSpec)) positionPlaysCard

/-- THE TIED CARD OF 'fundadminlaw18.PositionBent'. -/
def positionBentCard : Claim7 := { stood := { row := positionBentRow, standIns := [], harness := (true, "aa5000ee0d7c1d901af995a79e019268efdca6199fc5768e4c4b152e43e19c9a"), looks := false }, kinds := [], alts := [], laidByText := true, laidKinds := [.data, .pinned], laidTests := true, laidLooks := .later }
def PositionBentCardSaid : Prop := Claim7.holds Tryz.pinned (.plain (OpenSpec.ofChange positionBentSpec)) positionBentCard

/-- THE SECOND FORM's CARD OF 'fundadminlaw18.PositionSpoilt'. -/
def positionSpoiltUptoCard : Claim7 := { stood := { row := positionSpoiltUptoRow, standIns := [], harness := (true, "aa5000ee0d7c1d901af995a79e019268efdca6199fc5768e4c4b152e43e19c9a"), looks := false }, kinds := [], alts := [], laidByText := true, laidKinds := [.data, .pinned], laidTests := true, laidLooks := .later }
def PositionSpoiltUptoCardSaid : Prop := Claim7.holds Tryz.pinned (.plain (OpenSpec.upto positionSpoiltSpec)) positionSpoiltUptoCard

/-- THE SECOND FORM's CARD OF 'fundadminlaw18.PositionSums'. -/
def positionSumsUptoCard : Claim7 := { stood := { row := positionSumsUptoRow, standIns := [], harness := (true, "aa5000ee0d7c1d901af995a79e019268efdca6199fc5768e4c4b152e43e19c9a"), looks := false }, kinds := [], alts := [], laidByText := true, laidKinds := [.data, .pinned], laidTests := true, laidLooks := .later }
def PositionSumsUptoCardSaid : Prop := Claim7.holds Tryz.pinned (.plain (OpenSpec.upto positionSumsSpec)) positionSumsUptoCard

/-- THE SECOND FORM's CARD OF 'fundadminlaw18.PositionLater'. -/
def positionLaterUptoCard : Claim7 := { stood := { row := positionLaterUptoRow, standIns := [], harness := (true, "aa5000ee0d7c1d901af995a79e019268efdca6199fc5768e4c4b152e43e19c9a"), looks := false }, kinds := [], alts := [], laidByText := true, laidKinds := [.data, .pinned], laidTests := true, laidLooks := .later }
def PositionLaterUptoCardSaid : Prop := Claim7.holds Tryz.pinned (.plain (OpenSpec.upto positionLaterSpec)) positionLaterUptoCard

/-- THE SECOND FORM's CARD OF 'fundadminlaw18.PositionOrder'. -/
def positionOrderUptoCard : Claim7 := { stood := { row := positionOrderUptoRow, standIns := [], harness := (true, "aa5000ee0d7c1d901af995a79e019268efdca6199fc5768e4c4b152e43e19c9a"), looks := false }, kinds := [], alts := [], laidByText := true, laidKinds := [.data, .pinned], laidTests := true, laidLooks := .later }
def PositionOrderUptoCardSaid : Prop := Claim7.holds Tryz.pinned (.plain (OpenSpec.upto positionOrderSpec)) positionOrderUptoCard

/-- THE SECOND FORM's CARD OF 'fundadminlaw18.PositionSettles'. -/
def positionSettlesUptoCard : Claim7 := { stood := { row := positionSettlesUptoRow, standIns := [], harness := (true, "aa5000ee0d7c1d901af995a79e019268efdca6199fc5768e4c4b152e43e19c9a"), looks := false }, kinds := [], alts := [], laidByText := true, laidKinds := [.data, .pinned], laidTests := true, laidLooks := .later }
def PositionSettlesUptoCardSaid : Prop := Claim7.holds Tryz.pinned (.plain (OpenSpec.upto positionSettlesSpec)) positionSettlesUptoCard

/-- THE SECOND FORM's CARD OF 'fundadminlaw18.PositionCorrects'. -/
def positionCorrectsUptoCard : Claim7 := { stood := { row := positionCorrectsUptoRow, standIns := [], harness := (true, "aa5000ee0d7c1d901af995a79e019268efdca6199fc5768e4c4b152e43e19c9a"), looks := false }, kinds := [], alts := [], laidByText := true, laidKinds := [.data, .pinned], laidTests := true, laidLooks := .later }
def PositionCorrectsUptoCardSaid : Prop := Claim7.holds Tryz.pinned (.plain (OpenSpec.upto positionCorrectsSpec)) positionCorrectsUptoCard

/-- THE SECOND FORM's CARD OF 'fundadminlaw18.PositionPlays'. -/
def positionPlaysUptoCard : Claim7 := { stood := { row := positionPlaysUptoRow, standIns := [], harness := (true, "aa5000ee0d7c1d901af995a79e019268efdca6199fc5768e4c4b152e43e19c9a"), looks := false }, kinds := [], alts := [], laidByText := true, laidKinds := [.data, .pinned], laidTests := true, laidLooks := .later }
def PositionPlaysUptoCardSaid : Prop := Claim7.holds Tryz.pinned (.plain (OpenSpec.upto positionPlaysSpec)) positionPlaysUptoCard

/-- THE SECOND FORM's CARD OF 'fundadminlaw18.PositionBent'. -/
def positionBentUptoCard : Claim7 := { stood := { row := positionBentUptoRow, standIns := [], harness := (true, "aa5000ee0d7c1d901af995a79e019268efdca6199fc5768e4c4b152e43e19c9a"), looks := false }, kinds := [], alts := [], laidByText := true, laidKinds := [.data, .pinned], laidTests := true, laidLooks := .later }
def PositionBentUptoCardSaid : Prop := Claim7.holds Tryz.pinned (.plain (OpenSpec.upto positionBentSpec)) positionBentUptoCard
end Rows
end Go.Proofs.YtekfkdddadcalaaGreatDoor
