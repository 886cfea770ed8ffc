/-
  DERIVED. GIVEN WITH THE SEED: THE CARDS: each row of YtklehfchdoikeaaGreatDoorRows.lean that lists a variable, with what it lists TIED to the program's text (the seventh form; the later family's looks); each row that meets fmt, with fmt's text TOLD by the authors' own Lean function (tested against real Go, not proved from fmt's source: count such statements apart). THE CARD IS WHAT COUNTS. Prove the row's statement (the work); the ties are given (YtklehfchdoikeaaGreatDoorTie.lean); close each card by the builder's one call (the guide's Derived/Test/ToyasCard.lean, 'card_holds'). Laid BY PROGRAM, IN A SANDBOX (cutbox-door.mjs). By AI agents, Wed Nov 11 2026. No macro, syntax, notation, axiom, sorry.
-/
import Derived.Test.YtklehfchdoikeaaGreatDoorRows
import GoSem.ClaimSeven
namespace Go.Proofs.YtklehfchdoikeaaGreatDoor
namespace Rows

/-- THE TIED CARD OF 'fundadminlaw20.ValuationExact'. -/
def valuationExactCard : Claim7 := { stood := { row := valuationExactRow, standIns := [], harness := (true, "773bb413c497e99beac895a344878c40b7236b19bcabd00278598496392f72bc"), looks := false }, kinds := [], alts := [], laidByText := true, laidKinds := [.data, .pinned], laidTests := true, laidLooks := .later }
def ValuationExactCardSaid : Prop := Claim7.holds Tryz.pinned (.plain (OpenSpec.ofChange valuationExactSpec)) valuationExactCard

/-- THE TIED CARD OF 'fundadminlaw20.ValuationPlays'. -/
def valuationPlaysCard : Claim7 := { stood := { row := valuationPlaysRow, standIns := [], harness := (true, "773bb413c497e99beac895a344878c40b7236b19bcabd00278598496392f72bc"), looks := false }, kinds := [], alts := [], laidByText := true, laidKinds := [.data, .pinned], laidTests := true, laidLooks := .later }
def ValuationPlaysCardSaid : Prop := Claim7.holds Tryz.pinned (.plain (OpenSpec.ofChange valuationPlaysSpec)) valuationPlaysCard

/-- THE TIED CARD OF 'fundadminlaw20.ValuationSpoilt'. -/
def valuationSpoiltCard : Claim7 := { stood := { row := valuationSpoiltRow, standIns := [], harness := (true, "773bb413c497e99beac895a344878c40b7236b19bcabd00278598496392f72bc"), looks := false }, kinds := [], alts := [], laidByText := true, laidKinds := [.data, .pinned], laidTests := true, laidLooks := .later }
def ValuationSpoiltCardSaid : Prop := Claim7.holds Tryz.pinned (.plain (OpenSpec.ofChange valuationSpoiltSpec)) valuationSpoiltCard

/-- THE TIED CARD OF 'fundadminlaw20.ValuationLines'. -/
def valuationLinesCard : Claim7 := { stood := { row := valuationLinesRow, standIns := [], harness := (true, "773bb413c497e99beac895a344878c40b7236b19bcabd00278598496392f72bc"), looks := false }, kinds := [], alts := [], laidByText := true, laidKinds := [.data, .pinned], laidTests := true, laidLooks := .later }
def ValuationLinesCardSaid : Prop := Claim7.holds Tryz.pinned (.plain (OpenSpec.ofChange valuationLinesSpec)) valuationLinesCard

/-- THE TIED CARD OF 'fundadminlaw20.ValuationTampers'. -/
def valuationTampersCard : Claim7 := { stood := { row := valuationTampersRow, standIns := [], harness := (true, "773bb413c497e99beac895a344878c40b7236b19bcabd00278598496392f72bc"), looks := false }, kinds := [], alts := [], laidByText := true, laidKinds := [.data, .pinned], laidTests := true, laidLooks := .later }
def ValuationTampersCardSaid : Prop := Claim7.holds Tryz.pinned (.plain (OpenSpec.ofChange valuationTampersSpec)) valuationTampersCard

/-- THE TIED CARD OF 'fundadminlaw20.ValuationBound'. -/
def valuationBoundCard : Claim7 := { stood := { row := valuationBoundRow, standIns := [], harness := (true, "773bb413c497e99beac895a344878c40b7236b19bcabd00278598496392f72bc"), looks := false }, kinds := [], alts := [], laidByText := true, laidKinds := [.data, .pinned], laidTests := true, laidLooks := .later }
def ValuationBoundCardSaid : Prop := Claim7.holds Tryz.pinned (.plain (OpenSpec.ofChange valuationBoundSpec)) valuationBoundCard

/-- THE TIED CARD OF 'fundadminlaw20.ValuationLater'. -/
def valuationLaterCard : Claim7 := { stood := { row := valuationLaterRow, standIns := [], harness := (true, "773bb413c497e99beac895a344878c40b7236b19bcabd00278598496392f72bc"), looks := false }, kinds := [], alts := [], laidByText := true, laidKinds := [.data, .pinned], laidTests := true, laidLooks := .later }
def ValuationLaterCardSaid : Prop := Claim7.holds Tryz.pinned (.plain (OpenSpec.ofChange valuationLaterSpec)) valuationLaterCard

/-- THE TIED CARD OF 'fundadminlaw20.ValuationParts'. -/
def valuationPartsCard : Claim7 := { stood := { row := valuationPartsRow, standIns := [], harness := (true, "773bb413c497e99beac895a344878c40b7236b19bcabd00278598496392f72bc"), looks := false }, kinds := [], alts := [], laidByText := true, laidKinds := [.data, .pinned], laidTests := true, laidLooks := .later }
def ValuationPartsCardSaid : Prop := Claim7.holds Tryz.pinned (.plain (OpenSpec.ofChange valuationPartsSpec)) valuationPartsCard

/-- THE SECOND FORM's CARD OF 'fundadminlaw20.ValuationExact'. -/
def valuationExactUptoCard : Claim7 := { stood := { row := valuationExactUptoRow, standIns := [], harness := (true, "773bb413c497e99beac895a344878c40b7236b19bcabd00278598496392f72bc"), looks := false }, kinds := [], alts := [], laidByText := true, laidKinds := [.data, .pinned], laidTests := true, laidLooks := .later }
def ValuationExactUptoCardSaid : Prop := Claim7.holds Tryz.pinned (.plain (OpenSpec.upto valuationExactSpec)) valuationExactUptoCard

/-- THE SECOND FORM's CARD OF 'fundadminlaw20.ValuationPlays'. -/
def valuationPlaysUptoCard : Claim7 := { stood := { row := valuationPlaysUptoRow, standIns := [], harness := (true, "773bb413c497e99beac895a344878c40b7236b19bcabd00278598496392f72bc"), looks := false }, kinds := [], alts := [], laidByText := true, laidKinds := [.data, .pinned], laidTests := true, laidLooks := .later }
def ValuationPlaysUptoCardSaid : Prop := Claim7.holds Tryz.pinned (.plain (OpenSpec.upto valuationPlaysSpec)) valuationPlaysUptoCard

/-- THE SECOND FORM's CARD OF 'fundadminlaw20.ValuationSpoilt'. -/
def valuationSpoiltUptoCard : Claim7 := { stood := { row := valuationSpoiltUptoRow, standIns := [], harness := (true, "773bb413c497e99beac895a344878c40b7236b19bcabd00278598496392f72bc"), looks := false }, kinds := [], alts := [], laidByText := true, laidKinds := [.data, .pinned], laidTests := true, laidLooks := .later }
def ValuationSpoiltUptoCardSaid : Prop := Claim7.holds Tryz.pinned (.plain (OpenSpec.upto valuationSpoiltSpec)) valuationSpoiltUptoCard

/-- THE SECOND FORM's CARD OF 'fundadminlaw20.ValuationLines'. -/
def valuationLinesUptoCard : Claim7 := { stood := { row := valuationLinesUptoRow, standIns := [], harness := (true, "773bb413c497e99beac895a344878c40b7236b19bcabd00278598496392f72bc"), looks := false }, kinds := [], alts := [], laidByText := true, laidKinds := [.data, .pinned], laidTests := true, laidLooks := .later }
def ValuationLinesUptoCardSaid : Prop := Claim7.holds Tryz.pinned (.plain (OpenSpec.upto valuationLinesSpec)) valuationLinesUptoCard

/-- THE SECOND FORM's CARD OF 'fundadminlaw20.ValuationTampers'. -/
def valuationTampersUptoCard : Claim7 := { stood := { row := valuationTampersUptoRow, standIns := [], harness := (true, "773bb413c497e99beac895a344878c40b7236b19bcabd00278598496392f72bc"), looks := false }, kinds := [], alts := [], laidByText := true, laidKinds := [.data, .pinned], laidTests := true, laidLooks := .later }
def ValuationTampersUptoCardSaid : Prop := Claim7.holds Tryz.pinned (.plain (OpenSpec.upto valuationTampersSpec)) valuationTampersUptoCard

/-- THE SECOND FORM's CARD OF 'fundadminlaw20.ValuationBound'. -/
def valuationBoundUptoCard : Claim7 := { stood := { row := valuationBoundUptoRow, standIns := [], harness := (true, "773bb413c497e99beac895a344878c40b7236b19bcabd00278598496392f72bc"), looks := false }, kinds := [], alts := [], laidByText := true, laidKinds := [.data, .pinned], laidTests := true, laidLooks := .later }
def ValuationBoundUptoCardSaid : Prop := Claim7.holds Tryz.pinned (.plain (OpenSpec.upto valuationBoundSpec)) valuationBoundUptoCard

/-- THE SECOND FORM's CARD OF 'fundadminlaw20.ValuationLater'. -/
def valuationLaterUptoCard : Claim7 := { stood := { row := valuationLaterUptoRow, standIns := [], harness := (true, "773bb413c497e99beac895a344878c40b7236b19bcabd00278598496392f72bc"), looks := false }, kinds := [], alts := [], laidByText := true, laidKinds := [.data, .pinned], laidTests := true, laidLooks := .later }
def ValuationLaterUptoCardSaid : Prop := Claim7.holds Tryz.pinned (.plain (OpenSpec.upto valuationLaterSpec)) valuationLaterUptoCard

/-- THE SECOND FORM's CARD OF 'fundadminlaw20.ValuationParts'. -/
def valuationPartsUptoCard : Claim7 := { stood := { row := valuationPartsUptoRow, standIns := [], harness := (true, "773bb413c497e99beac895a344878c40b7236b19bcabd00278598496392f72bc"), looks := false }, kinds := [], alts := [], laidByText := true, laidKinds := [.data, .pinned], laidTests := true, laidLooks := .later }
def ValuationPartsUptoCardSaid : Prop := Claim7.holds Tryz.pinned (.plain (OpenSpec.upto valuationPartsSpec)) valuationPartsUptoCard
end Rows
end Go.Proofs.YtklehfchdoikeaaGreatDoor
