/-
  DERIVED. GIVEN WITH THE SEED: THE CARDS: each row of YtjkgmglmgndaoaaGreatDoorRows.lean that lists a variable, with what it lists TIED to the program's text (the seventh form; the later family's looks); each row that meets fmt, with fmt's text TOLD by the authors' own Lean function (tested against real Go, not proved from fmt's source: count such statements apart). THE CARD IS WHAT COUNTS. Prove the row's statement (the work); the ties are given (YtjkgmglmgndaoaaGreatDoorTie.lean); close each card by the builder's one call (the guide's Derived/Test/ToyasCard.lean, 'card_holds'). Laid BY PROGRAM, IN A SANDBOX (cutbox-door.mjs). By AI agents, Wed Nov 11 2026. No macro, syntax, notation, axiom, sorry.
-/
import Derived.Test.YtjkgmglmgndaoaaGreatDoorRows
import GoSem.ClaimSeven
namespace Go.Proofs.YtjkgmglmgndaoaaGreatDoor
namespace Rows

/-- THE TIED CARD OF 'fundadminlaw16.ExchangeExact'. -/
def exchangeExactCard : Claim7 := { stood := { row := exchangeExactRow, standIns := [], harness := (true, "2675bc8ad21f2b6f2dc0c66dd76b2ca995abe9c71cc3abc8eadb650e8a64967a"), looks := false }, kinds := [], alts := [], laidByText := true, laidKinds := [.data, .pinned], laidTests := true, laidLooks := .later }
def ExchangeExactCardSaid : Prop := Claim7.holds Tryz.pinned (.plain (OpenSpec.ofChange exchangeExactSpec)) exchangeExactCard

/-- THE TIED CARD OF 'fundadminlaw16.ExchangePlays'. -/
def exchangePlaysCard : Claim7 := { stood := { row := exchangePlaysRow, standIns := [], harness := (true, "2675bc8ad21f2b6f2dc0c66dd76b2ca995abe9c71cc3abc8eadb650e8a64967a"), looks := false }, kinds := [], alts := [], laidByText := true, laidKinds := [.data, .pinned], laidTests := true, laidLooks := .later }
def ExchangePlaysCardSaid : Prop := Claim7.holds Tryz.pinned (.plain (OpenSpec.ofChange exchangePlaysSpec)) exchangePlaysCard

/-- THE TIED CARD OF 'fundadminlaw16.ExchangeInverse'. -/
def exchangeInverseCard : Claim7 := { stood := { row := exchangeInverseRow, standIns := [], harness := (true, "2675bc8ad21f2b6f2dc0c66dd76b2ca995abe9c71cc3abc8eadb650e8a64967a"), looks := false }, kinds := [], alts := [], laidByText := true, laidKinds := [.data, .pinned], laidTests := true, laidLooks := .later }
def ExchangeInverseCardSaid : Prop := Claim7.holds Tryz.pinned (.plain (OpenSpec.ofChange exchangeInverseSpec)) exchangeInverseCard

/-- THE TIED CARD OF 'fundadminlaw16.ExchangeCross'. -/
def exchangeCrossCard : Claim7 := { stood := { row := exchangeCrossRow, standIns := [], harness := (true, "2675bc8ad21f2b6f2dc0c66dd76b2ca995abe9c71cc3abc8eadb650e8a64967a"), looks := false }, kinds := [], alts := [], laidByText := true, laidKinds := [.data, .pinned], laidTests := true, laidLooks := .later }
def ExchangeCrossCardSaid : Prop := Claim7.holds Tryz.pinned (.plain (OpenSpec.ofChange exchangeCrossSpec)) exchangeCrossCard

/-- THE TIED CARD OF 'fundadminlaw16.ExchangeLater'. -/
def exchangeLaterCard : Claim7 := { stood := { row := exchangeLaterRow, standIns := [], harness := (true, "2675bc8ad21f2b6f2dc0c66dd76b2ca995abe9c71cc3abc8eadb650e8a64967a"), looks := false }, kinds := [], alts := [], laidByText := true, laidKinds := [.data, .pinned], laidTests := true, laidLooks := .later }
def ExchangeLaterCardSaid : Prop := Claim7.holds Tryz.pinned (.plain (OpenSpec.ofChange exchangeLaterSpec)) exchangeLaterCard

/-- THE TIED CARD OF 'fundadminlaw16.ExchangeSelects'. -/
def exchangeSelectsCard : Claim7 := { stood := { row := exchangeSelectsRow, standIns := [], harness := (true, "2675bc8ad21f2b6f2dc0c66dd76b2ca995abe9c71cc3abc8eadb650e8a64967a"), looks := false }, kinds := [], alts := [], laidByText := true, laidKinds := [.data, .pinned], laidTests := true, laidLooks := .later }
def ExchangeSelectsCardSaid : Prop := Claim7.holds Tryz.pinned (.plain (OpenSpec.ofChange exchangeSelectsSpec)) exchangeSelectsCard

/-- THE TIED CARD OF 'fundadminlaw16.ExchangeConverts'. -/
def exchangeConvertsCard : Claim7 := { stood := { row := exchangeConvertsRow, standIns := [], harness := (true, "2675bc8ad21f2b6f2dc0c66dd76b2ca995abe9c71cc3abc8eadb650e8a64967a"), looks := false }, kinds := [], alts := [], laidByText := true, laidKinds := [.data, .pinned], laidTests := true, laidLooks := .later }
def ExchangeConvertsCardSaid : Prop := Claim7.holds Tryz.pinned (.plain (OpenSpec.ofChange exchangeConvertsSpec)) exchangeConvertsCard

/-- THE TIED CARD OF 'fundadminlaw16.ExchangeAmounts'. -/
def exchangeAmountsCard : Claim7 := { stood := { row := exchangeAmountsRow, standIns := [], harness := (true, "2675bc8ad21f2b6f2dc0c66dd76b2ca995abe9c71cc3abc8eadb650e8a64967a"), looks := false }, kinds := [], alts := [], laidByText := true, laidKinds := [.data, .pinned], laidTests := true, laidLooks := .later }
def ExchangeAmountsCardSaid : Prop := Claim7.holds Tryz.pinned (.plain (OpenSpec.ofChange exchangeAmountsSpec)) exchangeAmountsCard

/-- THE SECOND FORM's CARD OF 'fundadminlaw16.ExchangeExact'. -/
def exchangeExactUptoCard : Claim7 := { stood := { row := exchangeExactUptoRow, standIns := [], harness := (true, "2675bc8ad21f2b6f2dc0c66dd76b2ca995abe9c71cc3abc8eadb650e8a64967a"), looks := false }, kinds := [], alts := [], laidByText := true, laidKinds := [.data, .pinned], laidTests := true, laidLooks := .later }
def ExchangeExactUptoCardSaid : Prop := Claim7.holds Tryz.pinned (.plain (OpenSpec.upto exchangeExactSpec)) exchangeExactUptoCard

/-- THE SECOND FORM's CARD OF 'fundadminlaw16.ExchangePlays'. -/
def exchangePlaysUptoCard : Claim7 := { stood := { row := exchangePlaysUptoRow, standIns := [], harness := (true, "2675bc8ad21f2b6f2dc0c66dd76b2ca995abe9c71cc3abc8eadb650e8a64967a"), looks := false }, kinds := [], alts := [], laidByText := true, laidKinds := [.data, .pinned], laidTests := true, laidLooks := .later }
def ExchangePlaysUptoCardSaid : Prop := Claim7.holds Tryz.pinned (.plain (OpenSpec.upto exchangePlaysSpec)) exchangePlaysUptoCard

/-- THE SECOND FORM's CARD OF 'fundadminlaw16.ExchangeInverse'. -/
def exchangeInverseUptoCard : Claim7 := { stood := { row := exchangeInverseUptoRow, standIns := [], harness := (true, "2675bc8ad21f2b6f2dc0c66dd76b2ca995abe9c71cc3abc8eadb650e8a64967a"), looks := false }, kinds := [], alts := [], laidByText := true, laidKinds := [.data, .pinned], laidTests := true, laidLooks := .later }
def ExchangeInverseUptoCardSaid : Prop := Claim7.holds Tryz.pinned (.plain (OpenSpec.upto exchangeInverseSpec)) exchangeInverseUptoCard

/-- THE SECOND FORM's CARD OF 'fundadminlaw16.ExchangeCross'. -/
def exchangeCrossUptoCard : Claim7 := { stood := { row := exchangeCrossUptoRow, standIns := [], harness := (true, "2675bc8ad21f2b6f2dc0c66dd76b2ca995abe9c71cc3abc8eadb650e8a64967a"), looks := false }, kinds := [], alts := [], laidByText := true, laidKinds := [.data, .pinned], laidTests := true, laidLooks := .later }
def ExchangeCrossUptoCardSaid : Prop := Claim7.holds Tryz.pinned (.plain (OpenSpec.upto exchangeCrossSpec)) exchangeCrossUptoCard

/-- THE SECOND FORM's CARD OF 'fundadminlaw16.ExchangeLater'. -/
def exchangeLaterUptoCard : Claim7 := { stood := { row := exchangeLaterUptoRow, standIns := [], harness := (true, "2675bc8ad21f2b6f2dc0c66dd76b2ca995abe9c71cc3abc8eadb650e8a64967a"), looks := false }, kinds := [], alts := [], laidByText := true, laidKinds := [.data, .pinned], laidTests := true, laidLooks := .later }
def ExchangeLaterUptoCardSaid : Prop := Claim7.holds Tryz.pinned (.plain (OpenSpec.upto exchangeLaterSpec)) exchangeLaterUptoCard

/-- THE SECOND FORM's CARD OF 'fundadminlaw16.ExchangeSelects'. -/
def exchangeSelectsUptoCard : Claim7 := { stood := { row := exchangeSelectsUptoRow, standIns := [], harness := (true, "2675bc8ad21f2b6f2dc0c66dd76b2ca995abe9c71cc3abc8eadb650e8a64967a"), looks := false }, kinds := [], alts := [], laidByText := true, laidKinds := [.data, .pinned], laidTests := true, laidLooks := .later }
def ExchangeSelectsUptoCardSaid : Prop := Claim7.holds Tryz.pinned (.plain (OpenSpec.upto exchangeSelectsSpec)) exchangeSelectsUptoCard

/-- THE SECOND FORM's CARD OF 'fundadminlaw16.ExchangeConverts'. -/
def exchangeConvertsUptoCard : Claim7 := { stood := { row := exchangeConvertsUptoRow, standIns := [], harness := (true, "2675bc8ad21f2b6f2dc0c66dd76b2ca995abe9c71cc3abc8eadb650e8a64967a"), looks := false }, kinds := [], alts := [], laidByText := true, laidKinds := [.data, .pinned], laidTests := true, laidLooks := .later }
def ExchangeConvertsUptoCardSaid : Prop := Claim7.holds Tryz.pinned (.plain (OpenSpec.upto exchangeConvertsSpec)) exchangeConvertsUptoCard

/-- THE SECOND FORM's CARD OF 'fundadminlaw16.ExchangeAmounts'. -/
def exchangeAmountsUptoCard : Claim7 := { stood := { row := exchangeAmountsUptoRow, standIns := [], harness := (true, "2675bc8ad21f2b6f2dc0c66dd76b2ca995abe9c71cc3abc8eadb650e8a64967a"), looks := false }, kinds := [], alts := [], laidByText := true, laidKinds := [.data, .pinned], laidTests := true, laidLooks := .later }
def ExchangeAmountsUptoCardSaid : Prop := Claim7.holds Tryz.pinned (.plain (OpenSpec.upto exchangeAmountsSpec)) exchangeAmountsUptoCard
end Rows
end Go.Proofs.YtjkgmglmgndaoaaGreatDoor
