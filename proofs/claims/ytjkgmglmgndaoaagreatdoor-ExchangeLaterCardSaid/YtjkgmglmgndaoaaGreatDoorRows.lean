/-
  NARROWER THAN 'FOR EVERY INPUT', by the rows' own cells (each row's printed sentence says how): ExchangeExact: laid · ExchangePlays: laid · ExchangeInverse: laid · ExchangeCross: laid · ExchangeLater: laid · ExchangeSelects: laid · ExchangeConverts: laid · ExchangeAmounts: laid.
  DERIVED. THE GIVEN ROWS OF THIS SEAT. 8 by the template 'for every input the law returns true; each argument reads behind the call as it read before'; 0 by the template 'total and deterministic' (their statements: YtjkgmglmgndaoaaGreatDoorTotals.lean).
  GIVEN WITH THE SEED: the statements are not yours to turn. If you find one false, say at which input.
  Laid BY PROGRAM, IN A SANDBOX (cutbox-rows.mjs): the forced cells as the released guide's own fill.sh prints them over the translation d5887437c3522bc2… (all of the seat's roots in one cut). By AI agents, Wed Nov 11 2026. No macro, syntax, notation, axiom, sorry.
-/
import Derived.Test.YtjkgmglmgndaoaaGreatDoorChecked
import GoSem.PinnedTables
import GoSem.Claim
import GoSem.ClaimJoined
import GoSem.ClaimMapViews
import Derived.JoinedTies
import Derived.KernelRfl
namespace Go.Proofs.YtjkgmglmgndaoaaGreatDoor
/- THE CELL 'sum', in the pinned program and in every row, IS THE sha256 OF THE DUMP (.gsa) THAT YtjkgmglmgndaoaaGreatDoorProg.lean LOADS. Nothing in Lean hashes anything: it is a label: what it is worth is what the hold of that sum in a sandbox is worth. -/
noncomputable def Tryz.pinned : Pinned := { name := "ytjkgmglmgndaoaagreatdoor", sum := "d5887437c3522bc2ea5f2aab2726bda834497e5a4da93f327d58a55b215bb2dc", checked := Tryz.checked }
namespace Rows
def none {H : Type} : Left H := { results := [], args := [] }

/- WHAT THE LISTED PACKAGE-LEVEL VARIABLES READ AS WHEN THE CALL BEGINS. Each datum BY PROGRAM (the guide's laid-datum.mjs) off the statement by which the dump's own 'gosem.cut.vars' lays the variable. In a bare row this is a premise. The card (YtjkgmglmgndaoaaGreatDoorCards.lean) ties it to the program's text. -/
def laid_unicode_utf8_acceptRanges {H : Type} : DataW H := .agg [.agg [.lit (.int .u8 128), .lit (.int .u8 191)], .agg [.lit (.int .u8 160), .lit (.int .u8 191)], .agg [.lit (.int .u8 128), .lit (.int .u8 159)], .agg [.lit (.int .u8 144), .lit (.int .u8 191)], .agg [.lit (.int .u8 128), .lit (.int .u8 143)], .agg [.lit (.int .u8 0), .lit (.int .u8 0)], .agg [.lit (.int .u8 0), .lit (.int .u8 0)], .agg [.lit (.int .u8 0), .lit (.int .u8 0)], .agg [.lit (.int .u8 0), .lit (.int .u8 0)], .agg [.lit (.int .u8 0), .lit (.int .u8 0)], .agg [.lit (.int .u8 0), .lit (.int .u8 0)], .agg [.lit (.int .u8 0), .lit (.int .u8 0)], .agg [.lit (.int .u8 0), .lit (.int .u8 0)], .agg [.lit (.int .u8 0), .lit (.int .u8 0)], .agg [.lit (.int .u8 0), .lit (.int .u8 0)], .agg [.lit (.int .u8 0), .lit (.int .u8 0)]]
/-- One of Go's own tables, pinned by name: the form's constant. -/
def laid_unicode_utf8_first : DataW Unit := Go.Pinned.utf8First

/-- 'fundadminlaw16.ExchangeExact': WHATEVER THE INPUT: true; the input reads as it did. -/
def exchangeExactSpec : ChangeSpec := { name := "exchangeExact", fn := fun _ => fun
  | [d1, d2, d3, d4, d5, d6, d7] => { results := [.lit (.bool true)], args := [d1, d2, d3, d4, d5, d6, d7] }
  | _ => none }
def exchangeExactRow : OpenClaim := { program := "ytjkgmglmgndaoaagreatdoor", sum := "d5887437c3522bc2ea5f2aab2726bda834497e5a4da93f327d58a55b215bb2dc", func := "fundadmin/fundadminlaw16.ExchangeExact", spec := "exchangeExact", inPlace := ["internal/abi.NoEscape", "internal/bytealg.MakeNoZero", "internal/bytealg.IndexByteString", "internal/bytealg.IndexString"], unfollowed := true, recurses := true, named := ["math/bits.overflowError", "unicode/utf8.first", "unicode/utf8.acceptRanges", "internal/bytealg.MaxLen"], apart := false, laid := [("unicode/utf8.acceptRanges", laid_unicode_utf8_acceptRanges), ("unicode/utf8.first", laid_unicode_utf8_first)] }
def ExchangeExactSaid : Prop := exchangeExactRow.holds Tryz.pinned (OpenSpec.ofChange exchangeExactSpec)

/-- ITS FALSE NEIGHBOUR: 'it returns false'. Refute it at one input. -/
def exchangeExactWrong : ChangeSpec := { name := "exchangeExact", fn := fun _ => fun
  | [d1, d2, d3, d4, d5, d6, d7] => { results := [.lit (.bool false)], args := [d1, d2, d3, d4, d5, d6, d7] }
  | _ => none }
def ExchangeExactWrongFalsely : Prop := exchangeExactRow.holds Tryz.pinned (OpenSpec.ofChange exchangeExactWrong)

/-- 'fundadminlaw16.ExchangePlays': WHATEVER THE INPUT: true; the input reads as it did. -/
def exchangePlaysSpec : ChangeSpec := { name := "exchangePlays", fn := fun _ => fun
  | [d] => { results := [.lit (.bool true)], args := [d] }
  | _ => none }
def exchangePlaysRow : OpenClaim := { program := "ytjkgmglmgndaoaagreatdoor", sum := "d5887437c3522bc2ea5f2aab2726bda834497e5a4da93f327d58a55b215bb2dc", func := "fundadmin/fundadminlaw16.ExchangePlays", spec := "exchangePlays", inPlace := ["internal/abi.NoEscape", "internal/bytealg.MakeNoZero", "internal/bytealg.IndexByteString", "internal/bytealg.IndexString"], unfollowed := true, recurses := true, named := ["math/bits.overflowError", "unicode/utf8.first", "unicode/utf8.acceptRanges", "internal/bytealg.MaxLen"], apart := false, laid := [("unicode/utf8.acceptRanges", laid_unicode_utf8_acceptRanges), ("unicode/utf8.first", laid_unicode_utf8_first)] }
def ExchangePlaysSaid : Prop := exchangePlaysRow.holds Tryz.pinned (OpenSpec.ofChange exchangePlaysSpec)

/-- ITS FALSE NEIGHBOUR: 'it returns false'. Refute it at one input. -/
def exchangePlaysWrong : ChangeSpec := { name := "exchangePlays", fn := fun _ => fun
  | [d] => { results := [.lit (.bool false)], args := [d] }
  | _ => none }
def ExchangePlaysWrongFalsely : Prop := exchangePlaysRow.holds Tryz.pinned (OpenSpec.ofChange exchangePlaysWrong)

/-- 'fundadminlaw16.ExchangeInverse': WHATEVER THE INPUT: true; the input reads as it did. -/
def exchangeInverseSpec : ChangeSpec := { name := "exchangeInverse", fn := fun _ => fun
  | [d] => { results := [.lit (.bool true)], args := [d] }
  | _ => none }
def exchangeInverseRow : OpenClaim := { program := "ytjkgmglmgndaoaagreatdoor", sum := "d5887437c3522bc2ea5f2aab2726bda834497e5a4da93f327d58a55b215bb2dc", func := "fundadmin/fundadminlaw16.ExchangeInverse", spec := "exchangeInverse", inPlace := ["internal/abi.NoEscape", "internal/bytealg.MakeNoZero", "internal/bytealg.IndexByteString", "internal/bytealg.IndexString"], unfollowed := true, recurses := true, named := ["math/bits.overflowError", "unicode/utf8.first", "unicode/utf8.acceptRanges", "internal/bytealg.MaxLen"], apart := false, laid := [("unicode/utf8.acceptRanges", laid_unicode_utf8_acceptRanges), ("unicode/utf8.first", laid_unicode_utf8_first)] }
def ExchangeInverseSaid : Prop := exchangeInverseRow.holds Tryz.pinned (OpenSpec.ofChange exchangeInverseSpec)

/-- ITS FALSE NEIGHBOUR: 'it returns false'. Refute it at one input. -/
def exchangeInverseWrong : ChangeSpec := { name := "exchangeInverse", fn := fun _ => fun
  | [d] => { results := [.lit (.bool false)], args := [d] }
  | _ => none }
def ExchangeInverseWrongFalsely : Prop := exchangeInverseRow.holds Tryz.pinned (OpenSpec.ofChange exchangeInverseWrong)

/-- 'fundadminlaw16.ExchangeCross': WHATEVER THE INPUT: true; the input reads as it did. -/
def exchangeCrossSpec : ChangeSpec := { name := "exchangeCross", fn := fun _ => fun
  | [d] => { results := [.lit (.bool true)], args := [d] }
  | _ => none }
def exchangeCrossRow : OpenClaim := { program := "ytjkgmglmgndaoaagreatdoor", sum := "d5887437c3522bc2ea5f2aab2726bda834497e5a4da93f327d58a55b215bb2dc", func := "fundadmin/fundadminlaw16.ExchangeCross", spec := "exchangeCross", inPlace := ["internal/abi.NoEscape", "internal/bytealg.MakeNoZero", "internal/bytealg.IndexByteString", "internal/bytealg.IndexString"], unfollowed := true, recurses := true, named := ["math/bits.overflowError", "unicode/utf8.first", "unicode/utf8.acceptRanges", "internal/bytealg.MaxLen"], apart := false, laid := [("unicode/utf8.acceptRanges", laid_unicode_utf8_acceptRanges), ("unicode/utf8.first", laid_unicode_utf8_first)] }
def ExchangeCrossSaid : Prop := exchangeCrossRow.holds Tryz.pinned (OpenSpec.ofChange exchangeCrossSpec)

/-- ITS FALSE NEIGHBOUR: 'it returns false'. Refute it at one input. -/
def exchangeCrossWrong : ChangeSpec := { name := "exchangeCross", fn := fun _ => fun
  | [d] => { results := [.lit (.bool false)], args := [d] }
  | _ => none }
def ExchangeCrossWrongFalsely : Prop := exchangeCrossRow.holds Tryz.pinned (OpenSpec.ofChange exchangeCrossWrong)

/-- 'fundadminlaw16.ExchangeLater': WHATEVER THE INPUT: true; the input reads as it did. -/
def exchangeLaterSpec : ChangeSpec := { name := "exchangeLater", fn := fun _ => fun
  | [d] => { results := [.lit (.bool true)], args := [d] }
  | _ => none }
def exchangeLaterRow : OpenClaim := { program := "ytjkgmglmgndaoaagreatdoor", sum := "d5887437c3522bc2ea5f2aab2726bda834497e5a4da93f327d58a55b215bb2dc", func := "fundadmin/fundadminlaw16.ExchangeLater", spec := "exchangeLater", inPlace := ["internal/abi.NoEscape", "internal/bytealg.MakeNoZero", "internal/bytealg.IndexByteString", "internal/bytealg.IndexString"], unfollowed := true, recurses := true, named := ["math/bits.overflowError", "unicode/utf8.first", "unicode/utf8.acceptRanges", "internal/bytealg.MaxLen"], apart := false, laid := [("unicode/utf8.acceptRanges", laid_unicode_utf8_acceptRanges), ("unicode/utf8.first", laid_unicode_utf8_first)] }
def ExchangeLaterSaid : Prop := exchangeLaterRow.holds Tryz.pinned (OpenSpec.ofChange exchangeLaterSpec)

/-- ITS FALSE NEIGHBOUR: 'it returns false'. Refute it at one input. -/
def exchangeLaterWrong : ChangeSpec := { name := "exchangeLater", fn := fun _ => fun
  | [d] => { results := [.lit (.bool false)], args := [d] }
  | _ => none }
def ExchangeLaterWrongFalsely : Prop := exchangeLaterRow.holds Tryz.pinned (OpenSpec.ofChange exchangeLaterWrong)

/-- 'fundadminlaw16.ExchangeSelects': WHATEVER THE INPUT: true; the input reads as it did. -/
def exchangeSelectsSpec : ChangeSpec := { name := "exchangeSelects", fn := fun _ => fun
  | [d] => { results := [.lit (.bool true)], args := [d] }
  | _ => none }
def exchangeSelectsRow : OpenClaim := { program := "ytjkgmglmgndaoaagreatdoor", sum := "d5887437c3522bc2ea5f2aab2726bda834497e5a4da93f327d58a55b215bb2dc", func := "fundadmin/fundadminlaw16.ExchangeSelects", spec := "exchangeSelects", inPlace := ["internal/abi.NoEscape", "internal/bytealg.MakeNoZero", "internal/bytealg.IndexByteString", "internal/bytealg.IndexString"], unfollowed := true, recurses := true, named := ["math/bits.overflowError", "unicode/utf8.first", "unicode/utf8.acceptRanges", "internal/bytealg.MaxLen"], apart := false, laid := [("unicode/utf8.acceptRanges", laid_unicode_utf8_acceptRanges), ("unicode/utf8.first", laid_unicode_utf8_first)] }
def ExchangeSelectsSaid : Prop := exchangeSelectsRow.holds Tryz.pinned (OpenSpec.ofChange exchangeSelectsSpec)

/-- ITS FALSE NEIGHBOUR: 'it returns false'. Refute it at one input. -/
def exchangeSelectsWrong : ChangeSpec := { name := "exchangeSelects", fn := fun _ => fun
  | [d] => { results := [.lit (.bool false)], args := [d] }
  | _ => none }
def ExchangeSelectsWrongFalsely : Prop := exchangeSelectsRow.holds Tryz.pinned (OpenSpec.ofChange exchangeSelectsWrong)

/-- 'fundadminlaw16.ExchangeConverts': WHATEVER THE INPUT: true; the input reads as it did. -/
def exchangeConvertsSpec : ChangeSpec := { name := "exchangeConverts", fn := fun _ => fun
  | [d1, d2, d3] => { results := [.lit (.bool true)], args := [d1, d2, d3] }
  | _ => none }
def exchangeConvertsRow : OpenClaim := { program := "ytjkgmglmgndaoaagreatdoor", sum := "d5887437c3522bc2ea5f2aab2726bda834497e5a4da93f327d58a55b215bb2dc", func := "fundadmin/fundadminlaw16.ExchangeConverts", spec := "exchangeConverts", inPlace := ["internal/abi.NoEscape", "internal/bytealg.MakeNoZero", "internal/bytealg.IndexByteString", "internal/bytealg.IndexString"], unfollowed := true, recurses := true, named := ["math/bits.overflowError", "unicode/utf8.first", "unicode/utf8.acceptRanges", "internal/bytealg.MaxLen"], apart := false, laid := [("unicode/utf8.acceptRanges", laid_unicode_utf8_acceptRanges), ("unicode/utf8.first", laid_unicode_utf8_first)] }
def ExchangeConvertsSaid : Prop := exchangeConvertsRow.holds Tryz.pinned (OpenSpec.ofChange exchangeConvertsSpec)

/-- ITS FALSE NEIGHBOUR: 'it returns false'. Refute it at one input. -/
def exchangeConvertsWrong : ChangeSpec := { name := "exchangeConverts", fn := fun _ => fun
  | [d1, d2, d3] => { results := [.lit (.bool false)], args := [d1, d2, d3] }
  | _ => none }
def ExchangeConvertsWrongFalsely : Prop := exchangeConvertsRow.holds Tryz.pinned (OpenSpec.ofChange exchangeConvertsWrong)

/-- 'fundadminlaw16.ExchangeAmounts': WHATEVER THE INPUT: true; the input reads as it did. -/
def exchangeAmountsSpec : ChangeSpec := { name := "exchangeAmounts", fn := fun _ => fun
  | [d] => { results := [.lit (.bool true)], args := [d] }
  | _ => none }
def exchangeAmountsRow : OpenClaim := { program := "ytjkgmglmgndaoaagreatdoor", sum := "d5887437c3522bc2ea5f2aab2726bda834497e5a4da93f327d58a55b215bb2dc", func := "fundadmin/fundadminlaw16.ExchangeAmounts", spec := "exchangeAmounts", inPlace := ["internal/abi.NoEscape", "internal/bytealg.MakeNoZero", "internal/bytealg.IndexByteString", "internal/bytealg.IndexString"], unfollowed := true, recurses := true, named := ["math/bits.overflowError", "unicode/utf8.first", "unicode/utf8.acceptRanges", "internal/bytealg.MaxLen"], apart := false, laid := [("unicode/utf8.acceptRanges", laid_unicode_utf8_acceptRanges), ("unicode/utf8.first", laid_unicode_utf8_first)] }
def ExchangeAmountsSaid : Prop := exchangeAmountsRow.holds Tryz.pinned (OpenSpec.ofChange exchangeAmountsSpec)

/-- ITS FALSE NEIGHBOUR: 'it returns false'. Refute it at one input. -/
def exchangeAmountsWrong : ChangeSpec := { name := "exchangeAmounts", fn := fun _ => fun
  | [d] => { results := [.lit (.bool false)], args := [d] }
  | _ => none }
def ExchangeAmountsWrongFalsely : Prop := exchangeAmountsRow.holds Tryz.pinned (OpenSpec.ofChange exchangeAmountsWrong)

/- THE SECOND FORM. 'bulk': how many values and letters a reading holds, each counted each time it is reached (what is shared counts as often as it is met; a slice's spare places count too). A statement '..UptoSaid' is the law's where the arguments, and the package variables that the reading takes, are together of bulk at most 1048576: NARROWER than '..Said'. Prove '..Said' where nothing that the law and all that it calls make is longer than what came in: it says more and counts as full. Else prove '..UptoSaid'. A law counts once. -/
mutual
def uptoBulk {H : Type} : DataW H → Nat
  | .lit (.string bytes) => bytes.length + 1
  | .lit _ => 1
  | .nil => 1
  | .ptr d => uptoBulk d + 1
  | .slice elems spare => uptoBulkAll elems + uptoBulkAll spare + 1
  | .agg parts => uptoBulkAll parts + 1
  | .iface _ d => uptoBulk d + 1
  | .map entries => uptoBulkEntries entries + 1
  | .held _ => 1
def uptoBulkAll {H : Type} : List (DataW H) → Nat
  | [] => 0
  | d :: r => uptoBulk d + uptoBulkAll r
def uptoBulkEntries {H : Type} : List (Lit × DataW H) → Nat
  | [] => 0
  | x :: r => uptoBulkEntry x + uptoBulkEntries r
def uptoBulkEntry {H : Type} : Lit × DataW H → Nat
  | (.string bytes, d) => bytes.length + uptoBulk d + 1
  | (_, d) => uptoBulk d + 1
 end
def uptoSmall : (H : Type) → List (DataW H) → Bool := fun _ ds => decide (uptoBulkAll ds ≤ 1048576)
def OpenSpec.upto (s : _root_.Go.ChangeSpec) : _root_.Go.OpenSpec := { _root_.Go.OpenSpec.ofChange s with cond := some uptoSmall }

/-- 'fundadminlaw16.ExchangeExact', WHERE WHAT IT READS IS OF BULK AT MOST 1048576: true; the input reads as it did. -/
def exchangeExactUptoRow : OpenClaim := { program := "ytjkgmglmgndaoaagreatdoor", sum := "d5887437c3522bc2ea5f2aab2726bda834497e5a4da93f327d58a55b215bb2dc", func := "fundadmin/fundadminlaw16.ExchangeExact", spec := "exchangeExact", inPlace := ["internal/abi.NoEscape", "internal/bytealg.MakeNoZero", "internal/bytealg.IndexByteString", "internal/bytealg.IndexString"], unfollowed := true, recurses := true, named := ["math/bits.overflowError", "unicode/utf8.first", "unicode/utf8.acceptRanges", "internal/bytealg.MaxLen"], apart := false, laid := [("unicode/utf8.acceptRanges", laid_unicode_utf8_acceptRanges), ("unicode/utf8.first", laid_unicode_utf8_first)], narrowed := true }
def ExchangeExactUptoSaid : Prop := exchangeExactUptoRow.holds Tryz.pinned (OpenSpec.upto exchangeExactSpec)

/-- 'fundadminlaw16.ExchangePlays', WHERE WHAT IT READS IS OF BULK AT MOST 1048576: true; the input reads as it did. -/
def exchangePlaysUptoRow : OpenClaim := { program := "ytjkgmglmgndaoaagreatdoor", sum := "d5887437c3522bc2ea5f2aab2726bda834497e5a4da93f327d58a55b215bb2dc", func := "fundadmin/fundadminlaw16.ExchangePlays", spec := "exchangePlays", inPlace := ["internal/abi.NoEscape", "internal/bytealg.MakeNoZero", "internal/bytealg.IndexByteString", "internal/bytealg.IndexString"], unfollowed := true, recurses := true, named := ["math/bits.overflowError", "unicode/utf8.first", "unicode/utf8.acceptRanges", "internal/bytealg.MaxLen"], apart := false, laid := [("unicode/utf8.acceptRanges", laid_unicode_utf8_acceptRanges), ("unicode/utf8.first", laid_unicode_utf8_first)], narrowed := true }
def ExchangePlaysUptoSaid : Prop := exchangePlaysUptoRow.holds Tryz.pinned (OpenSpec.upto exchangePlaysSpec)

/-- 'fundadminlaw16.ExchangeInverse', WHERE WHAT IT READS IS OF BULK AT MOST 1048576: true; the input reads as it did. -/
def exchangeInverseUptoRow : OpenClaim := { program := "ytjkgmglmgndaoaagreatdoor", sum := "d5887437c3522bc2ea5f2aab2726bda834497e5a4da93f327d58a55b215bb2dc", func := "fundadmin/fundadminlaw16.ExchangeInverse", spec := "exchangeInverse", inPlace := ["internal/abi.NoEscape", "internal/bytealg.MakeNoZero", "internal/bytealg.IndexByteString", "internal/bytealg.IndexString"], unfollowed := true, recurses := true, named := ["math/bits.overflowError", "unicode/utf8.first", "unicode/utf8.acceptRanges", "internal/bytealg.MaxLen"], apart := false, laid := [("unicode/utf8.acceptRanges", laid_unicode_utf8_acceptRanges), ("unicode/utf8.first", laid_unicode_utf8_first)], narrowed := true }
def ExchangeInverseUptoSaid : Prop := exchangeInverseUptoRow.holds Tryz.pinned (OpenSpec.upto exchangeInverseSpec)

/-- 'fundadminlaw16.ExchangeCross', WHERE WHAT IT READS IS OF BULK AT MOST 1048576: true; the input reads as it did. -/
def exchangeCrossUptoRow : OpenClaim := { program := "ytjkgmglmgndaoaagreatdoor", sum := "d5887437c3522bc2ea5f2aab2726bda834497e5a4da93f327d58a55b215bb2dc", func := "fundadmin/fundadminlaw16.ExchangeCross", spec := "exchangeCross", inPlace := ["internal/abi.NoEscape", "internal/bytealg.MakeNoZero", "internal/bytealg.IndexByteString", "internal/bytealg.IndexString"], unfollowed := true, recurses := true, named := ["math/bits.overflowError", "unicode/utf8.first", "unicode/utf8.acceptRanges", "internal/bytealg.MaxLen"], apart := false, laid := [("unicode/utf8.acceptRanges", laid_unicode_utf8_acceptRanges), ("unicode/utf8.first", laid_unicode_utf8_first)], narrowed := true }
def ExchangeCrossUptoSaid : Prop := exchangeCrossUptoRow.holds Tryz.pinned (OpenSpec.upto exchangeCrossSpec)

/-- 'fundadminlaw16.ExchangeLater', WHERE WHAT IT READS IS OF BULK AT MOST 1048576: true; the input reads as it did. -/
def exchangeLaterUptoRow : OpenClaim := { program := "ytjkgmglmgndaoaagreatdoor", sum := "d5887437c3522bc2ea5f2aab2726bda834497e5a4da93f327d58a55b215bb2dc", func := "fundadmin/fundadminlaw16.ExchangeLater", spec := "exchangeLater", inPlace := ["internal/abi.NoEscape", "internal/bytealg.MakeNoZero", "internal/bytealg.IndexByteString", "internal/bytealg.IndexString"], unfollowed := true, recurses := true, named := ["math/bits.overflowError", "unicode/utf8.first", "unicode/utf8.acceptRanges", "internal/bytealg.MaxLen"], apart := false, laid := [("unicode/utf8.acceptRanges", laid_unicode_utf8_acceptRanges), ("unicode/utf8.first", laid_unicode_utf8_first)], narrowed := true }
def ExchangeLaterUptoSaid : Prop := exchangeLaterUptoRow.holds Tryz.pinned (OpenSpec.upto exchangeLaterSpec)

/-- 'fundadminlaw16.ExchangeSelects', WHERE WHAT IT READS IS OF BULK AT MOST 1048576: true; the input reads as it did. -/
def exchangeSelectsUptoRow : OpenClaim := { program := "ytjkgmglmgndaoaagreatdoor", sum := "d5887437c3522bc2ea5f2aab2726bda834497e5a4da93f327d58a55b215bb2dc", func := "fundadmin/fundadminlaw16.ExchangeSelects", spec := "exchangeSelects", inPlace := ["internal/abi.NoEscape", "internal/bytealg.MakeNoZero", "internal/bytealg.IndexByteString", "internal/bytealg.IndexString"], unfollowed := true, recurses := true, named := ["math/bits.overflowError", "unicode/utf8.first", "unicode/utf8.acceptRanges", "internal/bytealg.MaxLen"], apart := false, laid := [("unicode/utf8.acceptRanges", laid_unicode_utf8_acceptRanges), ("unicode/utf8.first", laid_unicode_utf8_first)], narrowed := true }
def ExchangeSelectsUptoSaid : Prop := exchangeSelectsUptoRow.holds Tryz.pinned (OpenSpec.upto exchangeSelectsSpec)

/-- 'fundadminlaw16.ExchangeConverts', WHERE WHAT IT READS IS OF BULK AT MOST 1048576: true; the input reads as it did. -/
def exchangeConvertsUptoRow : OpenClaim := { program := "ytjkgmglmgndaoaagreatdoor", sum := "d5887437c3522bc2ea5f2aab2726bda834497e5a4da93f327d58a55b215bb2dc", func := "fundadmin/fundadminlaw16.ExchangeConverts", spec := "exchangeConverts", inPlace := ["internal/abi.NoEscape", "internal/bytealg.MakeNoZero", "internal/bytealg.IndexByteString", "internal/bytealg.IndexString"], unfollowed := true, recurses := true, named := ["math/bits.overflowError", "unicode/utf8.first", "unicode/utf8.acceptRanges", "internal/bytealg.MaxLen"], apart := false, laid := [("unicode/utf8.acceptRanges", laid_unicode_utf8_acceptRanges), ("unicode/utf8.first", laid_unicode_utf8_first)], narrowed := true }
def ExchangeConvertsUptoSaid : Prop := exchangeConvertsUptoRow.holds Tryz.pinned (OpenSpec.upto exchangeConvertsSpec)

/-- 'fundadminlaw16.ExchangeAmounts', WHERE WHAT IT READS IS OF BULK AT MOST 1048576: true; the input reads as it did. -/
def exchangeAmountsUptoRow : OpenClaim := { program := "ytjkgmglmgndaoaagreatdoor", sum := "d5887437c3522bc2ea5f2aab2726bda834497e5a4da93f327d58a55b215bb2dc", func := "fundadmin/fundadminlaw16.ExchangeAmounts", spec := "exchangeAmounts", inPlace := ["internal/abi.NoEscape", "internal/bytealg.MakeNoZero", "internal/bytealg.IndexByteString", "internal/bytealg.IndexString"], unfollowed := true, recurses := true, named := ["math/bits.overflowError", "unicode/utf8.first", "unicode/utf8.acceptRanges", "internal/bytealg.MaxLen"], apart := false, laid := [("unicode/utf8.acceptRanges", laid_unicode_utf8_acceptRanges), ("unicode/utf8.first", laid_unicode_utf8_first)], narrowed := true }
def ExchangeAmountsUptoSaid : Prop := exchangeAmountsUptoRow.holds Tryz.pinned (OpenSpec.upto exchangeAmountsSpec)

end Rows
end Go.Proofs.YtjkgmglmgndaoaaGreatDoor
