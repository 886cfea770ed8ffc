/-
  NARROWER THAN 'FOR EVERY INPUT', by the rows' own cells (each row's printed sentence says how): ValuationExact: laid · ValuationPlays: laid · ValuationSpoilt: laid · ValuationLines: laid · ValuationTampers: laid · ValuationBound: laid · ValuationLater: laid · ValuationParts: laid.
  DERIVED. THE GIVEN ROWS OF THIS SEAT. 8 by the template 'for every input the law returns true; each argument reads behind the call as it read before'; 0 by the template 'total and deterministic' (their statements: YtklehfchdoikeaaGreatDoorTotals.lean).
  GIVEN WITH THE SEED: the statements are not yours to turn. If you find one false, say at which input.
  Laid BY PROGRAM, IN A SANDBOX (cutbox-rows.mjs): the forced cells as the released guide's own fill.sh prints them over the translation 506c85fca93eae91… (all of the seat's roots in one cut). By AI agents, Wed Nov 11 2026. No macro, syntax, notation, axiom, sorry.
-/
import Derived.Test.YtklehfchdoikeaaGreatDoorChecked
import GoSem.PinnedTables
import GoSem.Claim
import GoSem.ClaimJoined
import GoSem.ClaimMapViews
import Derived.JoinedTies
import Derived.KernelRfl
namespace Go.Proofs.YtklehfchdoikeaaGreatDoor
/- THE CELL 'sum', in the pinned program and in every row, IS THE sha256 OF THE DUMP (.gsa) THAT YtklehfchdoikeaaGreatDoorProg.lean LOADS. Nothing in Lean hashes anything: it is a label: what it is worth is what the hold of that sum in a sandbox is worth. -/
noncomputable def Tryz.pinned : Pinned := { name := "ytklehfchdoikeaagreatdoor", sum := "506c85fca93eae91cb1601280c1e022fbce8a8b54eecd98a0ff0c583a40ec63a", checked := Tryz.checked }
namespace Rows
def none {H : Type} : Left H := { results := [], args := [] }

/- WHAT THE LISTED PACKAGE-LEVEL VARIABLES READ AS WHEN THE CALL BEGINS. Each datum BY PROGRAM (the guide's laid-datum.mjs) off the statement by which the dump's own 'gosem.cut.vars' lays the variable. In a bare row this is a premise. The card (YtklehfchdoikeaaGreatDoorCards.lean) ties it to the program's text. -/
def laid_unicode_utf8_acceptRanges {H : Type} : DataW H := .agg [.agg [.lit (.int .u8 128), .lit (.int .u8 191)], .agg [.lit (.int .u8 160), .lit (.int .u8 191)], .agg [.lit (.int .u8 128), .lit (.int .u8 159)], .agg [.lit (.int .u8 144), .lit (.int .u8 191)], .agg [.lit (.int .u8 128), .lit (.int .u8 143)], .agg [.lit (.int .u8 0), .lit (.int .u8 0)], .agg [.lit (.int .u8 0), .lit (.int .u8 0)], .agg [.lit (.int .u8 0), .lit (.int .u8 0)], .agg [.lit (.int .u8 0), .lit (.int .u8 0)], .agg [.lit (.int .u8 0), .lit (.int .u8 0)], .agg [.lit (.int .u8 0), .lit (.int .u8 0)], .agg [.lit (.int .u8 0), .lit (.int .u8 0)], .agg [.lit (.int .u8 0), .lit (.int .u8 0)], .agg [.lit (.int .u8 0), .lit (.int .u8 0)], .agg [.lit (.int .u8 0), .lit (.int .u8 0)], .agg [.lit (.int .u8 0), .lit (.int .u8 0)]]
/-- One of Go's own tables, pinned by name: the form's constant. -/
def laid_unicode_utf8_first : DataW Unit := Go.Pinned.utf8First

/-- 'fundadminlaw20.ValuationExact': WHATEVER THE INPUT: true; the input reads as it did. -/
def valuationExactSpec : ChangeSpec := { name := "valuationExact", fn := fun _ => fun
  | [d] => { results := [.lit (.bool true)], args := [d] }
  | _ => none }
def valuationExactRow : OpenClaim := { program := "ytklehfchdoikeaagreatdoor", sum := "506c85fca93eae91cb1601280c1e022fbce8a8b54eecd98a0ff0c583a40ec63a", func := "fundadmin/fundadminlaw20.ValuationExact", spec := "valuationExact", inPlace := ["internal/bytealg.abigen_runtime_cmpstring", "internal/abi.NoEscape", "internal/bytealg.MakeNoZero", "internal/bytealg.IndexByteString", "internal/bytealg.IndexString"], unfollowed := true, recurses := true, named := ["math/bits.overflowError", "unicode/utf8.first", "unicode/utf8.acceptRanges", "internal/bytealg.MaxLen"], apart := false, laid := [("unicode/utf8.acceptRanges", laid_unicode_utf8_acceptRanges), ("unicode/utf8.first", laid_unicode_utf8_first)] }
def ValuationExactSaid : Prop := valuationExactRow.holds Tryz.pinned (OpenSpec.ofChange valuationExactSpec)

/-- ITS FALSE NEIGHBOUR: 'it returns false'. Refute it at one input. -/
def valuationExactWrong : ChangeSpec := { name := "valuationExact", fn := fun _ => fun
  | [d] => { results := [.lit (.bool false)], args := [d] }
  | _ => none }
def ValuationExactWrongFalsely : Prop := valuationExactRow.holds Tryz.pinned (OpenSpec.ofChange valuationExactWrong)

/-- 'fundadminlaw20.ValuationPlays': WHATEVER THE INPUT: true; the input reads as it did. -/
def valuationPlaysSpec : ChangeSpec := { name := "valuationPlays", fn := fun _ => fun
  | [d] => { results := [.lit (.bool true)], args := [d] }
  | _ => none }
def valuationPlaysRow : OpenClaim := { program := "ytklehfchdoikeaagreatdoor", sum := "506c85fca93eae91cb1601280c1e022fbce8a8b54eecd98a0ff0c583a40ec63a", func := "fundadmin/fundadminlaw20.ValuationPlays", spec := "valuationPlays", inPlace := ["internal/bytealg.abigen_runtime_cmpstring", "internal/abi.NoEscape", "internal/bytealg.MakeNoZero", "internal/bytealg.IndexByteString", "internal/bytealg.IndexString"], unfollowed := true, recurses := true, named := ["math/bits.overflowError", "unicode/utf8.first", "unicode/utf8.acceptRanges", "internal/bytealg.MaxLen"], apart := false, laid := [("unicode/utf8.acceptRanges", laid_unicode_utf8_acceptRanges), ("unicode/utf8.first", laid_unicode_utf8_first)] }
def ValuationPlaysSaid : Prop := valuationPlaysRow.holds Tryz.pinned (OpenSpec.ofChange valuationPlaysSpec)

/-- ITS FALSE NEIGHBOUR: 'it returns false'. Refute it at one input. -/
def valuationPlaysWrong : ChangeSpec := { name := "valuationPlays", fn := fun _ => fun
  | [d] => { results := [.lit (.bool false)], args := [d] }
  | _ => none }
def ValuationPlaysWrongFalsely : Prop := valuationPlaysRow.holds Tryz.pinned (OpenSpec.ofChange valuationPlaysWrong)

/-- 'fundadminlaw20.ValuationSpoilt': WHATEVER THE INPUT: true; the input reads as it did. -/
def valuationSpoiltSpec : ChangeSpec := { name := "valuationSpoilt", fn := fun _ => fun
  | [d1, d2] => { results := [.lit (.bool true)], args := [d1, d2] }
  | _ => none }
def valuationSpoiltRow : OpenClaim := { program := "ytklehfchdoikeaagreatdoor", sum := "506c85fca93eae91cb1601280c1e022fbce8a8b54eecd98a0ff0c583a40ec63a", func := "fundadmin/fundadminlaw20.ValuationSpoilt", spec := "valuationSpoilt", inPlace := ["internal/bytealg.abigen_runtime_cmpstring", "internal/abi.NoEscape", "internal/bytealg.MakeNoZero", "internal/bytealg.IndexByteString", "internal/bytealg.IndexString"], unfollowed := true, recurses := true, named := ["math/bits.overflowError", "unicode/utf8.first", "unicode/utf8.acceptRanges", "internal/bytealg.MaxLen"], apart := false, laid := [("unicode/utf8.acceptRanges", laid_unicode_utf8_acceptRanges), ("unicode/utf8.first", laid_unicode_utf8_first)] }
def ValuationSpoiltSaid : Prop := valuationSpoiltRow.holds Tryz.pinned (OpenSpec.ofChange valuationSpoiltSpec)

/-- ITS FALSE NEIGHBOUR: 'it returns false'. Refute it at one input. -/
def valuationSpoiltWrong : ChangeSpec := { name := "valuationSpoilt", fn := fun _ => fun
  | [d1, d2] => { results := [.lit (.bool false)], args := [d1, d2] }
  | _ => none }
def ValuationSpoiltWrongFalsely : Prop := valuationSpoiltRow.holds Tryz.pinned (OpenSpec.ofChange valuationSpoiltWrong)

/-- 'fundadminlaw20.ValuationLines': WHATEVER THE INPUT: true; the input reads as it did. -/
def valuationLinesSpec : ChangeSpec := { name := "valuationLines", fn := fun _ => fun
  | [d] => { results := [.lit (.bool true)], args := [d] }
  | _ => none }
def valuationLinesRow : OpenClaim := { program := "ytklehfchdoikeaagreatdoor", sum := "506c85fca93eae91cb1601280c1e022fbce8a8b54eecd98a0ff0c583a40ec63a", func := "fundadmin/fundadminlaw20.ValuationLines", spec := "valuationLines", inPlace := ["internal/bytealg.abigen_runtime_cmpstring", "internal/abi.NoEscape", "internal/bytealg.MakeNoZero", "internal/bytealg.IndexByteString", "internal/bytealg.IndexString"], unfollowed := true, recurses := true, named := ["math/bits.overflowError", "unicode/utf8.first", "unicode/utf8.acceptRanges", "internal/bytealg.MaxLen"], apart := false, laid := [("unicode/utf8.acceptRanges", laid_unicode_utf8_acceptRanges), ("unicode/utf8.first", laid_unicode_utf8_first)] }
def ValuationLinesSaid : Prop := valuationLinesRow.holds Tryz.pinned (OpenSpec.ofChange valuationLinesSpec)

/-- ITS FALSE NEIGHBOUR: 'it returns false'. Refute it at one input. -/
def valuationLinesWrong : ChangeSpec := { name := "valuationLines", fn := fun _ => fun
  | [d] => { results := [.lit (.bool false)], args := [d] }
  | _ => none }
def ValuationLinesWrongFalsely : Prop := valuationLinesRow.holds Tryz.pinned (OpenSpec.ofChange valuationLinesWrong)

/-- 'fundadminlaw20.ValuationTampers': WHATEVER THE INPUT: true; the input reads as it did. -/
def valuationTampersSpec : ChangeSpec := { name := "valuationTampers", fn := fun _ => fun
  | [d1, d2] => { results := [.lit (.bool true)], args := [d1, d2] }
  | _ => none }
def valuationTampersRow : OpenClaim := { program := "ytklehfchdoikeaagreatdoor", sum := "506c85fca93eae91cb1601280c1e022fbce8a8b54eecd98a0ff0c583a40ec63a", func := "fundadmin/fundadminlaw20.ValuationTampers", spec := "valuationTampers", inPlace := ["internal/bytealg.abigen_runtime_cmpstring", "internal/abi.NoEscape", "internal/bytealg.MakeNoZero", "internal/bytealg.IndexByteString", "internal/bytealg.IndexString"], unfollowed := true, recurses := true, named := ["math/bits.overflowError", "unicode/utf8.first", "unicode/utf8.acceptRanges", "internal/bytealg.MaxLen"], apart := false, laid := [("unicode/utf8.acceptRanges", laid_unicode_utf8_acceptRanges), ("unicode/utf8.first", laid_unicode_utf8_first)] }
def ValuationTampersSaid : Prop := valuationTampersRow.holds Tryz.pinned (OpenSpec.ofChange valuationTampersSpec)

/-- ITS FALSE NEIGHBOUR: 'it returns false'. Refute it at one input. -/
def valuationTampersWrong : ChangeSpec := { name := "valuationTampers", fn := fun _ => fun
  | [d1, d2] => { results := [.lit (.bool false)], args := [d1, d2] }
  | _ => none }
def ValuationTampersWrongFalsely : Prop := valuationTampersRow.holds Tryz.pinned (OpenSpec.ofChange valuationTampersWrong)

/-- 'fundadminlaw20.ValuationBound': WHATEVER THE INPUT: true; the input reads as it did. -/
def valuationBoundSpec : ChangeSpec := { name := "valuationBound", fn := fun _ => fun
  | [d] => { results := [.lit (.bool true)], args := [d] }
  | _ => none }
def valuationBoundRow : OpenClaim := { program := "ytklehfchdoikeaagreatdoor", sum := "506c85fca93eae91cb1601280c1e022fbce8a8b54eecd98a0ff0c583a40ec63a", func := "fundadmin/fundadminlaw20.ValuationBound", spec := "valuationBound", inPlace := ["internal/bytealg.abigen_runtime_cmpstring", "internal/abi.NoEscape", "internal/bytealg.MakeNoZero", "internal/bytealg.IndexByteString", "internal/bytealg.IndexString"], unfollowed := true, recurses := true, named := ["math/bits.overflowError", "unicode/utf8.first", "unicode/utf8.acceptRanges", "internal/bytealg.MaxLen"], apart := false, laid := [("unicode/utf8.acceptRanges", laid_unicode_utf8_acceptRanges), ("unicode/utf8.first", laid_unicode_utf8_first)] }
def ValuationBoundSaid : Prop := valuationBoundRow.holds Tryz.pinned (OpenSpec.ofChange valuationBoundSpec)

/-- ITS FALSE NEIGHBOUR: 'it returns false'. Refute it at one input. -/
def valuationBoundWrong : ChangeSpec := { name := "valuationBound", fn := fun _ => fun
  | [d] => { results := [.lit (.bool false)], args := [d] }
  | _ => none }
def ValuationBoundWrongFalsely : Prop := valuationBoundRow.holds Tryz.pinned (OpenSpec.ofChange valuationBoundWrong)

/-- 'fundadminlaw20.ValuationLater': WHATEVER THE INPUT: true; the input reads as it did. -/
def valuationLaterSpec : ChangeSpec := { name := "valuationLater", fn := fun _ => fun
  | [d] => { results := [.lit (.bool true)], args := [d] }
  | _ => none }
def valuationLaterRow : OpenClaim := { program := "ytklehfchdoikeaagreatdoor", sum := "506c85fca93eae91cb1601280c1e022fbce8a8b54eecd98a0ff0c583a40ec63a", func := "fundadmin/fundadminlaw20.ValuationLater", spec := "valuationLater", inPlace := ["internal/bytealg.abigen_runtime_cmpstring", "internal/abi.NoEscape", "internal/bytealg.MakeNoZero", "internal/bytealg.IndexByteString", "internal/bytealg.IndexString"], unfollowed := true, recurses := true, named := ["math/bits.overflowError", "unicode/utf8.first", "unicode/utf8.acceptRanges", "internal/bytealg.MaxLen"], apart := false, laid := [("unicode/utf8.acceptRanges", laid_unicode_utf8_acceptRanges), ("unicode/utf8.first", laid_unicode_utf8_first)] }
def ValuationLaterSaid : Prop := valuationLaterRow.holds Tryz.pinned (OpenSpec.ofChange valuationLaterSpec)

/-- ITS FALSE NEIGHBOUR: 'it returns false'. Refute it at one input. -/
def valuationLaterWrong : ChangeSpec := { name := "valuationLater", fn := fun _ => fun
  | [d] => { results := [.lit (.bool false)], args := [d] }
  | _ => none }
def ValuationLaterWrongFalsely : Prop := valuationLaterRow.holds Tryz.pinned (OpenSpec.ofChange valuationLaterWrong)

/-- 'fundadminlaw20.ValuationParts': WHATEVER THE INPUT: true; the input reads as it did. -/
def valuationPartsSpec : ChangeSpec := { name := "valuationParts", fn := fun _ => fun
  | [d] => { results := [.lit (.bool true)], args := [d] }
  | _ => none }
def valuationPartsRow : OpenClaim := { program := "ytklehfchdoikeaagreatdoor", sum := "506c85fca93eae91cb1601280c1e022fbce8a8b54eecd98a0ff0c583a40ec63a", func := "fundadmin/fundadminlaw20.ValuationParts", spec := "valuationParts", inPlace := ["internal/bytealg.abigen_runtime_cmpstring", "internal/abi.NoEscape", "internal/bytealg.MakeNoZero", "internal/bytealg.IndexByteString", "internal/bytealg.IndexString"], unfollowed := true, recurses := true, named := ["math/bits.overflowError", "unicode/utf8.first", "unicode/utf8.acceptRanges", "internal/bytealg.MaxLen"], apart := false, laid := [("unicode/utf8.acceptRanges", laid_unicode_utf8_acceptRanges), ("unicode/utf8.first", laid_unicode_utf8_first)] }
def ValuationPartsSaid : Prop := valuationPartsRow.holds Tryz.pinned (OpenSpec.ofChange valuationPartsSpec)

/-- ITS FALSE NEIGHBOUR: 'it returns false'. Refute it at one input. -/
def valuationPartsWrong : ChangeSpec := { name := "valuationParts", fn := fun _ => fun
  | [d] => { results := [.lit (.bool false)], args := [d] }
  | _ => none }
def ValuationPartsWrongFalsely : Prop := valuationPartsRow.holds Tryz.pinned (OpenSpec.ofChange valuationPartsWrong)

/- THE SECOND FORM. 'bulk': how many values and letters a reading holds, each counted each time it is reached (what is shared counts as often as it is met; a slice's spare places count too). A statement '..UptoSaid' is the law's where the arguments, and the package variables that the reading takes, are together of bulk at most 1048576: NARROWER than '..Said'. Prove '..Said' where nothing that the law and all that it calls make is longer than what came in: it says more and counts as full. Else prove '..UptoSaid'. A law counts once. -/
mutual
def uptoBulk {H : Type} : DataW H → Nat
  | .lit (.string bytes) => bytes.length + 1
  | .lit _ => 1
  | .nil => 1
  | .ptr d => uptoBulk d + 1
  | .slice elems spare => uptoBulkAll elems + uptoBulkAll spare + 1
  | .agg parts => uptoBulkAll parts + 1
  | .iface _ d => uptoBulk d + 1
  | .map entries => uptoBulkEntries entries + 1
  | .held _ => 1
def uptoBulkAll {H : Type} : List (DataW H) → Nat
  | [] => 0
  | d :: r => uptoBulk d + uptoBulkAll r
def uptoBulkEntries {H : Type} : List (Lit × DataW H) → Nat
  | [] => 0
  | x :: r => uptoBulkEntry x + uptoBulkEntries r
def uptoBulkEntry {H : Type} : Lit × DataW H → Nat
  | (.string bytes, d) => bytes.length + uptoBulk d + 1
  | (_, d) => uptoBulk d + 1
 end
def uptoSmall : (H : Type) → List (DataW H) → Bool := fun _ ds => decide (uptoBulkAll ds ≤ 1048576)
def OpenSpec.upto (s : _root_.Go.ChangeSpec) : _root_.Go.OpenSpec := { _root_.Go.OpenSpec.ofChange s with cond := some uptoSmall }

/-- 'fundadminlaw20.ValuationExact', WHERE WHAT IT READS IS OF BULK AT MOST 1048576: true; the input reads as it did. -/
def valuationExactUptoRow : OpenClaim := { program := "ytklehfchdoikeaagreatdoor", sum := "506c85fca93eae91cb1601280c1e022fbce8a8b54eecd98a0ff0c583a40ec63a", func := "fundadmin/fundadminlaw20.ValuationExact", spec := "valuationExact", inPlace := ["internal/bytealg.abigen_runtime_cmpstring", "internal/abi.NoEscape", "internal/bytealg.MakeNoZero", "internal/bytealg.IndexByteString", "internal/bytealg.IndexString"], unfollowed := true, recurses := true, named := ["math/bits.overflowError", "unicode/utf8.first", "unicode/utf8.acceptRanges", "internal/bytealg.MaxLen"], apart := false, laid := [("unicode/utf8.acceptRanges", laid_unicode_utf8_acceptRanges), ("unicode/utf8.first", laid_unicode_utf8_first)], narrowed := true }
def ValuationExactUptoSaid : Prop := valuationExactUptoRow.holds Tryz.pinned (OpenSpec.upto valuationExactSpec)

/-- 'fundadminlaw20.ValuationPlays', WHERE WHAT IT READS IS OF BULK AT MOST 1048576: true; the input reads as it did. -/
def valuationPlaysUptoRow : OpenClaim := { program := "ytklehfchdoikeaagreatdoor", sum := "506c85fca93eae91cb1601280c1e022fbce8a8b54eecd98a0ff0c583a40ec63a", func := "fundadmin/fundadminlaw20.ValuationPlays", spec := "valuationPlays", inPlace := ["internal/bytealg.abigen_runtime_cmpstring", "internal/abi.NoEscape", "internal/bytealg.MakeNoZero", "internal/bytealg.IndexByteString", "internal/bytealg.IndexString"], unfollowed := true, recurses := true, named := ["math/bits.overflowError", "unicode/utf8.first", "unicode/utf8.acceptRanges", "internal/bytealg.MaxLen"], apart := false, laid := [("unicode/utf8.acceptRanges", laid_unicode_utf8_acceptRanges), ("unicode/utf8.first", laid_unicode_utf8_first)], narrowed := true }
def ValuationPlaysUptoSaid : Prop := valuationPlaysUptoRow.holds Tryz.pinned (OpenSpec.upto valuationPlaysSpec)

/-- 'fundadminlaw20.ValuationSpoilt', WHERE WHAT IT READS IS OF BULK AT MOST 1048576: true; the input reads as it did. -/
def valuationSpoiltUptoRow : OpenClaim := { program := "ytklehfchdoikeaagreatdoor", sum := "506c85fca93eae91cb1601280c1e022fbce8a8b54eecd98a0ff0c583a40ec63a", func := "fundadmin/fundadminlaw20.ValuationSpoilt", spec := "valuationSpoilt", inPlace := ["internal/bytealg.abigen_runtime_cmpstring", "internal/abi.NoEscape", "internal/bytealg.MakeNoZero", "internal/bytealg.IndexByteString", "internal/bytealg.IndexString"], unfollowed := true, recurses := true, named := ["math/bits.overflowError", "unicode/utf8.first", "unicode/utf8.acceptRanges", "internal/bytealg.MaxLen"], apart := false, laid := [("unicode/utf8.acceptRanges", laid_unicode_utf8_acceptRanges), ("unicode/utf8.first", laid_unicode_utf8_first)], narrowed := true }
def ValuationSpoiltUptoSaid : Prop := valuationSpoiltUptoRow.holds Tryz.pinned (OpenSpec.upto valuationSpoiltSpec)

/-- 'fundadminlaw20.ValuationLines', WHERE WHAT IT READS IS OF BULK AT MOST 1048576: true; the input reads as it did. -/
def valuationLinesUptoRow : OpenClaim := { program := "ytklehfchdoikeaagreatdoor", sum := "506c85fca93eae91cb1601280c1e022fbce8a8b54eecd98a0ff0c583a40ec63a", func := "fundadmin/fundadminlaw20.ValuationLines", spec := "valuationLines", inPlace := ["internal/bytealg.abigen_runtime_cmpstring", "internal/abi.NoEscape", "internal/bytealg.MakeNoZero", "internal/bytealg.IndexByteString", "internal/bytealg.IndexString"], unfollowed := true, recurses := true, named := ["math/bits.overflowError", "unicode/utf8.first", "unicode/utf8.acceptRanges", "internal/bytealg.MaxLen"], apart := false, laid := [("unicode/utf8.acceptRanges", laid_unicode_utf8_acceptRanges), ("unicode/utf8.first", laid_unicode_utf8_first)], narrowed := true }
def ValuationLinesUptoSaid : Prop := valuationLinesUptoRow.holds Tryz.pinned (OpenSpec.upto valuationLinesSpec)

/-- 'fundadminlaw20.ValuationTampers', WHERE WHAT IT READS IS OF BULK AT MOST 1048576: true; the input reads as it did. -/
def valuationTampersUptoRow : OpenClaim := { program := "ytklehfchdoikeaagreatdoor", sum := "506c85fca93eae91cb1601280c1e022fbce8a8b54eecd98a0ff0c583a40ec63a", func := "fundadmin/fundadminlaw20.ValuationTampers", spec := "valuationTampers", inPlace := ["internal/bytealg.abigen_runtime_cmpstring", "internal/abi.NoEscape", "internal/bytealg.MakeNoZero", "internal/bytealg.IndexByteString", "internal/bytealg.IndexString"], unfollowed := true, recurses := true, named := ["math/bits.overflowError", "unicode/utf8.first", "unicode/utf8.acceptRanges", "internal/bytealg.MaxLen"], apart := false, laid := [("unicode/utf8.acceptRanges", laid_unicode_utf8_acceptRanges), ("unicode/utf8.first", laid_unicode_utf8_first)], narrowed := true }
def ValuationTampersUptoSaid : Prop := valuationTampersUptoRow.holds Tryz.pinned (OpenSpec.upto valuationTampersSpec)

/-- 'fundadminlaw20.ValuationBound', WHERE WHAT IT READS IS OF BULK AT MOST 1048576: true; the input reads as it did. -/
def valuationBoundUptoRow : OpenClaim := { program := "ytklehfchdoikeaagreatdoor", sum := "506c85fca93eae91cb1601280c1e022fbce8a8b54eecd98a0ff0c583a40ec63a", func := "fundadmin/fundadminlaw20.ValuationBound", spec := "valuationBound", inPlace := ["internal/bytealg.abigen_runtime_cmpstring", "internal/abi.NoEscape", "internal/bytealg.MakeNoZero", "internal/bytealg.IndexByteString", "internal/bytealg.IndexString"], unfollowed := true, recurses := true, named := ["math/bits.overflowError", "unicode/utf8.first", "unicode/utf8.acceptRanges", "internal/bytealg.MaxLen"], apart := false, laid := [("unicode/utf8.acceptRanges", laid_unicode_utf8_acceptRanges), ("unicode/utf8.first", laid_unicode_utf8_first)], narrowed := true }
def ValuationBoundUptoSaid : Prop := valuationBoundUptoRow.holds Tryz.pinned (OpenSpec.upto valuationBoundSpec)

/-- 'fundadminlaw20.ValuationLater', WHERE WHAT IT READS IS OF BULK AT MOST 1048576: true; the input reads as it did. -/
def valuationLaterUptoRow : OpenClaim := { program := "ytklehfchdoikeaagreatdoor", sum := "506c85fca93eae91cb1601280c1e022fbce8a8b54eecd98a0ff0c583a40ec63a", func := "fundadmin/fundadminlaw20.ValuationLater", spec := "valuationLater", inPlace := ["internal/bytealg.abigen_runtime_cmpstring", "internal/abi.NoEscape", "internal/bytealg.MakeNoZero", "internal/bytealg.IndexByteString", "internal/bytealg.IndexString"], unfollowed := true, recurses := true, named := ["math/bits.overflowError", "unicode/utf8.first", "unicode/utf8.acceptRanges", "internal/bytealg.MaxLen"], apart := false, laid := [("unicode/utf8.acceptRanges", laid_unicode_utf8_acceptRanges), ("unicode/utf8.first", laid_unicode_utf8_first)], narrowed := true }
def ValuationLaterUptoSaid : Prop := valuationLaterUptoRow.holds Tryz.pinned (OpenSpec.upto valuationLaterSpec)

/-- 'fundadminlaw20.ValuationParts', WHERE WHAT IT READS IS OF BULK AT MOST 1048576: true; the input reads as it did. -/
def valuationPartsUptoRow : OpenClaim := { program := "ytklehfchdoikeaagreatdoor", sum := "506c85fca93eae91cb1601280c1e022fbce8a8b54eecd98a0ff0c583a40ec63a", func := "fundadmin/fundadminlaw20.ValuationParts", spec := "valuationParts", inPlace := ["internal/bytealg.abigen_runtime_cmpstring", "internal/abi.NoEscape", "internal/bytealg.MakeNoZero", "internal/bytealg.IndexByteString", "internal/bytealg.IndexString"], unfollowed := true, recurses := true, named := ["math/bits.overflowError", "unicode/utf8.first", "unicode/utf8.acceptRanges", "internal/bytealg.MaxLen"], apart := false, laid := [("unicode/utf8.acceptRanges", laid_unicode_utf8_acceptRanges), ("unicode/utf8.first", laid_unicode_utf8_first)], narrowed := true }
def ValuationPartsUptoSaid : Prop := valuationPartsUptoRow.holds Tryz.pinned (OpenSpec.upto valuationPartsSpec)

end Rows
end Go.Proofs.YtklehfchdoikeaaGreatDoor
