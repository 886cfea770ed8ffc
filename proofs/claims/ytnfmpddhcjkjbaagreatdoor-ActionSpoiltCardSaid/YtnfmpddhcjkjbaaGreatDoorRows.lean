/-
  NARROWER THAN 'FOR EVERY INPUT', by the rows' own cells (each row's printed sentence says how): ActionExact: laid · ActionPlays: laid · ActionValue: laid · ActionDividend: laid · ActionMonotone: laid · ActionInverse: laid · ActionBooks: laid · ActionSpoilt: laid.
  DERIVED. THE GIVEN ROWS OF THIS SEAT. 8 by the template 'for every input the law returns true; each argument reads behind the call as it read before'; 0 by the template 'total and deterministic' (their statements: YtnfmpddhcjkjbaaGreatDoorTotals.lean).
  GIVEN WITH THE SEED: the statements are not yours to turn. If you find one false, say at which input.
  Laid BY PROGRAM, IN A SANDBOX (cutbox-rows.mjs): the forced cells as the released guide's own fill.sh prints them over the translation 59082c3090db76ce… (all of the seat's roots in one cut). By AI agents, Wed Nov 11 2026. No macro, syntax, notation, axiom, sorry.
-/
import Derived.Test.YtnfmpddhcjkjbaaGreatDoorChecked
import GoSem.PinnedTables
import GoSem.Claim
import GoSem.ClaimJoined
import GoSem.ClaimMapViews
import Derived.JoinedTies
import Derived.KernelRfl
namespace Go.Proofs.YtnfmpddhcjkjbaaGreatDoor
/- THE CELL 'sum', in the pinned program and in every row, IS THE sha256 OF THE DUMP (.gsa) THAT YtnfmpddhcjkjbaaGreatDoorProg.lean LOADS. Nothing in Lean hashes anything: it is a label: what it is worth is what the hold of that sum in a sandbox is worth. -/
noncomputable def Tryz.pinned : Pinned := { name := "ytnfmpddhcjkjbaagreatdoor", sum := "59082c3090db76ce28441646e9aa6cd2ebeefb8c00bd35006e355ea37d119864", checked := Tryz.checked }
namespace Rows
def none {H : Type} : Left H := { results := [], args := [] }

/- WHAT THE LISTED PACKAGE-LEVEL VARIABLES READ AS WHEN THE CALL BEGINS. Each datum BY PROGRAM (the guide's laid-datum.mjs) off the statement by which the dump's own 'gosem.cut.vars' lays the variable. In a bare row this is a premise. The card (YtnfmpddhcjkjbaaGreatDoorCards.lean) ties it to the program's text. -/
def laid_unicode_utf8_acceptRanges {H : Type} : DataW H := .agg [.agg [.lit (.int .u8 128), .lit (.int .u8 191)], .agg [.lit (.int .u8 160), .lit (.int .u8 191)], .agg [.lit (.int .u8 128), .lit (.int .u8 159)], .agg [.lit (.int .u8 144), .lit (.int .u8 191)], .agg [.lit (.int .u8 128), .lit (.int .u8 143)], .agg [.lit (.int .u8 0), .lit (.int .u8 0)], .agg [.lit (.int .u8 0), .lit (.int .u8 0)], .agg [.lit (.int .u8 0), .lit (.int .u8 0)], .agg [.lit (.int .u8 0), .lit (.int .u8 0)], .agg [.lit (.int .u8 0), .lit (.int .u8 0)], .agg [.lit (.int .u8 0), .lit (.int .u8 0)], .agg [.lit (.int .u8 0), .lit (.int .u8 0)], .agg [.lit (.int .u8 0), .lit (.int .u8 0)], .agg [.lit (.int .u8 0), .lit (.int .u8 0)], .agg [.lit (.int .u8 0), .lit (.int .u8 0)], .agg [.lit (.int .u8 0), .lit (.int .u8 0)]]
/-- One of Go's own tables, pinned by name: the form's constant. -/
def laid_unicode_utf8_first : DataW Unit := Go.Pinned.utf8First

/-- 'fundadminlaw17.ActionExact': WHATEVER THE INPUT: true; the input reads as it did. -/
def actionExactSpec : ChangeSpec := { name := "actionExact", fn := fun _ => fun
  | [d1, d2, d3] => { results := [.lit (.bool true)], args := [d1, d2, d3] }
  | _ => none }
def actionExactRow : OpenClaim := { program := "ytnfmpddhcjkjbaagreatdoor", sum := "59082c3090db76ce28441646e9aa6cd2ebeefb8c00bd35006e355ea37d119864", func := "fundadmin/fundadminlaw17.ActionExact", spec := "actionExact", inPlace := ["internal/abi.NoEscape", "internal/bytealg.MakeNoZero", "internal/bytealg.IndexByteString", "internal/bytealg.IndexString"], unfollowed := true, recurses := true, named := ["math/bits.overflowError", "unicode/utf8.first", "unicode/utf8.acceptRanges", "internal/bytealg.MaxLen"], apart := false, laid := [("unicode/utf8.acceptRanges", laid_unicode_utf8_acceptRanges), ("unicode/utf8.first", laid_unicode_utf8_first)] }
def ActionExactSaid : Prop := actionExactRow.holds Tryz.pinned (OpenSpec.ofChange actionExactSpec)

/-- ITS FALSE NEIGHBOUR: 'it returns false'. Refute it at one input. -/
def actionExactWrong : ChangeSpec := { name := "actionExact", fn := fun _ => fun
  | [d1, d2, d3] => { results := [.lit (.bool false)], args := [d1, d2, d3] }
  | _ => none }
def ActionExactWrongFalsely : Prop := actionExactRow.holds Tryz.pinned (OpenSpec.ofChange actionExactWrong)

/-- 'fundadminlaw17.ActionPlays': WHATEVER THE INPUT: true; the input reads as it did. -/
def actionPlaysSpec : ChangeSpec := { name := "actionPlays", fn := fun _ => fun
  | [d] => { results := [.lit (.bool true)], args := [d] }
  | _ => none }
def actionPlaysRow : OpenClaim := { program := "ytnfmpddhcjkjbaagreatdoor", sum := "59082c3090db76ce28441646e9aa6cd2ebeefb8c00bd35006e355ea37d119864", func := "fundadmin/fundadminlaw17.ActionPlays", spec := "actionPlays", inPlace := ["internal/abi.NoEscape", "internal/bytealg.MakeNoZero", "internal/bytealg.IndexByteString", "internal/bytealg.IndexString"], unfollowed := true, recurses := true, named := ["math/bits.overflowError", "unicode/utf8.first", "unicode/utf8.acceptRanges", "internal/bytealg.MaxLen"], apart := false, laid := [("unicode/utf8.acceptRanges", laid_unicode_utf8_acceptRanges), ("unicode/utf8.first", laid_unicode_utf8_first)] }
def ActionPlaysSaid : Prop := actionPlaysRow.holds Tryz.pinned (OpenSpec.ofChange actionPlaysSpec)

/-- ITS FALSE NEIGHBOUR: 'it returns false'. Refute it at one input. -/
def actionPlaysWrong : ChangeSpec := { name := "actionPlays", fn := fun _ => fun
  | [d] => { results := [.lit (.bool false)], args := [d] }
  | _ => none }
def ActionPlaysWrongFalsely : Prop := actionPlaysRow.holds Tryz.pinned (OpenSpec.ofChange actionPlaysWrong)

/-- 'fundadminlaw17.ActionValue': WHATEVER THE INPUT: true; the input reads as it did. -/
def actionValueSpec : ChangeSpec := { name := "actionValue", fn := fun _ => fun
  | [d] => { results := [.lit (.bool true)], args := [d] }
  | _ => none }
def actionValueRow : OpenClaim := { program := "ytnfmpddhcjkjbaagreatdoor", sum := "59082c3090db76ce28441646e9aa6cd2ebeefb8c00bd35006e355ea37d119864", func := "fundadmin/fundadminlaw17.ActionValue", spec := "actionValue", inPlace := ["internal/abi.NoEscape", "internal/bytealg.MakeNoZero", "internal/bytealg.IndexByteString", "internal/bytealg.IndexString"], unfollowed := true, recurses := true, named := ["math/bits.overflowError", "unicode/utf8.first", "unicode/utf8.acceptRanges", "internal/bytealg.MaxLen"], apart := false, laid := [("unicode/utf8.acceptRanges", laid_unicode_utf8_acceptRanges), ("unicode/utf8.first", laid_unicode_utf8_first)] }
def ActionValueSaid : Prop := actionValueRow.holds Tryz.pinned (OpenSpec.ofChange actionValueSpec)

/-- ITS FALSE NEIGHBOUR: 'it returns false'. Refute it at one input. -/
def actionValueWrong : ChangeSpec := { name := "actionValue", fn := fun _ => fun
  | [d] => { results := [.lit (.bool false)], args := [d] }
  | _ => none }
def ActionValueWrongFalsely : Prop := actionValueRow.holds Tryz.pinned (OpenSpec.ofChange actionValueWrong)

/-- 'fundadminlaw17.ActionDividend': WHATEVER THE INPUT: true; the input reads as it did. -/
def actionDividendSpec : ChangeSpec := { name := "actionDividend", fn := fun _ => fun
  | [d] => { results := [.lit (.bool true)], args := [d] }
  | _ => none }
def actionDividendRow : OpenClaim := { program := "ytnfmpddhcjkjbaagreatdoor", sum := "59082c3090db76ce28441646e9aa6cd2ebeefb8c00bd35006e355ea37d119864", func := "fundadmin/fundadminlaw17.ActionDividend", spec := "actionDividend", inPlace := ["internal/abi.NoEscape", "internal/bytealg.MakeNoZero", "internal/bytealg.IndexByteString", "internal/bytealg.IndexString"], unfollowed := true, recurses := true, named := ["math/bits.overflowError", "unicode/utf8.first", "unicode/utf8.acceptRanges", "internal/bytealg.MaxLen"], apart := false, laid := [("unicode/utf8.acceptRanges", laid_unicode_utf8_acceptRanges), ("unicode/utf8.first", laid_unicode_utf8_first)] }
def ActionDividendSaid : Prop := actionDividendRow.holds Tryz.pinned (OpenSpec.ofChange actionDividendSpec)

/-- ITS FALSE NEIGHBOUR: 'it returns false'. Refute it at one input. -/
def actionDividendWrong : ChangeSpec := { name := "actionDividend", fn := fun _ => fun
  | [d] => { results := [.lit (.bool false)], args := [d] }
  | _ => none }
def ActionDividendWrongFalsely : Prop := actionDividendRow.holds Tryz.pinned (OpenSpec.ofChange actionDividendWrong)

/-- 'fundadminlaw17.ActionMonotone': WHATEVER THE INPUT: true; the input reads as it did. -/
def actionMonotoneSpec : ChangeSpec := { name := "actionMonotone", fn := fun _ => fun
  | [d] => { results := [.lit (.bool true)], args := [d] }
  | _ => none }
def actionMonotoneRow : OpenClaim := { program := "ytnfmpddhcjkjbaagreatdoor", sum := "59082c3090db76ce28441646e9aa6cd2ebeefb8c00bd35006e355ea37d119864", func := "fundadmin/fundadminlaw17.ActionMonotone", spec := "actionMonotone", inPlace := ["internal/abi.NoEscape", "internal/bytealg.MakeNoZero", "internal/bytealg.IndexByteString", "internal/bytealg.IndexString"], unfollowed := true, recurses := true, named := ["math/bits.overflowError", "unicode/utf8.first", "unicode/utf8.acceptRanges", "internal/bytealg.MaxLen"], apart := false, laid := [("unicode/utf8.acceptRanges", laid_unicode_utf8_acceptRanges), ("unicode/utf8.first", laid_unicode_utf8_first)] }
def ActionMonotoneSaid : Prop := actionMonotoneRow.holds Tryz.pinned (OpenSpec.ofChange actionMonotoneSpec)

/-- ITS FALSE NEIGHBOUR: 'it returns false'. Refute it at one input. -/
def actionMonotoneWrong : ChangeSpec := { name := "actionMonotone", fn := fun _ => fun
  | [d] => { results := [.lit (.bool false)], args := [d] }
  | _ => none }
def ActionMonotoneWrongFalsely : Prop := actionMonotoneRow.holds Tryz.pinned (OpenSpec.ofChange actionMonotoneWrong)

/-- 'fundadminlaw17.ActionInverse': WHATEVER THE INPUT: true; the input reads as it did. -/
def actionInverseSpec : ChangeSpec := { name := "actionInverse", fn := fun _ => fun
  | [d] => { results := [.lit (.bool true)], args := [d] }
  | _ => none }
def actionInverseRow : OpenClaim := { program := "ytnfmpddhcjkjbaagreatdoor", sum := "59082c3090db76ce28441646e9aa6cd2ebeefb8c00bd35006e355ea37d119864", func := "fundadmin/fundadminlaw17.ActionInverse", spec := "actionInverse", inPlace := ["internal/abi.NoEscape", "internal/bytealg.MakeNoZero", "internal/bytealg.IndexByteString", "internal/bytealg.IndexString"], unfollowed := true, recurses := true, named := ["math/bits.overflowError", "unicode/utf8.first", "unicode/utf8.acceptRanges", "internal/bytealg.MaxLen"], apart := false, laid := [("unicode/utf8.acceptRanges", laid_unicode_utf8_acceptRanges), ("unicode/utf8.first", laid_unicode_utf8_first)] }
def ActionInverseSaid : Prop := actionInverseRow.holds Tryz.pinned (OpenSpec.ofChange actionInverseSpec)

/-- ITS FALSE NEIGHBOUR: 'it returns false'. Refute it at one input. -/
def actionInverseWrong : ChangeSpec := { name := "actionInverse", fn := fun _ => fun
  | [d] => { results := [.lit (.bool false)], args := [d] }
  | _ => none }
def ActionInverseWrongFalsely : Prop := actionInverseRow.holds Tryz.pinned (OpenSpec.ofChange actionInverseWrong)

/-- 'fundadminlaw17.ActionBooks': WHATEVER THE INPUT: true; the input reads as it did. -/
def actionBooksSpec : ChangeSpec := { name := "actionBooks", fn := fun _ => fun
  | [d1, d2] => { results := [.lit (.bool true)], args := [d1, d2] }
  | _ => none }
def actionBooksRow : OpenClaim := { program := "ytnfmpddhcjkjbaagreatdoor", sum := "59082c3090db76ce28441646e9aa6cd2ebeefb8c00bd35006e355ea37d119864", func := "fundadmin/fundadminlaw17.ActionBooks", spec := "actionBooks", inPlace := ["internal/abi.NoEscape", "internal/bytealg.MakeNoZero", "internal/bytealg.IndexByteString", "internal/bytealg.IndexString"], unfollowed := true, recurses := true, named := ["math/bits.overflowError", "unicode/utf8.first", "unicode/utf8.acceptRanges", "internal/bytealg.MaxLen"], apart := false, laid := [("unicode/utf8.acceptRanges", laid_unicode_utf8_acceptRanges), ("unicode/utf8.first", laid_unicode_utf8_first)] }
def ActionBooksSaid : Prop := actionBooksRow.holds Tryz.pinned (OpenSpec.ofChange actionBooksSpec)

/-- ITS FALSE NEIGHBOUR: 'it returns false'. Refute it at one input. -/
def actionBooksWrong : ChangeSpec := { name := "actionBooks", fn := fun _ => fun
  | [d1, d2] => { results := [.lit (.bool false)], args := [d1, d2] }
  | _ => none }
def ActionBooksWrongFalsely : Prop := actionBooksRow.holds Tryz.pinned (OpenSpec.ofChange actionBooksWrong)

/-- 'fundadminlaw17.ActionSpoilt': WHATEVER THE INPUT: true; the input reads as it did. -/
def actionSpoiltSpec : ChangeSpec := { name := "actionSpoilt", fn := fun _ => fun
  | [d1, d2, d3] => { results := [.lit (.bool true)], args := [d1, d2, d3] }
  | _ => none }
def actionSpoiltRow : OpenClaim := { program := "ytnfmpddhcjkjbaagreatdoor", sum := "59082c3090db76ce28441646e9aa6cd2ebeefb8c00bd35006e355ea37d119864", func := "fundadmin/fundadminlaw17.ActionSpoilt", spec := "actionSpoilt", inPlace := ["internal/abi.NoEscape", "internal/bytealg.MakeNoZero", "internal/bytealg.IndexByteString", "internal/bytealg.IndexString"], unfollowed := true, recurses := true, named := ["math/bits.overflowError", "unicode/utf8.first", "unicode/utf8.acceptRanges", "internal/bytealg.MaxLen"], apart := false, laid := [("unicode/utf8.acceptRanges", laid_unicode_utf8_acceptRanges), ("unicode/utf8.first", laid_unicode_utf8_first)] }
def ActionSpoiltSaid : Prop := actionSpoiltRow.holds Tryz.pinned (OpenSpec.ofChange actionSpoiltSpec)

/-- ITS FALSE NEIGHBOUR: 'it returns false'. Refute it at one input. -/
def actionSpoiltWrong : ChangeSpec := { name := "actionSpoilt", fn := fun _ => fun
  | [d1, d2, d3] => { results := [.lit (.bool false)], args := [d1, d2, d3] }
  | _ => none }
def ActionSpoiltWrongFalsely : Prop := actionSpoiltRow.holds Tryz.pinned (OpenSpec.ofChange actionSpoiltWrong)

/- THE SECOND FORM. 'bulk': how many values and letters a reading holds, each counted each time it is reached (what is shared counts as often as it is met; a slice's spare places count too). A statement '..UptoSaid' is the law's where the arguments, and the package variables that the reading takes, are together of bulk at most 1048576: NARROWER than '..Said'. Prove '..Said' where nothing that the law and all that it calls make is longer than what came in: it says more and counts as full. Else prove '..UptoSaid'. A law counts once. -/
mutual
def uptoBulk {H : Type} : DataW H → Nat
  | .lit (.string bytes) => bytes.length + 1
  | .lit _ => 1
  | .nil => 1
  | .ptr d => uptoBulk d + 1
  | .slice elems spare => uptoBulkAll elems + uptoBulkAll spare + 1
  | .agg parts => uptoBulkAll parts + 1
  | .iface _ d => uptoBulk d + 1
  | .map entries => uptoBulkEntries entries + 1
  | .held _ => 1
def uptoBulkAll {H : Type} : List (DataW H) → Nat
  | [] => 0
  | d :: r => uptoBulk d + uptoBulkAll r
def uptoBulkEntries {H : Type} : List (Lit × DataW H) → Nat
  | [] => 0
  | x :: r => uptoBulkEntry x + uptoBulkEntries r
def uptoBulkEntry {H : Type} : Lit × DataW H → Nat
  | (.string bytes, d) => bytes.length + uptoBulk d + 1
  | (_, d) => uptoBulk d + 1
 end
def uptoSmall : (H : Type) → List (DataW H) → Bool := fun _ ds => decide (uptoBulkAll ds ≤ 1048576)
def OpenSpec.upto (s : _root_.Go.ChangeSpec) : _root_.Go.OpenSpec := { _root_.Go.OpenSpec.ofChange s with cond := some uptoSmall }

/-- 'fundadminlaw17.ActionExact', WHERE WHAT IT READS IS OF BULK AT MOST 1048576: true; the input reads as it did. -/
def actionExactUptoRow : OpenClaim := { program := "ytnfmpddhcjkjbaagreatdoor", sum := "59082c3090db76ce28441646e9aa6cd2ebeefb8c00bd35006e355ea37d119864", func := "fundadmin/fundadminlaw17.ActionExact", spec := "actionExact", inPlace := ["internal/abi.NoEscape", "internal/bytealg.MakeNoZero", "internal/bytealg.IndexByteString", "internal/bytealg.IndexString"], unfollowed := true, recurses := true, named := ["math/bits.overflowError", "unicode/utf8.first", "unicode/utf8.acceptRanges", "internal/bytealg.MaxLen"], apart := false, laid := [("unicode/utf8.acceptRanges", laid_unicode_utf8_acceptRanges), ("unicode/utf8.first", laid_unicode_utf8_first)], narrowed := true }
def ActionExactUptoSaid : Prop := actionExactUptoRow.holds Tryz.pinned (OpenSpec.upto actionExactSpec)

/-- 'fundadminlaw17.ActionPlays', WHERE WHAT IT READS IS OF BULK AT MOST 1048576: true; the input reads as it did. -/
def actionPlaysUptoRow : OpenClaim := { program := "ytnfmpddhcjkjbaagreatdoor", sum := "59082c3090db76ce28441646e9aa6cd2ebeefb8c00bd35006e355ea37d119864", func := "fundadmin/fundadminlaw17.ActionPlays", spec := "actionPlays", inPlace := ["internal/abi.NoEscape", "internal/bytealg.MakeNoZero", "internal/bytealg.IndexByteString", "internal/bytealg.IndexString"], unfollowed := true, recurses := true, named := ["math/bits.overflowError", "unicode/utf8.first", "unicode/utf8.acceptRanges", "internal/bytealg.MaxLen"], apart := false, laid := [("unicode/utf8.acceptRanges", laid_unicode_utf8_acceptRanges), ("unicode/utf8.first", laid_unicode_utf8_first)], narrowed := true }
def ActionPlaysUptoSaid : Prop := actionPlaysUptoRow.holds Tryz.pinned (OpenSpec.upto actionPlaysSpec)

/-- 'fundadminlaw17.ActionValue', WHERE WHAT IT READS IS OF BULK AT MOST 1048576: true; the input reads as it did. -/
def actionValueUptoRow : OpenClaim := { program := "ytnfmpddhcjkjbaagreatdoor", sum := "59082c3090db76ce28441646e9aa6cd2ebeefb8c00bd35006e355ea37d119864", func := "fundadmin/fundadminlaw17.ActionValue", spec := "actionValue", inPlace := ["internal/abi.NoEscape", "internal/bytealg.MakeNoZero", "internal/bytealg.IndexByteString", "internal/bytealg.IndexString"], unfollowed := true, recurses := true, named := ["math/bits.overflowError", "unicode/utf8.first", "unicode/utf8.acceptRanges", "internal/bytealg.MaxLen"], apart := false, laid := [("unicode/utf8.acceptRanges", laid_unicode_utf8_acceptRanges), ("unicode/utf8.first", laid_unicode_utf8_first)], narrowed := true }
def ActionValueUptoSaid : Prop := actionValueUptoRow.holds Tryz.pinned (OpenSpec.upto actionValueSpec)

/-- 'fundadminlaw17.ActionDividend', WHERE WHAT IT READS IS OF BULK AT MOST 1048576: true; the input reads as it did. -/
def actionDividendUptoRow : OpenClaim := { program := "ytnfmpddhcjkjbaagreatdoor", sum := "59082c3090db76ce28441646e9aa6cd2ebeefb8c00bd35006e355ea37d119864", func := "fundadmin/fundadminlaw17.ActionDividend", spec := "actionDividend", inPlace := ["internal/abi.NoEscape", "internal/bytealg.MakeNoZero", "internal/bytealg.IndexByteString", "internal/bytealg.IndexString"], unfollowed := true, recurses := true, named := ["math/bits.overflowError", "unicode/utf8.first", "unicode/utf8.acceptRanges", "internal/bytealg.MaxLen"], apart := false, laid := [("unicode/utf8.acceptRanges", laid_unicode_utf8_acceptRanges), ("unicode/utf8.first", laid_unicode_utf8_first)], narrowed := true }
def ActionDividendUptoSaid : Prop := actionDividendUptoRow.holds Tryz.pinned (OpenSpec.upto actionDividendSpec)

/-- 'fundadminlaw17.ActionMonotone', WHERE WHAT IT READS IS OF BULK AT MOST 1048576: true; the input reads as it did. -/
def actionMonotoneUptoRow : OpenClaim := { program := "ytnfmpddhcjkjbaagreatdoor", sum := "59082c3090db76ce28441646e9aa6cd2ebeefb8c00bd35006e355ea37d119864", func := "fundadmin/fundadminlaw17.ActionMonotone", spec := "actionMonotone", inPlace := ["internal/abi.NoEscape", "internal/bytealg.MakeNoZero", "internal/bytealg.IndexByteString", "internal/bytealg.IndexString"], unfollowed := true, recurses := true, named := ["math/bits.overflowError", "unicode/utf8.first", "unicode/utf8.acceptRanges", "internal/bytealg.MaxLen"], apart := false, laid := [("unicode/utf8.acceptRanges", laid_unicode_utf8_acceptRanges), ("unicode/utf8.first", laid_unicode_utf8_first)], narrowed := true }
def ActionMonotoneUptoSaid : Prop := actionMonotoneUptoRow.holds Tryz.pinned (OpenSpec.upto actionMonotoneSpec)

/-- 'fundadminlaw17.ActionInverse', WHERE WHAT IT READS IS OF BULK AT MOST 1048576: true; the input reads as it did. -/
def actionInverseUptoRow : OpenClaim := { program := "ytnfmpddhcjkjbaagreatdoor", sum := "59082c3090db76ce28441646e9aa6cd2ebeefb8c00bd35006e355ea37d119864", func := "fundadmin/fundadminlaw17.ActionInverse", spec := "actionInverse", inPlace := ["internal/abi.NoEscape", "internal/bytealg.MakeNoZero", "internal/bytealg.IndexByteString", "internal/bytealg.IndexString"], unfollowed := true, recurses := true, named := ["math/bits.overflowError", "unicode/utf8.first", "unicode/utf8.acceptRanges", "internal/bytealg.MaxLen"], apart := false, laid := [("unicode/utf8.acceptRanges", laid_unicode_utf8_acceptRanges), ("unicode/utf8.first", laid_unicode_utf8_first)], narrowed := true }
def ActionInverseUptoSaid : Prop := actionInverseUptoRow.holds Tryz.pinned (OpenSpec.upto actionInverseSpec)

/-- 'fundadminlaw17.ActionBooks', WHERE WHAT IT READS IS OF BULK AT MOST 1048576: true; the input reads as it did. -/
def actionBooksUptoRow : OpenClaim := { program := "ytnfmpddhcjkjbaagreatdoor", sum := "59082c3090db76ce28441646e9aa6cd2ebeefb8c00bd35006e355ea37d119864", func := "fundadmin/fundadminlaw17.ActionBooks", spec := "actionBooks", inPlace := ["internal/abi.NoEscape", "internal/bytealg.MakeNoZero", "internal/bytealg.IndexByteString", "internal/bytealg.IndexString"], unfollowed := true, recurses := true, named := ["math/bits.overflowError", "unicode/utf8.first", "unicode/utf8.acceptRanges", "internal/bytealg.MaxLen"], apart := false, laid := [("unicode/utf8.acceptRanges", laid_unicode_utf8_acceptRanges), ("unicode/utf8.first", laid_unicode_utf8_first)], narrowed := true }
def ActionBooksUptoSaid : Prop := actionBooksUptoRow.holds Tryz.pinned (OpenSpec.upto actionBooksSpec)

/-- 'fundadminlaw17.ActionSpoilt', WHERE WHAT IT READS IS OF BULK AT MOST 1048576: true; the input reads as it did. -/
def actionSpoiltUptoRow : OpenClaim := { program := "ytnfmpddhcjkjbaagreatdoor", sum := "59082c3090db76ce28441646e9aa6cd2ebeefb8c00bd35006e355ea37d119864", func := "fundadmin/fundadminlaw17.ActionSpoilt", spec := "actionSpoilt", inPlace := ["internal/abi.NoEscape", "internal/bytealg.MakeNoZero", "internal/bytealg.IndexByteString", "internal/bytealg.IndexString"], unfollowed := true, recurses := true, named := ["math/bits.overflowError", "unicode/utf8.first", "unicode/utf8.acceptRanges", "internal/bytealg.MaxLen"], apart := false, laid := [("unicode/utf8.acceptRanges", laid_unicode_utf8_acceptRanges), ("unicode/utf8.first", laid_unicode_utf8_first)], narrowed := true }
def ActionSpoiltUptoSaid : Prop := actionSpoiltUptoRow.holds Tryz.pinned (OpenSpec.upto actionSpoiltSpec)

end Rows
end Go.Proofs.YtnfmpddhcjkjbaaGreatDoor
