/-
  NARROWER THAN 'FOR EVERY INPUT', by the rows' own cells (each row's printed sentence says how): SelectorExact: laid · SelectorPlays: laid · SelectorSpoilt: laid · SelectorMiddle: laid · SelectorLater: laid · SelectorMajority: laid · SelectorSingle: laid.
  DERIVED. THE GIVEN ROWS OF THIS SEAT. 7 by the template 'for every input the law returns true; each argument reads behind the call as it read before'; 0 by the template 'total and deterministic' (their statements: YtinojijgeabfnaaGreatDoorTotals.lean).
  GIVEN WITH THE SEED: the statements are not yours to turn. If you find one false, say at which input.
  Laid BY PROGRAM, IN A SANDBOX (cutbox-rows.mjs): the forced cells as the released guide's own fill.sh prints them over the translation 2fbada0a2e62f33a… (all of the seat's roots in one cut). By AI agents, Wed Nov 11 2026. No macro, syntax, notation, axiom, sorry.
-/
import Derived.Test.YtinojijgeabfnaaGreatDoorChecked
import GoSem.PinnedTables
import GoSem.Claim
import GoSem.ClaimJoined
import GoSem.ClaimMapViews
import Derived.JoinedTies
import Derived.KernelRfl
namespace Go.Proofs.YtinojijgeabfnaaGreatDoor
/- THE CELL 'sum', in the pinned program and in every row, IS THE sha256 OF THE DUMP (.gsa) THAT YtinojijgeabfnaaGreatDoorProg.lean LOADS. Nothing in Lean hashes anything: it is a label: what it is worth is what the hold of that sum in a sandbox is worth. -/
noncomputable def Tryz.pinned : Pinned := { name := "ytinojijgeabfnaagreatdoor", sum := "2fbada0a2e62f33aeec7f52ffe8f3b22252d1f183c1b6db23e911296ca1ac357", checked := Tryz.checked }
namespace Rows
def none {H : Type} : Left H := { results := [], args := [] }

/- WHAT THE LISTED PACKAGE-LEVEL VARIABLES READ AS WHEN THE CALL BEGINS. Each datum BY PROGRAM (the guide's laid-datum.mjs) off the statement by which the dump's own 'gosem.cut.vars' lays the variable. In a bare row this is a premise. The card (YtinojijgeabfnaaGreatDoorCards.lean) ties it to the program's text. -/
def laid_unicode_utf8_acceptRanges {H : Type} : DataW H := .agg [.agg [.lit (.int .u8 128), .lit (.int .u8 191)], .agg [.lit (.int .u8 160), .lit (.int .u8 191)], .agg [.lit (.int .u8 128), .lit (.int .u8 159)], .agg [.lit (.int .u8 144), .lit (.int .u8 191)], .agg [.lit (.int .u8 128), .lit (.int .u8 143)], .agg [.lit (.int .u8 0), .lit (.int .u8 0)], .agg [.lit (.int .u8 0), .lit (.int .u8 0)], .agg [.lit (.int .u8 0), .lit (.int .u8 0)], .agg [.lit (.int .u8 0), .lit (.int .u8 0)], .agg [.lit (.int .u8 0), .lit (.int .u8 0)], .agg [.lit (.int .u8 0), .lit (.int .u8 0)], .agg [.lit (.int .u8 0), .lit (.int .u8 0)], .agg [.lit (.int .u8 0), .lit (.int .u8 0)], .agg [.lit (.int .u8 0), .lit (.int .u8 0)], .agg [.lit (.int .u8 0), .lit (.int .u8 0)], .agg [.lit (.int .u8 0), .lit (.int .u8 0)]]
/-- One of Go's own tables, pinned by name: the form's constant. -/
def laid_unicode_utf8_first : DataW Unit := Go.Pinned.utf8First

/-- 'fundadminlaw15.SelectorExact': WHATEVER THE INPUT: true; the input reads as it did. -/
def selectorExactSpec : ChangeSpec := { name := "selectorExact", fn := fun _ => fun
  | [d1, d2, d3, d4, d5] => { results := [.lit (.bool true)], args := [d1, d2, d3, d4, d5] }
  | _ => none }
def selectorExactRow : OpenClaim := { program := "ytinojijgeabfnaagreatdoor", sum := "2fbada0a2e62f33aeec7f52ffe8f3b22252d1f183c1b6db23e911296ca1ac357", func := "fundadmin/fundadminlaw15.SelectorExact", spec := "selectorExact", inPlace := ["internal/abi.NoEscape", "internal/bytealg.MakeNoZero", "internal/bytealg.IndexByteString", "internal/bytealg.IndexString"], unfollowed := true, recurses := true, named := ["math/bits.overflowError", "unicode/utf8.first", "unicode/utf8.acceptRanges", "internal/bytealg.MaxLen"], apart := false, laid := [("unicode/utf8.acceptRanges", laid_unicode_utf8_acceptRanges), ("unicode/utf8.first", laid_unicode_utf8_first)] }
def SelectorExactSaid : Prop := selectorExactRow.holds Tryz.pinned (OpenSpec.ofChange selectorExactSpec)

/-- ITS FALSE NEIGHBOUR: 'it returns false'. Refute it at one input. -/
def selectorExactWrong : ChangeSpec := { name := "selectorExact", fn := fun _ => fun
  | [d1, d2, d3, d4, d5] => { results := [.lit (.bool false)], args := [d1, d2, d3, d4, d5] }
  | _ => none }
def SelectorExactWrongFalsely : Prop := selectorExactRow.holds Tryz.pinned (OpenSpec.ofChange selectorExactWrong)

/-- 'fundadminlaw15.SelectorPlays': WHATEVER THE INPUT: true; the input reads as it did. -/
def selectorPlaysSpec : ChangeSpec := { name := "selectorPlays", fn := fun _ => fun
  | [d] => { results := [.lit (.bool true)], args := [d] }
  | _ => none }
def selectorPlaysRow : OpenClaim := { program := "ytinojijgeabfnaagreatdoor", sum := "2fbada0a2e62f33aeec7f52ffe8f3b22252d1f183c1b6db23e911296ca1ac357", func := "fundadmin/fundadminlaw15.SelectorPlays", spec := "selectorPlays", inPlace := ["internal/abi.NoEscape", "internal/bytealg.MakeNoZero", "internal/bytealg.IndexByteString", "internal/bytealg.IndexString"], unfollowed := true, recurses := true, named := ["math/bits.overflowError", "unicode/utf8.first", "unicode/utf8.acceptRanges", "internal/bytealg.MaxLen"], apart := false, laid := [("unicode/utf8.acceptRanges", laid_unicode_utf8_acceptRanges), ("unicode/utf8.first", laid_unicode_utf8_first)] }
def SelectorPlaysSaid : Prop := selectorPlaysRow.holds Tryz.pinned (OpenSpec.ofChange selectorPlaysSpec)

/-- ITS FALSE NEIGHBOUR: 'it returns false'. Refute it at one input. -/
def selectorPlaysWrong : ChangeSpec := { name := "selectorPlays", fn := fun _ => fun
  | [d] => { results := [.lit (.bool false)], args := [d] }
  | _ => none }
def SelectorPlaysWrongFalsely : Prop := selectorPlaysRow.holds Tryz.pinned (OpenSpec.ofChange selectorPlaysWrong)

/-- 'fundadminlaw15.SelectorSpoilt': WHATEVER THE INPUT: true; the input reads as it did. -/
def selectorSpoiltSpec : ChangeSpec := { name := "selectorSpoilt", fn := fun _ => fun
  | [d1, d2, d3] => { results := [.lit (.bool true)], args := [d1, d2, d3] }
  | _ => none }
def selectorSpoiltRow : OpenClaim := { program := "ytinojijgeabfnaagreatdoor", sum := "2fbada0a2e62f33aeec7f52ffe8f3b22252d1f183c1b6db23e911296ca1ac357", func := "fundadmin/fundadminlaw15.SelectorSpoilt", spec := "selectorSpoilt", inPlace := ["internal/abi.NoEscape", "internal/bytealg.MakeNoZero", "internal/bytealg.IndexByteString", "internal/bytealg.IndexString"], unfollowed := true, recurses := true, named := ["math/bits.overflowError", "unicode/utf8.first", "unicode/utf8.acceptRanges", "internal/bytealg.MaxLen"], apart := false, laid := [("unicode/utf8.acceptRanges", laid_unicode_utf8_acceptRanges), ("unicode/utf8.first", laid_unicode_utf8_first)] }
def SelectorSpoiltSaid : Prop := selectorSpoiltRow.holds Tryz.pinned (OpenSpec.ofChange selectorSpoiltSpec)

/-- ITS FALSE NEIGHBOUR: 'it returns false'. Refute it at one input. -/
def selectorSpoiltWrong : ChangeSpec := { name := "selectorSpoilt", fn := fun _ => fun
  | [d1, d2, d3] => { results := [.lit (.bool false)], args := [d1, d2, d3] }
  | _ => none }
def SelectorSpoiltWrongFalsely : Prop := selectorSpoiltRow.holds Tryz.pinned (OpenSpec.ofChange selectorSpoiltWrong)

/-- 'fundadminlaw15.SelectorMiddle': WHATEVER THE INPUT: true; the input reads as it did. -/
def selectorMiddleSpec : ChangeSpec := { name := "selectorMiddle", fn := fun _ => fun
  | [d] => { results := [.lit (.bool true)], args := [d] }
  | _ => none }
def selectorMiddleRow : OpenClaim := { program := "ytinojijgeabfnaagreatdoor", sum := "2fbada0a2e62f33aeec7f52ffe8f3b22252d1f183c1b6db23e911296ca1ac357", func := "fundadmin/fundadminlaw15.SelectorMiddle", spec := "selectorMiddle", inPlace := ["internal/abi.NoEscape", "internal/bytealg.MakeNoZero", "internal/bytealg.IndexByteString", "internal/bytealg.IndexString"], unfollowed := true, recurses := true, named := ["math/bits.overflowError", "unicode/utf8.first", "unicode/utf8.acceptRanges", "internal/bytealg.MaxLen"], apart := false, laid := [("unicode/utf8.acceptRanges", laid_unicode_utf8_acceptRanges), ("unicode/utf8.first", laid_unicode_utf8_first)] }
def SelectorMiddleSaid : Prop := selectorMiddleRow.holds Tryz.pinned (OpenSpec.ofChange selectorMiddleSpec)

/-- ITS FALSE NEIGHBOUR: 'it returns false'. Refute it at one input. -/
def selectorMiddleWrong : ChangeSpec := { name := "selectorMiddle", fn := fun _ => fun
  | [d] => { results := [.lit (.bool false)], args := [d] }
  | _ => none }
def SelectorMiddleWrongFalsely : Prop := selectorMiddleRow.holds Tryz.pinned (OpenSpec.ofChange selectorMiddleWrong)

/-- 'fundadminlaw15.SelectorLater': WHATEVER THE INPUT: true; the input reads as it did. -/
def selectorLaterSpec : ChangeSpec := { name := "selectorLater", fn := fun _ => fun
  | [d] => { results := [.lit (.bool true)], args := [d] }
  | _ => none }
def selectorLaterRow : OpenClaim := { program := "ytinojijgeabfnaagreatdoor", sum := "2fbada0a2e62f33aeec7f52ffe8f3b22252d1f183c1b6db23e911296ca1ac357", func := "fundadmin/fundadminlaw15.SelectorLater", spec := "selectorLater", inPlace := ["internal/abi.NoEscape", "internal/bytealg.MakeNoZero", "internal/bytealg.IndexByteString", "internal/bytealg.IndexString"], unfollowed := true, recurses := true, named := ["math/bits.overflowError", "unicode/utf8.first", "unicode/utf8.acceptRanges", "internal/bytealg.MaxLen"], apart := false, laid := [("unicode/utf8.acceptRanges", laid_unicode_utf8_acceptRanges), ("unicode/utf8.first", laid_unicode_utf8_first)] }
def SelectorLaterSaid : Prop := selectorLaterRow.holds Tryz.pinned (OpenSpec.ofChange selectorLaterSpec)

/-- ITS FALSE NEIGHBOUR: 'it returns false'. Refute it at one input. -/
def selectorLaterWrong : ChangeSpec := { name := "selectorLater", fn := fun _ => fun
  | [d] => { results := [.lit (.bool false)], args := [d] }
  | _ => none }
def SelectorLaterWrongFalsely : Prop := selectorLaterRow.holds Tryz.pinned (OpenSpec.ofChange selectorLaterWrong)

/-- 'fundadminlaw15.SelectorMajority': WHATEVER THE INPUT: true; the input reads as it did. -/
def selectorMajoritySpec : ChangeSpec := { name := "selectorMajority", fn := fun _ => fun
  | [d] => { results := [.lit (.bool true)], args := [d] }
  | _ => none }
def selectorMajorityRow : OpenClaim := { program := "ytinojijgeabfnaagreatdoor", sum := "2fbada0a2e62f33aeec7f52ffe8f3b22252d1f183c1b6db23e911296ca1ac357", func := "fundadmin/fundadminlaw15.SelectorMajority", spec := "selectorMajority", inPlace := ["internal/abi.NoEscape", "internal/bytealg.MakeNoZero", "internal/bytealg.IndexByteString", "internal/bytealg.IndexString"], unfollowed := true, recurses := true, named := ["math/bits.overflowError", "unicode/utf8.first", "unicode/utf8.acceptRanges", "internal/bytealg.MaxLen"], apart := false, laid := [("unicode/utf8.acceptRanges", laid_unicode_utf8_acceptRanges), ("unicode/utf8.first", laid_unicode_utf8_first)] }
def SelectorMajoritySaid : Prop := selectorMajorityRow.holds Tryz.pinned (OpenSpec.ofChange selectorMajoritySpec)

/-- ITS FALSE NEIGHBOUR: 'it returns false'. Refute it at one input. -/
def selectorMajorityWrong : ChangeSpec := { name := "selectorMajority", fn := fun _ => fun
  | [d] => { results := [.lit (.bool false)], args := [d] }
  | _ => none }
def SelectorMajorityWrongFalsely : Prop := selectorMajorityRow.holds Tryz.pinned (OpenSpec.ofChange selectorMajorityWrong)

/-- 'fundadminlaw15.SelectorSingle': WHATEVER THE INPUT: true; the input reads as it did. -/
def selectorSingleSpec : ChangeSpec := { name := "selectorSingle", fn := fun _ => fun
  | [d] => { results := [.lit (.bool true)], args := [d] }
  | _ => none }
def selectorSingleRow : OpenClaim := { program := "ytinojijgeabfnaagreatdoor", sum := "2fbada0a2e62f33aeec7f52ffe8f3b22252d1f183c1b6db23e911296ca1ac357", func := "fundadmin/fundadminlaw15.SelectorSingle", spec := "selectorSingle", inPlace := ["internal/abi.NoEscape", "internal/bytealg.MakeNoZero", "internal/bytealg.IndexByteString", "internal/bytealg.IndexString"], unfollowed := true, recurses := true, named := ["math/bits.overflowError", "unicode/utf8.first", "unicode/utf8.acceptRanges", "internal/bytealg.MaxLen"], apart := false, laid := [("unicode/utf8.acceptRanges", laid_unicode_utf8_acceptRanges), ("unicode/utf8.first", laid_unicode_utf8_first)] }
def SelectorSingleSaid : Prop := selectorSingleRow.holds Tryz.pinned (OpenSpec.ofChange selectorSingleSpec)

/-- ITS FALSE NEIGHBOUR: 'it returns false'. Refute it at one input. -/
def selectorSingleWrong : ChangeSpec := { name := "selectorSingle", fn := fun _ => fun
  | [d] => { results := [.lit (.bool false)], args := [d] }
  | _ => none }
def SelectorSingleWrongFalsely : Prop := selectorSingleRow.holds Tryz.pinned (OpenSpec.ofChange selectorSingleWrong)

/- THE SECOND FORM. 'bulk': how many values and letters a reading holds, each counted each time it is reached (what is shared counts as often as it is met; a slice's spare places count too). A statement '..UptoSaid' is the law's where the arguments, and the package variables that the reading takes, are together of bulk at most 1048576: NARROWER than '..Said'. Prove '..Said' where nothing that the law and all that it calls make is longer than what came in: it says more and counts as full. Else prove '..UptoSaid'. A law counts once. -/
mutual
def uptoBulk {H : Type} : DataW H → Nat
  | .lit (.string bytes) => bytes.length + 1
  | .lit _ => 1
  | .nil => 1
  | .ptr d => uptoBulk d + 1
  | .slice elems spare => uptoBulkAll elems + uptoBulkAll spare + 1
  | .agg parts => uptoBulkAll parts + 1
  | .iface _ d => uptoBulk d + 1
  | .map entries => uptoBulkEntries entries + 1
  | .held _ => 1
def uptoBulkAll {H : Type} : List (DataW H) → Nat
  | [] => 0
  | d :: r => uptoBulk d + uptoBulkAll r
def uptoBulkEntries {H : Type} : List (Lit × DataW H) → Nat
  | [] => 0
  | x :: r => uptoBulkEntry x + uptoBulkEntries r
def uptoBulkEntry {H : Type} : Lit × DataW H → Nat
  | (.string bytes, d) => bytes.length + uptoBulk d + 1
  | (_, d) => uptoBulk d + 1
 end
def uptoSmall : (H : Type) → List (DataW H) → Bool := fun _ ds => decide (uptoBulkAll ds ≤ 1048576)
def OpenSpec.upto (s : _root_.Go.ChangeSpec) : _root_.Go.OpenSpec := { _root_.Go.OpenSpec.ofChange s with cond := some uptoSmall }

/-- 'fundadminlaw15.SelectorExact', WHERE WHAT IT READS IS OF BULK AT MOST 1048576: true; the input reads as it did. -/
def selectorExactUptoRow : OpenClaim := { program := "ytinojijgeabfnaagreatdoor", sum := "2fbada0a2e62f33aeec7f52ffe8f3b22252d1f183c1b6db23e911296ca1ac357", func := "fundadmin/fundadminlaw15.SelectorExact", spec := "selectorExact", inPlace := ["internal/abi.NoEscape", "internal/bytealg.MakeNoZero", "internal/bytealg.IndexByteString", "internal/bytealg.IndexString"], unfollowed := true, recurses := true, named := ["math/bits.overflowError", "unicode/utf8.first", "unicode/utf8.acceptRanges", "internal/bytealg.MaxLen"], apart := false, laid := [("unicode/utf8.acceptRanges", laid_unicode_utf8_acceptRanges), ("unicode/utf8.first", laid_unicode_utf8_first)], narrowed := true }
def SelectorExactUptoSaid : Prop := selectorExactUptoRow.holds Tryz.pinned (OpenSpec.upto selectorExactSpec)

/-- 'fundadminlaw15.SelectorPlays', WHERE WHAT IT READS IS OF BULK AT MOST 1048576: true; the input reads as it did. -/
def selectorPlaysUptoRow : OpenClaim := { program := "ytinojijgeabfnaagreatdoor", sum := "2fbada0a2e62f33aeec7f52ffe8f3b22252d1f183c1b6db23e911296ca1ac357", func := "fundadmin/fundadminlaw15.SelectorPlays", spec := "selectorPlays", inPlace := ["internal/abi.NoEscape", "internal/bytealg.MakeNoZero", "internal/bytealg.IndexByteString", "internal/bytealg.IndexString"], unfollowed := true, recurses := true, named := ["math/bits.overflowError", "unicode/utf8.first", "unicode/utf8.acceptRanges", "internal/bytealg.MaxLen"], apart := false, laid := [("unicode/utf8.acceptRanges", laid_unicode_utf8_acceptRanges), ("unicode/utf8.first", laid_unicode_utf8_first)], narrowed := true }
def SelectorPlaysUptoSaid : Prop := selectorPlaysUptoRow.holds Tryz.pinned (OpenSpec.upto selectorPlaysSpec)

/-- 'fundadminlaw15.SelectorSpoilt', WHERE WHAT IT READS IS OF BULK AT MOST 1048576: true; the input reads as it did. -/
def selectorSpoiltUptoRow : OpenClaim := { program := "ytinojijgeabfnaagreatdoor", sum := "2fbada0a2e62f33aeec7f52ffe8f3b22252d1f183c1b6db23e911296ca1ac357", func := "fundadmin/fundadminlaw15.SelectorSpoilt", spec := "selectorSpoilt", inPlace := ["internal/abi.NoEscape", "internal/bytealg.MakeNoZero", "internal/bytealg.IndexByteString", "internal/bytealg.IndexString"], unfollowed := true, recurses := true, named := ["math/bits.overflowError", "unicode/utf8.first", "unicode/utf8.acceptRanges", "internal/bytealg.MaxLen"], apart := false, laid := [("unicode/utf8.acceptRanges", laid_unicode_utf8_acceptRanges), ("unicode/utf8.first", laid_unicode_utf8_first)], narrowed := true }
def SelectorSpoiltUptoSaid : Prop := selectorSpoiltUptoRow.holds Tryz.pinned (OpenSpec.upto selectorSpoiltSpec)

/-- 'fundadminlaw15.SelectorMiddle', WHERE WHAT IT READS IS OF BULK AT MOST 1048576: true; the input reads as it did. -/
def selectorMiddleUptoRow : OpenClaim := { program := "ytinojijgeabfnaagreatdoor", sum := "2fbada0a2e62f33aeec7f52ffe8f3b22252d1f183c1b6db23e911296ca1ac357", func := "fundadmin/fundadminlaw15.SelectorMiddle", spec := "selectorMiddle", inPlace := ["internal/abi.NoEscape", "internal/bytealg.MakeNoZero", "internal/bytealg.IndexByteString", "internal/bytealg.IndexString"], unfollowed := true, recurses := true, named := ["math/bits.overflowError", "unicode/utf8.first", "unicode/utf8.acceptRanges", "internal/bytealg.MaxLen"], apart := false, laid := [("unicode/utf8.acceptRanges", laid_unicode_utf8_acceptRanges), ("unicode/utf8.first", laid_unicode_utf8_first)], narrowed := true }
def SelectorMiddleUptoSaid : Prop := selectorMiddleUptoRow.holds Tryz.pinned (OpenSpec.upto selectorMiddleSpec)

/-- 'fundadminlaw15.SelectorLater', WHERE WHAT IT READS IS OF BULK AT MOST 1048576: true; the input reads as it did. -/
def selectorLaterUptoRow : OpenClaim := { program := "ytinojijgeabfnaagreatdoor", sum := "2fbada0a2e62f33aeec7f52ffe8f3b22252d1f183c1b6db23e911296ca1ac357", func := "fundadmin/fundadminlaw15.SelectorLater", spec := "selectorLater", inPlace := ["internal/abi.NoEscape", "internal/bytealg.MakeNoZero", "internal/bytealg.IndexByteString", "internal/bytealg.IndexString"], unfollowed := true, recurses := true, named := ["math/bits.overflowError", "unicode/utf8.first", "unicode/utf8.acceptRanges", "internal/bytealg.MaxLen"], apart := false, laid := [("unicode/utf8.acceptRanges", laid_unicode_utf8_acceptRanges), ("unicode/utf8.first", laid_unicode_utf8_first)], narrowed := true }
def SelectorLaterUptoSaid : Prop := selectorLaterUptoRow.holds Tryz.pinned (OpenSpec.upto selectorLaterSpec)

/-- 'fundadminlaw15.SelectorMajority', WHERE WHAT IT READS IS OF BULK AT MOST 1048576: true; the input reads as it did. -/
def selectorMajorityUptoRow : OpenClaim := { program := "ytinojijgeabfnaagreatdoor", sum := "2fbada0a2e62f33aeec7f52ffe8f3b22252d1f183c1b6db23e911296ca1ac357", func := "fundadmin/fundadminlaw15.SelectorMajority", spec := "selectorMajority", inPlace := ["internal/abi.NoEscape", "internal/bytealg.MakeNoZero", "internal/bytealg.IndexByteString", "internal/bytealg.IndexString"], unfollowed := true, recurses := true, named := ["math/bits.overflowError", "unicode/utf8.first", "unicode/utf8.acceptRanges", "internal/bytealg.MaxLen"], apart := false, laid := [("unicode/utf8.acceptRanges", laid_unicode_utf8_acceptRanges), ("unicode/utf8.first", laid_unicode_utf8_first)], narrowed := true }
def SelectorMajorityUptoSaid : Prop := selectorMajorityUptoRow.holds Tryz.pinned (OpenSpec.upto selectorMajoritySpec)

/-- 'fundadminlaw15.SelectorSingle', WHERE WHAT IT READS IS OF BULK AT MOST 1048576: true; the input reads as it did. -/
def selectorSingleUptoRow : OpenClaim := { program := "ytinojijgeabfnaagreatdoor", sum := "2fbada0a2e62f33aeec7f52ffe8f3b22252d1f183c1b6db23e911296ca1ac357", func := "fundadmin/fundadminlaw15.SelectorSingle", spec := "selectorSingle", inPlace := ["internal/abi.NoEscape", "internal/bytealg.MakeNoZero", "internal/bytealg.IndexByteString", "internal/bytealg.IndexString"], unfollowed := true, recurses := true, named := ["math/bits.overflowError", "unicode/utf8.first", "unicode/utf8.acceptRanges", "internal/bytealg.MaxLen"], apart := false, laid := [("unicode/utf8.acceptRanges", laid_unicode_utf8_acceptRanges), ("unicode/utf8.first", laid_unicode_utf8_first)], narrowed := true }
def SelectorSingleUptoSaid : Prop := selectorSingleUptoRow.holds Tryz.pinned (OpenSpec.upto selectorSingleSpec)

end Rows
end Go.Proofs.YtinojijgeabfnaaGreatDoor
