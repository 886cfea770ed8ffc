/-
  NARROWER THAN 'FOR EVERY INPUT', by the rows' own cells (each row's printed sentence says how): PositionSpoilt: laid · PositionSums: laid · PositionLater: laid · PositionOrder: laid · PositionSettles: laid · PositionCorrects: laid · PositionPlays: laid · PositionBent: laid.
  DERIVED. THE GIVEN ROWS OF THIS SEAT. 8 by the template 'for every input the law returns true; each argument reads behind the call as it read before'; 0 by the template 'total and deterministic' (their statements: YtekfkdddadcalaaGreatDoorTotals.lean).
  GIVEN WITH THE SEED: the statements are not yours to turn. If you find one false, say at which input.
  Laid BY PROGRAM, IN A SANDBOX (cutbox-rows.mjs): the forced cells as the released guide's own fill.sh prints them over the translation ea6d2ce873f76aad… (all of the seat's roots in one cut). By AI agents, Wed Nov 11 2026. No macro, syntax, notation, axiom, sorry.
-/
import Derived.Test.YtekfkdddadcalaaGreatDoorChecked
import GoSem.PinnedTables
import GoSem.Claim
import GoSem.ClaimJoined
import GoSem.ClaimMapViews
import Derived.JoinedTies
import Derived.KernelRfl
namespace Go.Proofs.YtekfkdddadcalaaGreatDoor
/- THE CELL 'sum', in the pinned program and in every row, IS THE sha256 OF THE DUMP (.gsa) THAT YtekfkdddadcalaaGreatDoorProg.lean LOADS. Nothing in Lean hashes anything: it is a label: what it is worth is what the hold of that sum in a sandbox is worth. -/
noncomputable def Tryz.pinned : Pinned := { name := "ytekfkdddadcalaagreatdoor", sum := "ea6d2ce873f76aadba0047ca56b7bd4726a9dd4da58da97d5519e75718d0e10a", checked := Tryz.checked }
namespace Rows
def none {H : Type} : Left H := { results := [], args := [] }

/- WHAT THE LISTED PACKAGE-LEVEL VARIABLES READ AS WHEN THE CALL BEGINS. Each datum BY PROGRAM (the guide's laid-datum.mjs) off the statement by which the dump's own 'gosem.cut.vars' lays the variable. In a bare row this is a premise. The card (YtekfkdddadcalaaGreatDoorCards.lean) ties it to the program's text. -/
def laid_unicode_utf8_acceptRanges {H : Type} : DataW H := .agg [.agg [.lit (.int .u8 128), .lit (.int .u8 191)], .agg [.lit (.int .u8 160), .lit (.int .u8 191)], .agg [.lit (.int .u8 128), .lit (.int .u8 159)], .agg [.lit (.int .u8 144), .lit (.int .u8 191)], .agg [.lit (.int .u8 128), .lit (.int .u8 143)], .agg [.lit (.int .u8 0), .lit (.int .u8 0)], .agg [.lit (.int .u8 0), .lit (.int .u8 0)], .agg [.lit (.int .u8 0), .lit (.int .u8 0)], .agg [.lit (.int .u8 0), .lit (.int .u8 0)], .agg [.lit (.int .u8 0), .lit (.int .u8 0)], .agg [.lit (.int .u8 0), .lit (.int .u8 0)], .agg [.lit (.int .u8 0), .lit (.int .u8 0)], .agg [.lit (.int .u8 0), .lit (.int .u8 0)], .agg [.lit (.int .u8 0), .lit (.int .u8 0)], .agg [.lit (.int .u8 0), .lit (.int .u8 0)], .agg [.lit (.int .u8 0), .lit (.int .u8 0)]]
/-- One of Go's own tables, pinned by name: the form's constant. -/
def laid_unicode_utf8_first : DataW Unit := Go.Pinned.utf8First

/-- 'fundadminlaw18.PositionSpoilt': WHATEVER THE INPUT: true; the input reads as it did. -/
def positionSpoiltSpec : ChangeSpec := { name := "positionSpoilt", fn := fun _ => fun
  | [d1, d2] => { results := [.lit (.bool true)], args := [d1, d2] }
  | _ => none }
def positionSpoiltRow : OpenClaim := { program := "ytekfkdddadcalaagreatdoor", sum := "ea6d2ce873f76aadba0047ca56b7bd4726a9dd4da58da97d5519e75718d0e10a", func := "fundadmin/fundadminlaw18.PositionSpoilt", spec := "positionSpoilt", inPlace := ["internal/abi.NoEscape", "internal/bytealg.MakeNoZero", "internal/bytealg.IndexByteString", "internal/bytealg.IndexString", "internal/bytealg.abigen_runtime_cmpstring", "slices.overlaps[fundadmin/position.sum[string]]", "slices.overlaps[fundadmin/position.sum[fundadmin/position.money]]"], unfollowed := true, recurses := true, named := ["math/bits.overflowError", "unicode/utf8.first", "unicode/utf8.acceptRanges", "internal/bytealg.MaxLen"], apart := false, laid := [("unicode/utf8.acceptRanges", laid_unicode_utf8_acceptRanges), ("unicode/utf8.first", laid_unicode_utf8_first)] }
def PositionSpoiltSaid : Prop := positionSpoiltRow.holds Tryz.pinned (OpenSpec.ofChange positionSpoiltSpec)

/-- ITS FALSE NEIGHBOUR: 'it returns false'. Refute it at one input. -/
def positionSpoiltWrong : ChangeSpec := { name := "positionSpoilt", fn := fun _ => fun
  | [d1, d2] => { results := [.lit (.bool false)], args := [d1, d2] }
  | _ => none }
def PositionSpoiltWrongFalsely : Prop := positionSpoiltRow.holds Tryz.pinned (OpenSpec.ofChange positionSpoiltWrong)

/-- 'fundadminlaw18.PositionSums': WHATEVER THE INPUT: true; the input reads as it did. -/
def positionSumsSpec : ChangeSpec := { name := "positionSums", fn := fun _ => fun
  | [d] => { results := [.lit (.bool true)], args := [d] }
  | _ => none }
def positionSumsRow : OpenClaim := { program := "ytekfkdddadcalaagreatdoor", sum := "ea6d2ce873f76aadba0047ca56b7bd4726a9dd4da58da97d5519e75718d0e10a", func := "fundadmin/fundadminlaw18.PositionSums", spec := "positionSums", inPlace := ["internal/abi.NoEscape", "internal/bytealg.MakeNoZero", "internal/bytealg.IndexByteString", "internal/bytealg.IndexString", "internal/bytealg.abigen_runtime_cmpstring", "slices.overlaps[fundadmin/position.sum[string]]", "slices.overlaps[fundadmin/position.sum[fundadmin/position.money]]"], unfollowed := true, recurses := true, named := ["math/bits.overflowError", "unicode/utf8.first", "unicode/utf8.acceptRanges", "internal/bytealg.MaxLen"], apart := false, laid := [("unicode/utf8.acceptRanges", laid_unicode_utf8_acceptRanges), ("unicode/utf8.first", laid_unicode_utf8_first)] }
def PositionSumsSaid : Prop := positionSumsRow.holds Tryz.pinned (OpenSpec.ofChange positionSumsSpec)

/-- ITS FALSE NEIGHBOUR: 'it returns false'. Refute it at one input. -/
def positionSumsWrong : ChangeSpec := { name := "positionSums", fn := fun _ => fun
  | [d] => { results := [.lit (.bool false)], args := [d] }
  | _ => none }
def PositionSumsWrongFalsely : Prop := positionSumsRow.holds Tryz.pinned (OpenSpec.ofChange positionSumsWrong)

/-- 'fundadminlaw18.PositionLater': WHATEVER THE INPUT: true; the input reads as it did. -/
def positionLaterSpec : ChangeSpec := { name := "positionLater", fn := fun _ => fun
  | [d] => { results := [.lit (.bool true)], args := [d] }
  | _ => none }
def positionLaterRow : OpenClaim := { program := "ytekfkdddadcalaagreatdoor", sum := "ea6d2ce873f76aadba0047ca56b7bd4726a9dd4da58da97d5519e75718d0e10a", func := "fundadmin/fundadminlaw18.PositionLater", spec := "positionLater", inPlace := ["internal/abi.NoEscape", "internal/bytealg.MakeNoZero", "internal/bytealg.IndexByteString", "internal/bytealg.IndexString", "internal/bytealg.abigen_runtime_cmpstring", "slices.overlaps[fundadmin/position.sum[string]]", "slices.overlaps[fundadmin/position.sum[fundadmin/position.money]]"], unfollowed := true, recurses := true, named := ["math/bits.overflowError", "unicode/utf8.first", "unicode/utf8.acceptRanges", "internal/bytealg.MaxLen"], apart := false, laid := [("unicode/utf8.acceptRanges", laid_unicode_utf8_acceptRanges), ("unicode/utf8.first", laid_unicode_utf8_first)] }
def PositionLaterSaid : Prop := positionLaterRow.holds Tryz.pinned (OpenSpec.ofChange positionLaterSpec)

/-- ITS FALSE NEIGHBOUR: 'it returns false'. Refute it at one input. -/
def positionLaterWrong : ChangeSpec := { name := "positionLater", fn := fun _ => fun
  | [d] => { results := [.lit (.bool false)], args := [d] }
  | _ => none }
def PositionLaterWrongFalsely : Prop := positionLaterRow.holds Tryz.pinned (OpenSpec.ofChange positionLaterWrong)

/-- 'fundadminlaw18.PositionOrder': WHATEVER THE INPUT: true; the input reads as it did. -/
def positionOrderSpec : ChangeSpec := { name := "positionOrder", fn := fun _ => fun
  | [d] => { results := [.lit (.bool true)], args := [d] }
  | _ => none }
def positionOrderRow : OpenClaim := { program := "ytekfkdddadcalaagreatdoor", sum := "ea6d2ce873f76aadba0047ca56b7bd4726a9dd4da58da97d5519e75718d0e10a", func := "fundadmin/fundadminlaw18.PositionOrder", spec := "positionOrder", inPlace := ["internal/abi.NoEscape", "internal/bytealg.MakeNoZero", "internal/bytealg.IndexByteString", "internal/bytealg.IndexString", "internal/bytealg.abigen_runtime_cmpstring", "slices.overlaps[fundadmin/position.sum[string]]", "slices.overlaps[fundadmin/position.sum[fundadmin/position.money]]"], unfollowed := true, recurses := true, named := ["math/bits.overflowError", "unicode/utf8.first", "unicode/utf8.acceptRanges", "internal/bytealg.MaxLen"], apart := false, laid := [("unicode/utf8.acceptRanges", laid_unicode_utf8_acceptRanges), ("unicode/utf8.first", laid_unicode_utf8_first)] }
def PositionOrderSaid : Prop := positionOrderRow.holds Tryz.pinned (OpenSpec.ofChange positionOrderSpec)

/-- ITS FALSE NEIGHBOUR: 'it returns false'. Refute it at one input. -/
def positionOrderWrong : ChangeSpec := { name := "positionOrder", fn := fun _ => fun
  | [d] => { results := [.lit (.bool false)], args := [d] }
  | _ => none }
def PositionOrderWrongFalsely : Prop := positionOrderRow.holds Tryz.pinned (OpenSpec.ofChange positionOrderWrong)

/-- 'fundadminlaw18.PositionSettles': WHATEVER THE INPUT: true; the input reads as it did. -/
def positionSettlesSpec : ChangeSpec := { name := "positionSettles", fn := fun _ => fun
  | [d] => { results := [.lit (.bool true)], args := [d] }
  | _ => none }
def positionSettlesRow : OpenClaim := { program := "ytekfkdddadcalaagreatdoor", sum := "ea6d2ce873f76aadba0047ca56b7bd4726a9dd4da58da97d5519e75718d0e10a", func := "fundadmin/fundadminlaw18.PositionSettles", spec := "positionSettles", inPlace := ["internal/abi.NoEscape", "internal/bytealg.MakeNoZero", "internal/bytealg.IndexByteString", "internal/bytealg.IndexString", "internal/bytealg.abigen_runtime_cmpstring", "slices.overlaps[fundadmin/position.sum[string]]", "slices.overlaps[fundadmin/position.sum[fundadmin/position.money]]"], unfollowed := true, recurses := true, named := ["math/bits.overflowError", "unicode/utf8.first", "unicode/utf8.acceptRanges", "internal/bytealg.MaxLen"], apart := false, laid := [("unicode/utf8.acceptRanges", laid_unicode_utf8_acceptRanges), ("unicode/utf8.first", laid_unicode_utf8_first)] }
def PositionSettlesSaid : Prop := positionSettlesRow.holds Tryz.pinned (OpenSpec.ofChange positionSettlesSpec)

/-- ITS FALSE NEIGHBOUR: 'it returns false'. Refute it at one input. -/
def positionSettlesWrong : ChangeSpec := { name := "positionSettles", fn := fun _ => fun
  | [d] => { results := [.lit (.bool false)], args := [d] }
  | _ => none }
def PositionSettlesWrongFalsely : Prop := positionSettlesRow.holds Tryz.pinned (OpenSpec.ofChange positionSettlesWrong)

/-- 'fundadminlaw18.PositionCorrects': WHATEVER THE INPUT: true; the input reads as it did. -/
def positionCorrectsSpec : ChangeSpec := { name := "positionCorrects", fn := fun _ => fun
  | [d] => { results := [.lit (.bool true)], args := [d] }
  | _ => none }
def positionCorrectsRow : OpenClaim := { program := "ytekfkdddadcalaagreatdoor", sum := "ea6d2ce873f76aadba0047ca56b7bd4726a9dd4da58da97d5519e75718d0e10a", func := "fundadmin/fundadminlaw18.PositionCorrects", spec := "positionCorrects", inPlace := ["internal/abi.NoEscape", "internal/bytealg.MakeNoZero", "internal/bytealg.IndexByteString", "internal/bytealg.IndexString", "internal/bytealg.abigen_runtime_cmpstring", "slices.overlaps[fundadmin/position.sum[string]]", "slices.overlaps[fundadmin/position.sum[fundadmin/position.money]]"], unfollowed := true, recurses := true, named := ["math/bits.overflowError", "unicode/utf8.first", "unicode/utf8.acceptRanges", "internal/bytealg.MaxLen"], apart := false, laid := [("unicode/utf8.acceptRanges", laid_unicode_utf8_acceptRanges), ("unicode/utf8.first", laid_unicode_utf8_first)] }
def PositionCorrectsSaid : Prop := positionCorrectsRow.holds Tryz.pinned (OpenSpec.ofChange positionCorrectsSpec)

/-- ITS FALSE NEIGHBOUR: 'it returns false'. Refute it at one input. -/
def positionCorrectsWrong : ChangeSpec := { name := "positionCorrects", fn := fun _ => fun
  | [d] => { results := [.lit (.bool false)], args := [d] }
  | _ => none }
def PositionCorrectsWrongFalsely : Prop := positionCorrectsRow.holds Tryz.pinned (OpenSpec.ofChange positionCorrectsWrong)

/-- 'fundadminlaw18.PositionPlays': WHATEVER THE INPUT: true; the input reads as it did. -/
def positionPlaysSpec : ChangeSpec := { name := "positionPlays", fn := fun _ => fun
  | [d] => { results := [.lit (.bool true)], args := [d] }
  | _ => none }
def positionPlaysRow : OpenClaim := { program := "ytekfkdddadcalaagreatdoor", sum := "ea6d2ce873f76aadba0047ca56b7bd4726a9dd4da58da97d5519e75718d0e10a", func := "fundadmin/fundadminlaw18.PositionPlays", spec := "positionPlays", inPlace := ["internal/abi.NoEscape", "internal/bytealg.MakeNoZero", "internal/bytealg.IndexByteString", "internal/bytealg.IndexString", "internal/bytealg.abigen_runtime_cmpstring", "slices.overlaps[fundadmin/position.sum[string]]", "slices.overlaps[fundadmin/position.sum[fundadmin/position.money]]"], unfollowed := true, recurses := true, named := ["math/bits.overflowError", "unicode/utf8.first", "unicode/utf8.acceptRanges", "internal/bytealg.MaxLen"], apart := false, laid := [("unicode/utf8.acceptRanges", laid_unicode_utf8_acceptRanges), ("unicode/utf8.first", laid_unicode_utf8_first)] }
def PositionPlaysSaid : Prop := positionPlaysRow.holds Tryz.pinned (OpenSpec.ofChange positionPlaysSpec)

/-- ITS FALSE NEIGHBOUR: 'it returns false'. Refute it at one input. -/
def positionPlaysWrong : ChangeSpec := { name := "positionPlays", fn := fun _ => fun
  | [d] => { results := [.lit (.bool false)], args := [d] }
  | _ => none }
def PositionPlaysWrongFalsely : Prop := positionPlaysRow.holds Tryz.pinned (OpenSpec.ofChange positionPlaysWrong)

/-- 'fundadminlaw18.PositionBent': WHATEVER THE INPUT: true; the input reads as it did. -/
def positionBentSpec : ChangeSpec := { name := "positionBent", fn := fun _ => fun
  | [d1, d2] => { results := [.lit (.bool true)], args := [d1, d2] }
  | _ => none }
def positionBentRow : OpenClaim := { program := "ytekfkdddadcalaagreatdoor", sum := "ea6d2ce873f76aadba0047ca56b7bd4726a9dd4da58da97d5519e75718d0e10a", func := "fundadmin/fundadminlaw18.PositionBent", spec := "positionBent", inPlace := ["internal/bytealg.abigen_runtime_cmpstring", "internal/abi.NoEscape", "internal/bytealg.MakeNoZero", "internal/bytealg.IndexByteString", "internal/bytealg.IndexString", "slices.overlaps[fundadmin/position.sum[string]]", "slices.overlaps[fundadmin/position.sum[fundadmin/position.money]]"], unfollowed := true, recurses := true, named := ["math/bits.overflowError", "unicode/utf8.first", "unicode/utf8.acceptRanges", "internal/bytealg.MaxLen"], apart := false, laid := [("unicode/utf8.acceptRanges", laid_unicode_utf8_acceptRanges), ("unicode/utf8.first", laid_unicode_utf8_first)] }
def PositionBentSaid : Prop := positionBentRow.holds Tryz.pinned (OpenSpec.ofChange positionBentSpec)

/-- ITS FALSE NEIGHBOUR: 'it returns false'. Refute it at one input. -/
def positionBentWrong : ChangeSpec := { name := "positionBent", fn := fun _ => fun
  | [d1, d2] => { results := [.lit (.bool false)], args := [d1, d2] }
  | _ => none }
def PositionBentWrongFalsely : Prop := positionBentRow.holds Tryz.pinned (OpenSpec.ofChange positionBentWrong)

/- THE SECOND FORM. 'bulk': how many values and letters a reading holds, each counted each time it is reached (what is shared counts as often as it is met; a slice's spare places count too). A statement '..UptoSaid' is the law's where the arguments, and the package variables that the reading takes, are together of bulk at most 1048576: NARROWER than '..Said'. Prove '..Said' where nothing that the law and all that it calls make is longer than what came in: it says more and counts as full. Else prove '..UptoSaid'. A law counts once. -/
mutual
def uptoBulk {H : Type} : DataW H → Nat
  | .lit (.string bytes) => bytes.length + 1
  | .lit _ => 1
  | .nil => 1
  | .ptr d => uptoBulk d + 1
  | .slice elems spare => uptoBulkAll elems + uptoBulkAll spare + 1
  | .agg parts => uptoBulkAll parts + 1
  | .iface _ d => uptoBulk d + 1
  | .map entries => uptoBulkEntries entries + 1
  | .held _ => 1
def uptoBulkAll {H : Type} : List (DataW H) → Nat
  | [] => 0
  | d :: r => uptoBulk d + uptoBulkAll r
def uptoBulkEntries {H : Type} : List (Lit × DataW H) → Nat
  | [] => 0
  | x :: r => uptoBulkEntry x + uptoBulkEntries r
def uptoBulkEntry {H : Type} : Lit × DataW H → Nat
  | (.string bytes, d) => bytes.length + uptoBulk d + 1
  | (_, d) => uptoBulk d + 1
 end
def uptoSmall : (H : Type) → List (DataW H) → Bool := fun _ ds => decide (uptoBulkAll ds ≤ 1048576)
def OpenSpec.upto (s : _root_.Go.ChangeSpec) : _root_.Go.OpenSpec := { _root_.Go.OpenSpec.ofChange s with cond := some uptoSmall }

/-- 'fundadminlaw18.PositionSpoilt', WHERE WHAT IT READS IS OF BULK AT MOST 1048576: true; the input reads as it did. -/
def positionSpoiltUptoRow : OpenClaim := { program := "ytekfkdddadcalaagreatdoor", sum := "ea6d2ce873f76aadba0047ca56b7bd4726a9dd4da58da97d5519e75718d0e10a", func := "fundadmin/fundadminlaw18.PositionSpoilt", spec := "positionSpoilt", inPlace := ["internal/abi.NoEscape", "internal/bytealg.MakeNoZero", "internal/bytealg.IndexByteString", "internal/bytealg.IndexString", "internal/bytealg.abigen_runtime_cmpstring", "slices.overlaps[fundadmin/position.sum[string]]", "slices.overlaps[fundadmin/position.sum[fundadmin/position.money]]"], unfollowed := true, recurses := true, named := ["math/bits.overflowError", "unicode/utf8.first", "unicode/utf8.acceptRanges", "internal/bytealg.MaxLen"], apart := false, laid := [("unicode/utf8.acceptRanges", laid_unicode_utf8_acceptRanges), ("unicode/utf8.first", laid_unicode_utf8_first)], narrowed := true }
def PositionSpoiltUptoSaid : Prop := positionSpoiltUptoRow.holds Tryz.pinned (OpenSpec.upto positionSpoiltSpec)

/-- 'fundadminlaw18.PositionSums', WHERE WHAT IT READS IS OF BULK AT MOST 1048576: true; the input reads as it did. -/
def positionSumsUptoRow : OpenClaim := { program := "ytekfkdddadcalaagreatdoor", sum := "ea6d2ce873f76aadba0047ca56b7bd4726a9dd4da58da97d5519e75718d0e10a", func := "fundadmin/fundadminlaw18.PositionSums", spec := "positionSums", inPlace := ["internal/abi.NoEscape", "internal/bytealg.MakeNoZero", "internal/bytealg.IndexByteString", "internal/bytealg.IndexString", "internal/bytealg.abigen_runtime_cmpstring", "slices.overlaps[fundadmin/position.sum[string]]", "slices.overlaps[fundadmin/position.sum[fundadmin/position.money]]"], unfollowed := true, recurses := true, named := ["math/bits.overflowError", "unicode/utf8.first", "unicode/utf8.acceptRanges", "internal/bytealg.MaxLen"], apart := false, laid := [("unicode/utf8.acceptRanges", laid_unicode_utf8_acceptRanges), ("unicode/utf8.first", laid_unicode_utf8_first)], narrowed := true }
def PositionSumsUptoSaid : Prop := positionSumsUptoRow.holds Tryz.pinned (OpenSpec.upto positionSumsSpec)

/-- 'fundadminlaw18.PositionLater', WHERE WHAT IT READS IS OF BULK AT MOST 1048576: true; the input reads as it did. -/
def positionLaterUptoRow : OpenClaim := { program := "ytekfkdddadcalaagreatdoor", sum := "ea6d2ce873f76aadba0047ca56b7bd4726a9dd4da58da97d5519e75718d0e10a", func := "fundadmin/fundadminlaw18.PositionLater", spec := "positionLater", inPlace := ["internal/abi.NoEscape", "internal/bytealg.MakeNoZero", "internal/bytealg.IndexByteString", "internal/bytealg.IndexString", "internal/bytealg.abigen_runtime_cmpstring", "slices.overlaps[fundadmin/position.sum[string]]", "slices.overlaps[fundadmin/position.sum[fundadmin/position.money]]"], unfollowed := true, recurses := true, named := ["math/bits.overflowError", "unicode/utf8.first", "unicode/utf8.acceptRanges", "internal/bytealg.MaxLen"], apart := false, laid := [("unicode/utf8.acceptRanges", laid_unicode_utf8_acceptRanges), ("unicode/utf8.first", laid_unicode_utf8_first)], narrowed := true }
def PositionLaterUptoSaid : Prop := positionLaterUptoRow.holds Tryz.pinned (OpenSpec.upto positionLaterSpec)

/-- 'fundadminlaw18.PositionOrder', WHERE WHAT IT READS IS OF BULK AT MOST 1048576: true; the input reads as it did. -/
def positionOrderUptoRow : OpenClaim := { program := "ytekfkdddadcalaagreatdoor", sum := "ea6d2ce873f76aadba0047ca56b7bd4726a9dd4da58da97d5519e75718d0e10a", func := "fundadmin/fundadminlaw18.PositionOrder", spec := "positionOrder", inPlace := ["internal/abi.NoEscape", "internal/bytealg.MakeNoZero", "internal/bytealg.IndexByteString", "internal/bytealg.IndexString", "internal/bytealg.abigen_runtime_cmpstring", "slices.overlaps[fundadmin/position.sum[string]]", "slices.overlaps[fundadmin/position.sum[fundadmin/position.money]]"], unfollowed := true, recurses := true, named := ["math/bits.overflowError", "unicode/utf8.first", "unicode/utf8.acceptRanges", "internal/bytealg.MaxLen"], apart := false, laid := [("unicode/utf8.acceptRanges", laid_unicode_utf8_acceptRanges), ("unicode/utf8.first", laid_unicode_utf8_first)], narrowed := true }
def PositionOrderUptoSaid : Prop := positionOrderUptoRow.holds Tryz.pinned (OpenSpec.upto positionOrderSpec)

/-- 'fundadminlaw18.PositionSettles', WHERE WHAT IT READS IS OF BULK AT MOST 1048576: true; the input reads as it did. -/
def positionSettlesUptoRow : OpenClaim := { program := "ytekfkdddadcalaagreatdoor", sum := "ea6d2ce873f76aadba0047ca56b7bd4726a9dd4da58da97d5519e75718d0e10a", func := "fundadmin/fundadminlaw18.PositionSettles", spec := "positionSettles", inPlace := ["internal/abi.NoEscape", "internal/bytealg.MakeNoZero", "internal/bytealg.IndexByteString", "internal/bytealg.IndexString", "internal/bytealg.abigen_runtime_cmpstring", "slices.overlaps[fundadmin/position.sum[string]]", "slices.overlaps[fundadmin/position.sum[fundadmin/position.money]]"], unfollowed := true, recurses := true, named := ["math/bits.overflowError", "unicode/utf8.first", "unicode/utf8.acceptRanges", "internal/bytealg.MaxLen"], apart := false, laid := [("unicode/utf8.acceptRanges", laid_unicode_utf8_acceptRanges), ("unicode/utf8.first", laid_unicode_utf8_first)], narrowed := true }
def PositionSettlesUptoSaid : Prop := positionSettlesUptoRow.holds Tryz.pinned (OpenSpec.upto positionSettlesSpec)

/-- 'fundadminlaw18.PositionCorrects', WHERE WHAT IT READS IS OF BULK AT MOST 1048576: true; the input reads as it did. -/
def positionCorrectsUptoRow : OpenClaim := { program := "ytekfkdddadcalaagreatdoor", sum := "ea6d2ce873f76aadba0047ca56b7bd4726a9dd4da58da97d5519e75718d0e10a", func := "fundadmin/fundadminlaw18.PositionCorrects", spec := "positionCorrects", inPlace := ["internal/abi.NoEscape", "internal/bytealg.MakeNoZero", "internal/bytealg.IndexByteString", "internal/bytealg.IndexString", "internal/bytealg.abigen_runtime_cmpstring", "slices.overlaps[fundadmin/position.sum[string]]", "slices.overlaps[fundadmin/position.sum[fundadmin/position.money]]"], unfollowed := true, recurses := true, named := ["math/bits.overflowError", "unicode/utf8.first", "unicode/utf8.acceptRanges", "internal/bytealg.MaxLen"], apart := false, laid := [("unicode/utf8.acceptRanges", laid_unicode_utf8_acceptRanges), ("unicode/utf8.first", laid_unicode_utf8_first)], narrowed := true }
def PositionCorrectsUptoSaid : Prop := positionCorrectsUptoRow.holds Tryz.pinned (OpenSpec.upto positionCorrectsSpec)

/-- 'fundadminlaw18.PositionPlays', WHERE WHAT IT READS IS OF BULK AT MOST 1048576: true; the input reads as it did. -/
def positionPlaysUptoRow : OpenClaim := { program := "ytekfkdddadcalaagreatdoor", sum := "ea6d2ce873f76aadba0047ca56b7bd4726a9dd4da58da97d5519e75718d0e10a", func := "fundadmin/fundadminlaw18.PositionPlays", spec := "positionPlays", inPlace := ["internal/abi.NoEscape", "internal/bytealg.MakeNoZero", "internal/bytealg.IndexByteString", "internal/bytealg.IndexString", "internal/bytealg.abigen_runtime_cmpstring", "slices.overlaps[fundadmin/position.sum[string]]", "slices.overlaps[fundadmin/position.sum[fundadmin/position.money]]"], unfollowed := true, recurses := true, named := ["math/bits.overflowError", "unicode/utf8.first", "unicode/utf8.acceptRanges", "internal/bytealg.MaxLen"], apart := false, laid := [("unicode/utf8.acceptRanges", laid_unicode_utf8_acceptRanges), ("unicode/utf8.first", laid_unicode_utf8_first)], narrowed := true }
def PositionPlaysUptoSaid : Prop := positionPlaysUptoRow.holds Tryz.pinned (OpenSpec.upto positionPlaysSpec)

/-- 'fundadminlaw18.PositionBent', WHERE WHAT IT READS IS OF BULK AT MOST 1048576: true; the input reads as it did. -/
def positionBentUptoRow : OpenClaim := { program := "ytekfkdddadcalaagreatdoor", sum := "ea6d2ce873f76aadba0047ca56b7bd4726a9dd4da58da97d5519e75718d0e10a", func := "fundadmin/fundadminlaw18.PositionBent", spec := "positionBent", inPlace := ["internal/bytealg.abigen_runtime_cmpstring", "internal/abi.NoEscape", "internal/bytealg.MakeNoZero", "internal/bytealg.IndexByteString", "internal/bytealg.IndexString", "slices.overlaps[fundadmin/position.sum[string]]", "slices.overlaps[fundadmin/position.sum[fundadmin/position.money]]"], unfollowed := true, recurses := true, named := ["math/bits.overflowError", "unicode/utf8.first", "unicode/utf8.acceptRanges", "internal/bytealg.MaxLen"], apart := false, laid := [("unicode/utf8.acceptRanges", laid_unicode_utf8_acceptRanges), ("unicode/utf8.first", laid_unicode_utf8_first)], narrowed := true }
def PositionBentUptoSaid : Prop := positionBentUptoRow.holds Tryz.pinned (OpenSpec.upto positionBentSpec)

end Rows
end Go.Proofs.YtekfkdddadcalaaGreatDoor
