/-
  No cell of these rows narrows 'for every input' (looked for: loops, veiled, ifaces, maps, wideKeys, modest, calm, conditions, laid).
  DERIVED. THE GIVEN ROWS OF THIS SEAT. 4 by the template 'for every input the law returns true; each argument reads behind the call as it read before'; 0 by the template 'total and deterministic' (their statements: YtfnjcjoomaeapaaTotals.lean).
  GIVEN WITH THE SEED: the statements are not yours to turn. If you find one false, say at which input.
  Laid BY PROGRAM, IN A SANDBOX (cutbox-rows.mjs): the forced cells as the released guide's own fill.sh prints them over the translation 42dc23b0e86e472e… (all of the seat's roots in one cut). By AI agents, Wed Nov 11 2026. No macro, syntax, notation, axiom, sorry.
-/
import Derived.Test.YtfnjcjoomaeapaaChecked
import GoSem.Claim
import GoSem.ClaimJoined
import GoSem.ClaimMapViews
import Derived.JoinedTies
import Derived.KernelRfl
namespace Go.Proofs.Ytfnjcjoomaeapaa
/- THE CELL 'sum', in the pinned program and in every row, IS THE sha256 OF THE DUMP (.gsa) THAT YtfnjcjoomaeapaaProg.lean LOADS. Nothing in Lean hashes anything: it is a label: what it is worth is what the hold of that sum in a sandbox is worth. -/
noncomputable def Try.pinned : Pinned := { name := "ytfnjcjoomaeapaa", sum := "42dc23b0e86e472e4ab0748655ede6bb217f3769160a485d21218aeeec219f22", checked := Try.checked }
namespace Rows
def none {H : Type} : Left H := { results := [], args := [] }

/-- 'fundadminlaw34.NestingOrders': WHATEVER THE INPUT: true; the input reads as it did. -/
def nestingOrdersSpec : ChangeSpec := { name := "nestingOrders", fn := fun _ => fun
  | [d1, d2] => { results := [.lit (.bool true)], args := [d1, d2] }
  | _ => none }
def nestingOrdersRow : OpenClaim := { program := "ytfnjcjoomaeapaa", sum := "42dc23b0e86e472e4ab0748655ede6bb217f3769160a485d21218aeeec219f22", func := "fundadmin/fundadminlaw34.NestingOrders", spec := "nestingOrders", unfollowed := true, recurses := true, apart := false }
def NestingOrdersSaid : Prop := nestingOrdersRow.holds Try.pinned (OpenSpec.ofChange nestingOrdersSpec)

/-- ITS FALSE NEIGHBOUR: 'it returns false'. Refute it at one input. -/
def nestingOrdersWrong : ChangeSpec := { name := "nestingOrders", fn := fun _ => fun
  | [d1, d2] => { results := [.lit (.bool false)], args := [d1, d2] }
  | _ => none }
def NestingOrdersWrongFalsely : Prop := nestingOrdersRow.holds Try.pinned (OpenSpec.ofChange nestingOrdersWrong)

/-- 'fundadminlaw34.NestingIgnoresNumbers': WHATEVER THE INPUT: true; the input reads as it did. -/
def nestingIgnoresNumbersSpec : ChangeSpec := { name := "nestingIgnoresNumbers", fn := fun _ => fun
  | [d1, d2, d3] => { results := [.lit (.bool true)], args := [d1, d2, d3] }
  | _ => none }
def nestingIgnoresNumbersRow : OpenClaim := { program := "ytfnjcjoomaeapaa", sum := "42dc23b0e86e472e4ab0748655ede6bb217f3769160a485d21218aeeec219f22", func := "fundadmin/fundadminlaw34.NestingIgnoresNumbers", spec := "nestingIgnoresNumbers", unfollowed := true, recurses := true, apart := false }
def NestingIgnoresNumbersSaid : Prop := nestingIgnoresNumbersRow.holds Try.pinned (OpenSpec.ofChange nestingIgnoresNumbersSpec)

/-- ITS FALSE NEIGHBOUR: 'it returns false'. Refute it at one input. -/
def nestingIgnoresNumbersWrong : ChangeSpec := { name := "nestingIgnoresNumbers", fn := fun _ => fun
  | [d1, d2, d3] => { results := [.lit (.bool false)], args := [d1, d2, d3] }
  | _ => none }
def NestingIgnoresNumbersWrongFalsely : Prop := nestingIgnoresNumbersRow.holds Try.pinned (OpenSpec.ofChange nestingIgnoresNumbersWrong)

/-- 'fundadminlaw34.NestingTells': WHATEVER THE INPUT: true; the input reads as it did. -/
def nestingTellsSpec : ChangeSpec := { name := "nestingTells", fn := fun _ => fun
  | [d1, d2] => { results := [.lit (.bool true)], args := [d1, d2] }
  | _ => none }
def nestingTellsRow : OpenClaim := { program := "ytfnjcjoomaeapaa", sum := "42dc23b0e86e472e4ab0748655ede6bb217f3769160a485d21218aeeec219f22", func := "fundadmin/fundadminlaw34.NestingTells", spec := "nestingTells", unfollowed := true, recurses := true, apart := false }
def NestingTellsSaid : Prop := nestingTellsRow.holds Try.pinned (OpenSpec.ofChange nestingTellsSpec)

/-- ITS FALSE NEIGHBOUR: 'it returns false'. Refute it at one input. -/
def nestingTellsWrong : ChangeSpec := { name := "nestingTells", fn := fun _ => fun
  | [d1, d2] => { results := [.lit (.bool false)], args := [d1, d2] }
  | _ => none }
def NestingTellsWrongFalsely : Prop := nestingTellsRow.holds Try.pinned (OpenSpec.ofChange nestingTellsWrong)

/-- 'fundadminlaw34.NestingOfMadeFunds': WHATEVER THE INPUT: true; the input reads as it did. -/
def nestingOfMadeFundsSpec : ChangeSpec := { name := "nestingOfMadeFunds", fn := fun _ => fun
  | [d1, d2, d3] => { results := [.lit (.bool true)], args := [d1, d2, d3] }
  | _ => none }
def nestingOfMadeFundsRow : OpenClaim := { program := "ytfnjcjoomaeapaa", sum := "42dc23b0e86e472e4ab0748655ede6bb217f3769160a485d21218aeeec219f22", func := "fundadmin/fundadminlaw34.NestingOfMadeFunds", spec := "nestingOfMadeFunds", unfollowed := true, recurses := true, apart := false }
def NestingOfMadeFundsSaid : Prop := nestingOfMadeFundsRow.holds Try.pinned (OpenSpec.ofChange nestingOfMadeFundsSpec)

/-- ITS FALSE NEIGHBOUR: 'it returns false'. Refute it at one input. -/
def nestingOfMadeFundsWrong : ChangeSpec := { name := "nestingOfMadeFunds", fn := fun _ => fun
  | [d1, d2, d3] => { results := [.lit (.bool false)], args := [d1, d2, d3] }
  | _ => none }
def NestingOfMadeFundsWrongFalsely : Prop := nestingOfMadeFundsRow.holds Try.pinned (OpenSpec.ofChange nestingOfMadeFundsWrong)

/- THE SECOND FORM. 'bulk': how many values and letters a reading holds, each counted each time it is reached (what is shared counts as often as it is met; a slice's spare places count too). A statement '..UptoSaid' is the law's where the arguments, and the package variables that the reading takes, are together of bulk at most 1048576: NARROWER than '..Said'. Prove '..Said' where nothing that the law and all that it calls make is longer than what came in: it says more and counts as full. Else prove '..UptoSaid'. A law counts once. -/
mutual
def uptoBulk {H : Type} : DataW H → Nat
  | .lit (.string bytes) => bytes.length + 1
  | .lit _ => 1
  | .nil => 1
  | .ptr d => uptoBulk d + 1
  | .slice elems spare => uptoBulkAll elems + uptoBulkAll spare + 1
  | .agg parts => uptoBulkAll parts + 1
  | .iface _ d => uptoBulk d + 1
  | .map entries => uptoBulkEntries entries + 1
  | .held _ => 1
def uptoBulkAll {H : Type} : List (DataW H) → Nat
  | [] => 0
  | d :: r => uptoBulk d + uptoBulkAll r
def uptoBulkEntries {H : Type} : List (Lit × DataW H) → Nat
  | [] => 0
  | x :: r => uptoBulkEntry x + uptoBulkEntries r
def uptoBulkEntry {H : Type} : Lit × DataW H → Nat
  | (.string bytes, d) => bytes.length + uptoBulk d + 1
  | (_, d) => uptoBulk d + 1
 end
def uptoSmall : (H : Type) → List (DataW H) → Bool := fun _ ds => decide (uptoBulkAll ds ≤ 1048576)
def OpenSpec.upto (s : _root_.Go.ChangeSpec) : _root_.Go.OpenSpec := { _root_.Go.OpenSpec.ofChange s with cond := some uptoSmall }

/-- 'fundadminlaw34.NestingOrders', WHERE WHAT IT READS IS OF BULK AT MOST 1048576: true; the input reads as it did. -/
def nestingOrdersUptoRow : OpenClaim := { program := "ytfnjcjoomaeapaa", sum := "42dc23b0e86e472e4ab0748655ede6bb217f3769160a485d21218aeeec219f22", func := "fundadmin/fundadminlaw34.NestingOrders", spec := "nestingOrders", unfollowed := true, recurses := true, apart := false, narrowed := true }
def NestingOrdersUptoSaid : Prop := nestingOrdersUptoRow.holds Try.pinned (OpenSpec.upto nestingOrdersSpec)

/-- 'fundadminlaw34.NestingIgnoresNumbers', WHERE WHAT IT READS IS OF BULK AT MOST 1048576: true; the input reads as it did. -/
def nestingIgnoresNumbersUptoRow : OpenClaim := { program := "ytfnjcjoomaeapaa", sum := "42dc23b0e86e472e4ab0748655ede6bb217f3769160a485d21218aeeec219f22", func := "fundadmin/fundadminlaw34.NestingIgnoresNumbers", spec := "nestingIgnoresNumbers", unfollowed := true, recurses := true, apart := false, narrowed := true }
def NestingIgnoresNumbersUptoSaid : Prop := nestingIgnoresNumbersUptoRow.holds Try.pinned (OpenSpec.upto nestingIgnoresNumbersSpec)

/-- 'fundadminlaw34.NestingTells', WHERE WHAT IT READS IS OF BULK AT MOST 1048576: true; the input reads as it did. -/
def nestingTellsUptoRow : OpenClaim := { program := "ytfnjcjoomaeapaa", sum := "42dc23b0e86e472e4ab0748655ede6bb217f3769160a485d21218aeeec219f22", func := "fundadmin/fundadminlaw34.NestingTells", spec := "nestingTells", unfollowed := true, recurses := true, apart := false, narrowed := true }
def NestingTellsUptoSaid : Prop := nestingTellsUptoRow.holds Try.pinned (OpenSpec.upto nestingTellsSpec)

/-- 'fundadminlaw34.NestingOfMadeFunds', WHERE WHAT IT READS IS OF BULK AT MOST 1048576: true; the input reads as it did. -/
def nestingOfMadeFundsUptoRow : OpenClaim := { program := "ytfnjcjoomaeapaa", sum := "42dc23b0e86e472e4ab0748655ede6bb217f3769160a485d21218aeeec219f22", func := "fundadmin/fundadminlaw34.NestingOfMadeFunds", spec := "nestingOfMadeFunds", unfollowed := true, recurses := true, apart := false, narrowed := true }
def NestingOfMadeFundsUptoSaid : Prop := nestingOfMadeFundsUptoRow.holds Try.pinned (OpenSpec.upto nestingOfMadeFundsSpec)

end Rows
end Go.Proofs.Ytfnjcjoomaeapaa
