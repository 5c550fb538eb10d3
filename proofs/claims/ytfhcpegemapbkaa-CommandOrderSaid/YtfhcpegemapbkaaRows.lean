/-
  No cell of these rows narrows 'for every input' (looked for: loops, veiled, ifaces, maps, wideKeys, modest, calm, conditions, laid).
  DERIVED. THE GIVEN ROWS OF THIS SEAT. 6 by the template 'for every input the law returns true; each argument reads behind the call as it read before'; 0 by the template 'total and deterministic' (their statements: YtfhcpegemapbkaaTotals.lean).
  GIVEN WITH THE SEED: the statements are not yours to turn. If you find one false, say at which input.
  Laid BY PROGRAM, IN A SANDBOX (cutbox-rows.mjs): the forced cells as the released guide's own fill.sh prints them over the translation 265d0ac116fea98d… (all of the seat's roots in one cut). By AI agents, Wed Nov 11 2026. No macro, syntax, notation, axiom, sorry.
-/
import Derived.Test.YtfhcpegemapbkaaChecked
import GoSem.Claim
import GoSem.ClaimJoined
import GoSem.ClaimMapViews
import Derived.JoinedTies
import Derived.KernelRfl
namespace Go.Proofs.Ytfhcpegemapbkaa
/- THE CELL 'sum', in the pinned program and in every row, IS THE sha256 OF THE DUMP (.gsa) THAT YtfhcpegemapbkaaProg.lean LOADS. Nothing in Lean hashes anything: it is a label: what it is worth is what the hold of that sum in a sandbox is worth. -/
noncomputable def Try.pinned : Pinned := { name := "ytfhcpegemapbkaa", sum := "265d0ac116fea98d64b23622088823686c349b3cdf71593ad3f4fc6e6289775c", checked := Try.checked }
namespace Rows
def none {H : Type} : Left H := { results := [], args := [] }

/-- 'ratoonlaw51.CommandParse': WHATEVER THE INPUT: true; the input reads as it did. -/
def commandParseSpec : ChangeSpec := { name := "commandParse", fn := fun _ => fun
  | [d] => { results := [.lit (.bool true)], args := [d] }
  | _ => none }
def commandParseRow : OpenClaim := { program := "ytfhcpegemapbkaa", sum := "265d0ac116fea98d64b23622088823686c349b3cdf71593ad3f4fc6e6289775c", func := "ratoon/ratoonlaw51.CommandParse", spec := "commandParse", inPlace := ["internal/bytealg.IndexByteString", "internal/abi.NoEscape", "internal/bytealg.MakeNoZero"], unfollowed := true, recurses := true, apart := false }
def CommandParseSaid : Prop := commandParseRow.holds Try.pinned (OpenSpec.ofChange commandParseSpec)

/-- ITS FALSE NEIGHBOUR: 'it returns false'. Refute it at one input. -/
def commandParseWrong : ChangeSpec := { name := "commandParse", fn := fun _ => fun
  | [d] => { results := [.lit (.bool false)], args := [d] }
  | _ => none }
def CommandParseWrongFalsely : Prop := commandParseRow.holds Try.pinned (OpenSpec.ofChange commandParseWrong)

/-- 'ratoonlaw51.CommandPrint': WHATEVER THE INPUT: true; the input reads as it did. -/
def commandPrintSpec : ChangeSpec := { name := "commandPrint", fn := fun _ => fun
  | [d] => { results := [.lit (.bool true)], args := [d] }
  | _ => none }
def commandPrintRow : OpenClaim := { program := "ytfhcpegemapbkaa", sum := "265d0ac116fea98d64b23622088823686c349b3cdf71593ad3f4fc6e6289775c", func := "ratoon/ratoonlaw51.CommandPrint", spec := "commandPrint", inPlace := ["internal/bytealg.IndexByteString", "internal/abi.NoEscape", "internal/bytealg.MakeNoZero"], unfollowed := true, recurses := true, apart := false }
def CommandPrintSaid : Prop := commandPrintRow.holds Try.pinned (OpenSpec.ofChange commandPrintSpec)

/-- ITS FALSE NEIGHBOUR: 'it returns false'. Refute it at one input. -/
def commandPrintWrong : ChangeSpec := { name := "commandPrint", fn := fun _ => fun
  | [d] => { results := [.lit (.bool false)], args := [d] }
  | _ => none }
def CommandPrintWrongFalsely : Prop := commandPrintRow.holds Try.pinned (OpenSpec.ofChange commandPrintWrong)

/-- 'ratoonlaw51.CommandEqual': WHATEVER THE INPUT: true; the input reads as it did. -/
def commandEqualSpec : ChangeSpec := { name := "commandEqual", fn := fun _ => fun
  | [d1, d2, d3] => { results := [.lit (.bool true)], args := [d1, d2, d3] }
  | _ => none }
def commandEqualRow : OpenClaim := { program := "ytfhcpegemapbkaa", sum := "265d0ac116fea98d64b23622088823686c349b3cdf71593ad3f4fc6e6289775c", func := "ratoon/ratoonlaw51.CommandEqual", spec := "commandEqual", inPlace := ["internal/bytealg.IndexByteString", "internal/abi.NoEscape", "internal/bytealg.MakeNoZero"], unfollowed := true, recurses := true, apart := false }
def CommandEqualSaid : Prop := commandEqualRow.holds Try.pinned (OpenSpec.ofChange commandEqualSpec)

/-- ITS FALSE NEIGHBOUR: 'it returns false'. Refute it at one input. -/
def commandEqualWrong : ChangeSpec := { name := "commandEqual", fn := fun _ => fun
  | [d1, d2, d3] => { results := [.lit (.bool false)], args := [d1, d2, d3] }
  | _ => none }
def CommandEqualWrongFalsely : Prop := commandEqualRow.holds Try.pinned (OpenSpec.ofChange commandEqualWrong)

/-- 'ratoonlaw51.CommandBlanks': WHATEVER THE INPUT: true; the input reads as it did. -/
def commandBlanksSpec : ChangeSpec := { name := "commandBlanks", fn := fun _ => fun
  | [d1, d2, d3] => { results := [.lit (.bool true)], args := [d1, d2, d3] }
  | _ => none }
def commandBlanksRow : OpenClaim := { program := "ytfhcpegemapbkaa", sum := "265d0ac116fea98d64b23622088823686c349b3cdf71593ad3f4fc6e6289775c", func := "ratoon/ratoonlaw51.CommandBlanks", spec := "commandBlanks", inPlace := ["internal/bytealg.IndexByteString", "internal/abi.NoEscape", "internal/bytealg.MakeNoZero"], unfollowed := true, recurses := true, apart := false }
def CommandBlanksSaid : Prop := commandBlanksRow.holds Try.pinned (OpenSpec.ofChange commandBlanksSpec)

/-- ITS FALSE NEIGHBOUR: 'it returns false'. Refute it at one input. -/
def commandBlanksWrong : ChangeSpec := { name := "commandBlanks", fn := fun _ => fun
  | [d1, d2, d3] => { results := [.lit (.bool false)], args := [d1, d2, d3] }
  | _ => none }
def CommandBlanksWrongFalsely : Prop := commandBlanksRow.holds Try.pinned (OpenSpec.ofChange commandBlanksWrong)

/-- 'ratoonlaw51.CommandJoined': WHATEVER THE INPUT: true; the input reads as it did. -/
def commandJoinedSpec : ChangeSpec := { name := "commandJoined", fn := fun _ => fun
  | [d1, d2, d3] => { results := [.lit (.bool true)], args := [d1, d2, d3] }
  | _ => none }
def commandJoinedRow : OpenClaim := { program := "ytfhcpegemapbkaa", sum := "265d0ac116fea98d64b23622088823686c349b3cdf71593ad3f4fc6e6289775c", func := "ratoon/ratoonlaw51.CommandJoined", spec := "commandJoined", inPlace := ["internal/bytealg.IndexByteString", "internal/abi.NoEscape", "internal/bytealg.MakeNoZero"], unfollowed := true, recurses := true, apart := false }
def CommandJoinedSaid : Prop := commandJoinedRow.holds Try.pinned (OpenSpec.ofChange commandJoinedSpec)

/-- ITS FALSE NEIGHBOUR: 'it returns false'. Refute it at one input. -/
def commandJoinedWrong : ChangeSpec := { name := "commandJoined", fn := fun _ => fun
  | [d1, d2, d3] => { results := [.lit (.bool false)], args := [d1, d2, d3] }
  | _ => none }
def CommandJoinedWrongFalsely : Prop := commandJoinedRow.holds Try.pinned (OpenSpec.ofChange commandJoinedWrong)

/-- 'ratoonlaw51.CommandOrder': WHATEVER THE INPUT: true; the input reads as it did. -/
def commandOrderSpec : ChangeSpec := { name := "commandOrder", fn := fun _ => fun
  | [d] => { results := [.lit (.bool true)], args := [d] }
  | _ => none }
def commandOrderRow : OpenClaim := { program := "ytfhcpegemapbkaa", sum := "265d0ac116fea98d64b23622088823686c349b3cdf71593ad3f4fc6e6289775c", func := "ratoon/ratoonlaw51.CommandOrder", spec := "commandOrder", inPlace := ["internal/bytealg.IndexByteString", "internal/abi.NoEscape", "internal/bytealg.MakeNoZero"], unfollowed := true, recurses := true, apart := false }
def CommandOrderSaid : Prop := commandOrderRow.holds Try.pinned (OpenSpec.ofChange commandOrderSpec)

/-- ITS FALSE NEIGHBOUR: 'it returns false'. Refute it at one input. -/
def commandOrderWrong : ChangeSpec := { name := "commandOrder", fn := fun _ => fun
  | [d] => { results := [.lit (.bool false)], args := [d] }
  | _ => none }
def CommandOrderWrongFalsely : Prop := commandOrderRow.holds Try.pinned (OpenSpec.ofChange commandOrderWrong)

/- THE SECOND FORM. 'bulk': how many values and letters a reading holds, each counted each time it is reached (what is shared counts as often as it is met; a slice's spare places count too). A statement '..UptoSaid' is the law's where the arguments, and the package variables that the reading takes, are together of bulk at most 1048576: NARROWER than '..Said'. Prove '..Said' where nothing that the law and all that it calls make is longer than what came in: it says more and counts as full. Else prove '..UptoSaid'. A law counts once. -/
mutual
def uptoBulk {H : Type} : DataW H → Nat
  | .lit (.string bytes) => bytes.length + 1
  | .lit _ => 1
  | .nil => 1
  | .ptr d => uptoBulk d + 1
  | .slice elems spare => uptoBulkAll elems + uptoBulkAll spare + 1
  | .agg parts => uptoBulkAll parts + 1
  | .iface _ d => uptoBulk d + 1
  | .map entries => uptoBulkEntries entries + 1
  | .held _ => 1
def uptoBulkAll {H : Type} : List (DataW H) → Nat
  | [] => 0
  | d :: r => uptoBulk d + uptoBulkAll r
def uptoBulkEntries {H : Type} : List (Lit × DataW H) → Nat
  | [] => 0
  | x :: r => uptoBulkEntry x + uptoBulkEntries r
def uptoBulkEntry {H : Type} : Lit × DataW H → Nat
  | (.string bytes, d) => bytes.length + uptoBulk d + 1
  | (_, d) => uptoBulk d + 1
 end
def uptoSmall : (H : Type) → List (DataW H) → Bool := fun _ ds => decide (uptoBulkAll ds ≤ 1048576)
def OpenSpec.upto (s : _root_.Go.ChangeSpec) : _root_.Go.OpenSpec := { _root_.Go.OpenSpec.ofChange s with cond := some uptoSmall }

/-- 'ratoonlaw51.CommandParse', WHERE WHAT IT READS IS OF BULK AT MOST 1048576: true; the input reads as it did. -/
def commandParseUptoRow : OpenClaim := { program := "ytfhcpegemapbkaa", sum := "265d0ac116fea98d64b23622088823686c349b3cdf71593ad3f4fc6e6289775c", func := "ratoon/ratoonlaw51.CommandParse", spec := "commandParse", inPlace := ["internal/bytealg.IndexByteString", "internal/abi.NoEscape", "internal/bytealg.MakeNoZero"], unfollowed := true, recurses := true, apart := false, narrowed := true }
def CommandParseUptoSaid : Prop := commandParseUptoRow.holds Try.pinned (OpenSpec.upto commandParseSpec)

/-- 'ratoonlaw51.CommandPrint', WHERE WHAT IT READS IS OF BULK AT MOST 1048576: true; the input reads as it did. -/
def commandPrintUptoRow : OpenClaim := { program := "ytfhcpegemapbkaa", sum := "265d0ac116fea98d64b23622088823686c349b3cdf71593ad3f4fc6e6289775c", func := "ratoon/ratoonlaw51.CommandPrint", spec := "commandPrint", inPlace := ["internal/bytealg.IndexByteString", "internal/abi.NoEscape", "internal/bytealg.MakeNoZero"], unfollowed := true, recurses := true, apart := false, narrowed := true }
def CommandPrintUptoSaid : Prop := commandPrintUptoRow.holds Try.pinned (OpenSpec.upto commandPrintSpec)

/-- 'ratoonlaw51.CommandEqual', WHERE WHAT IT READS IS OF BULK AT MOST 1048576: true; the input reads as it did. -/
def commandEqualUptoRow : OpenClaim := { program := "ytfhcpegemapbkaa", sum := "265d0ac116fea98d64b23622088823686c349b3cdf71593ad3f4fc6e6289775c", func := "ratoon/ratoonlaw51.CommandEqual", spec := "commandEqual", inPlace := ["internal/bytealg.IndexByteString", "internal/abi.NoEscape", "internal/bytealg.MakeNoZero"], unfollowed := true, recurses := true, apart := false, narrowed := true }
def CommandEqualUptoSaid : Prop := commandEqualUptoRow.holds Try.pinned (OpenSpec.upto commandEqualSpec)

/-- 'ratoonlaw51.CommandBlanks', WHERE WHAT IT READS IS OF BULK AT MOST 1048576: true; the input reads as it did. -/
def commandBlanksUptoRow : OpenClaim := { program := "ytfhcpegemapbkaa", sum := "265d0ac116fea98d64b23622088823686c349b3cdf71593ad3f4fc6e6289775c", func := "ratoon/ratoonlaw51.CommandBlanks", spec := "commandBlanks", inPlace := ["internal/bytealg.IndexByteString", "internal/abi.NoEscape", "internal/bytealg.MakeNoZero"], unfollowed := true, recurses := true, apart := false, narrowed := true }
def CommandBlanksUptoSaid : Prop := commandBlanksUptoRow.holds Try.pinned (OpenSpec.upto commandBlanksSpec)

/-- 'ratoonlaw51.CommandJoined', WHERE WHAT IT READS IS OF BULK AT MOST 1048576: true; the input reads as it did. -/
def commandJoinedUptoRow : OpenClaim := { program := "ytfhcpegemapbkaa", sum := "265d0ac116fea98d64b23622088823686c349b3cdf71593ad3f4fc6e6289775c", func := "ratoon/ratoonlaw51.CommandJoined", spec := "commandJoined", inPlace := ["internal/bytealg.IndexByteString", "internal/abi.NoEscape", "internal/bytealg.MakeNoZero"], unfollowed := true, recurses := true, apart := false, narrowed := true }
def CommandJoinedUptoSaid : Prop := commandJoinedUptoRow.holds Try.pinned (OpenSpec.upto commandJoinedSpec)

/-- 'ratoonlaw51.CommandOrder', WHERE WHAT IT READS IS OF BULK AT MOST 1048576: true; the input reads as it did. -/
def commandOrderUptoRow : OpenClaim := { program := "ytfhcpegemapbkaa", sum := "265d0ac116fea98d64b23622088823686c349b3cdf71593ad3f4fc6e6289775c", func := "ratoon/ratoonlaw51.CommandOrder", spec := "commandOrder", inPlace := ["internal/bytealg.IndexByteString", "internal/abi.NoEscape", "internal/bytealg.MakeNoZero"], unfollowed := true, recurses := true, apart := false, narrowed := true }
def CommandOrderUptoSaid : Prop := commandOrderUptoRow.holds Try.pinned (OpenSpec.upto commandOrderSpec)

end Rows
end Go.Proofs.Ytfhcpegemapbkaa
