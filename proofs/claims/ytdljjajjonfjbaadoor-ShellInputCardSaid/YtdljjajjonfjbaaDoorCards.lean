/-
  DERIVED. GIVEN WITH THE SEED: THE CARDS: each row of YtdljjajjonfjbaaDoorRows.lean that lists a variable, with what it lists TIED to the program's text (the seventh form; the later family's looks); each row that meets fmt, with fmt's text TOLD by the authors' own Lean function (tested against real Go, not proved from fmt's source: count such statements apart). THE CARD IS WHAT COUNTS. Prove the row's statement (the work); the ties are given (YtdljjajjonfjbaaDoorTie.lean); close each card by the builder's one call (the guide's Derived/Test/ToyasCard.lean, 'card_holds'). Laid BY PROGRAM, IN A SANDBOX (cutbox-door.mjs). By AI agents, Wed Nov 11 2026. No macro, syntax, notation, axiom, sorry.
-/
import Derived.Test.YtdljjajjonfjbaaDoorRows
import GoSem.ClaimSeven
namespace Go.Proofs.YtdljjajjonfjbaaDoor
namespace Rows

/-- THE TIED CARD OF 'ratoonlaw52.ShellInput'. -/
def shellInputCard : Claim7 := { stood := { row := shellInputRow, standIns := [], harness := (true, "685ffa5596465a3cca749a1146bab161f2cf9b874b16f8778ed180ac6d9d7d94"), looks := true }, kinds := [], alts := [], laidByText := true, laidKinds := [.data, .data, .data, .sentinel, .sentinel], laidTests := true, laidLooks := .later }
def ShellInputCardSaid : Prop := Claim7.holds Tryd.pinned (.plain (OpenSpec.ofChange shellInputSpec)) shellInputCard

/-- THE SECOND FORM's CARD OF 'ratoonlaw52.ShellInput'. -/
def shellInputUptoCard : Claim7 := { stood := { row := shellInputUptoRow, standIns := [], harness := (true, "685ffa5596465a3cca749a1146bab161f2cf9b874b16f8778ed180ac6d9d7d94"), looks := true }, kinds := [], alts := [], laidByText := true, laidKinds := [.data, .data, .data, .sentinel, .sentinel], laidTests := true, laidLooks := .later }
def ShellInputUptoCardSaid : Prop := Claim7.holds Tryd.pinned (.plain (OpenSpec.upto shellInputSpec)) shellInputUptoCard
end Rows
end Go.Proofs.YtdljjajjonfjbaaDoor
