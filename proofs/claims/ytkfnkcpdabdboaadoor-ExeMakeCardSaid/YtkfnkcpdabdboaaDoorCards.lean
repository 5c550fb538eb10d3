/-
  DERIVED. GIVEN WITH THE SEED: THE CARDS: each row of YtkfnkcpdabdboaaDoorRows.lean that lists a variable, with what it lists TIED to the program's text (the seventh form; the later family's looks); each row that meets fmt, with fmt's text TOLD by the authors' own Lean function (tested against real Go, not proved from fmt's source: count such statements apart). THE CARD IS WHAT COUNTS. Prove the row's statement (the work); the ties are given (YtkfnkcpdabdboaaDoorTie.lean); close each card by the builder's one call (the guide's Derived/Test/ToyasCard.lean, 'card_holds'). Laid BY PROGRAM, IN A SANDBOX (cutbox-door.mjs). By AI agents, Wed Nov 11 2026. No macro, syntax, notation, axiom, sorry.
-/
import Derived.Test.YtkfnkcpdabdboaaDoorRows
import GoSem.ClaimSeven
namespace Go.Proofs.YtkfnkcpdabdboaaDoor
namespace Rows

/-- THE TIED CARD OF 'ratoonlaw17.ExePages'. -/
def exePagesCard : Claim7 := { stood := { row := exePagesRow, standIns := [], harness := (true, "896e9952344a9b3a2c55601b2d408bdc2bd0a6528c0bf5ce5d723aae24d83ea3"), looks := false }, kinds := [], alts := [], laidByText := true, laidKinds := [.data], laidTests := true, laidLooks := .later }
def ExePagesCardSaid : Prop := Claim7.holds Tryd.pinned (.plain (OpenSpec.ofChange exePagesSpec)) exePagesCard

/-- THE TIED CARD OF 'ratoonlaw17.ExeUnique'. -/
def exeUniqueCard : Claim7 := { stood := { row := exeUniqueRow, standIns := [], harness := (true, "896e9952344a9b3a2c55601b2d408bdc2bd0a6528c0bf5ce5d723aae24d83ea3"), looks := false }, kinds := [], alts := [], laidByText := true, laidKinds := [.data], laidTests := true, laidLooks := .later }
def ExeUniqueCardSaid : Prop := Claim7.holds Tryd.pinned (.plain (OpenSpec.ofChange exeUniqueSpec)) exeUniqueCard

/-- THE TIED CARD OF 'ratoonlaw17.ExeMake'. -/
def exeMakeCard : Claim7 := { stood := { row := exeMakeRow, standIns := [], harness := (true, "896e9952344a9b3a2c55601b2d408bdc2bd0a6528c0bf5ce5d723aae24d83ea3"), looks := false }, kinds := [], alts := [], laidByText := true, laidKinds := [.data, .data, .data, .data], laidTests := true, laidLooks := .later }
def ExeMakeCardSaid : Prop := Claim7.holds Tryd.pinned (.plain (OpenSpec.ofChange exeMakeSpec)) exeMakeCard

/-- THE SECOND FORM's CARD OF 'ratoonlaw17.ExePages'. -/
def exePagesUptoCard : Claim7 := { stood := { row := exePagesUptoRow, standIns := [], harness := (true, "896e9952344a9b3a2c55601b2d408bdc2bd0a6528c0bf5ce5d723aae24d83ea3"), looks := false }, kinds := [], alts := [], laidByText := true, laidKinds := [.data], laidTests := true, laidLooks := .later }
def ExePagesUptoCardSaid : Prop := Claim7.holds Tryd.pinned (.plain (OpenSpec.upto exePagesSpec)) exePagesUptoCard

/-- THE SECOND FORM's CARD OF 'ratoonlaw17.ExeUnique'. -/
def exeUniqueUptoCard : Claim7 := { stood := { row := exeUniqueUptoRow, standIns := [], harness := (true, "896e9952344a9b3a2c55601b2d408bdc2bd0a6528c0bf5ce5d723aae24d83ea3"), looks := false }, kinds := [], alts := [], laidByText := true, laidKinds := [.data], laidTests := true, laidLooks := .later }
def ExeUniqueUptoCardSaid : Prop := Claim7.holds Tryd.pinned (.plain (OpenSpec.upto exeUniqueSpec)) exeUniqueUptoCard

/-- THE SECOND FORM's CARD OF 'ratoonlaw17.ExeMake'. -/
def exeMakeUptoCard : Claim7 := { stood := { row := exeMakeUptoRow, standIns := [], harness := (true, "896e9952344a9b3a2c55601b2d408bdc2bd0a6528c0bf5ce5d723aae24d83ea3"), looks := false }, kinds := [], alts := [], laidByText := true, laidKinds := [.data, .data, .data, .data], laidTests := true, laidLooks := .later }
def ExeMakeUptoCardSaid : Prop := Claim7.holds Tryd.pinned (.plain (OpenSpec.upto exeMakeSpec)) exeMakeUptoCard
end Rows
end Go.Proofs.YtkfnkcpdabdboaaDoor
