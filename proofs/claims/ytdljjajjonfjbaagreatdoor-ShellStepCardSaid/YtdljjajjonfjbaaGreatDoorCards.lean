/-
  DERIVED. GIVEN WITH THE SEED: THE CARDS: each row of YtdljjajjonfjbaaGreatDoorRows.lean that lists a variable, with what it lists TIED to the program's text (the seventh form; the later family's looks); each row that meets fmt, with fmt's text TOLD by the authors' own Lean function (tested against real Go, not proved from fmt's source: count such statements apart). THE CARD IS WHAT COUNTS. Prove the row's statement (the work); the ties are given (YtdljjajjonfjbaaGreatDoorTie.lean); close each card by the builder's one call (the guide's Derived/Test/ToyasCard.lean, 'card_holds'). Laid BY PROGRAM, IN A SANDBOX (cutbox-door.mjs). By AI agents, Wed Nov 11 2026. No macro, syntax, notation, axiom, sorry.
-/
import Derived.Test.YtdljjajjonfjbaaGreatDoorRows
import GoSem.ClaimSeven
namespace Go.Proofs.YtdljjajjonfjbaaGreatDoor
namespace Rows

/-- THE TIED CARD OF 'ratoonlaw52.ShellPipelines'. -/
def shellPipelinesCard : Claim7 := { stood := { row := shellPipelinesRow, standIns := [], harness := (true, "4734b94de298b7b64cc2fd277eff1d3660d84aa407701e3cb9226c78e0ecb46d"), looks := true }, kinds := [], alts := [], laidByText := true, laidKinds := [.data, .data, .data, .sentinel, .sentinel], laidTests := true, laidLooks := .later }
def ShellPipelinesCardSaid : Prop := Claim7.holds Tryz.pinned (.plain (OpenSpec.ofChange shellPipelinesSpec)) shellPipelinesCard

/-- THE TIED CARD OF 'ratoonlaw52.ShellCloses'. -/
def shellClosesCard : Claim7 := { stood := { row := shellClosesRow, standIns := [], harness := (true, "4734b94de298b7b64cc2fd277eff1d3660d84aa407701e3cb9226c78e0ecb46d"), looks := true }, kinds := [], alts := [], laidByText := true, laidKinds := [.data, .data, .data, .sentinel, .sentinel], laidTests := true, laidLooks := .later }
def ShellClosesCardSaid : Prop := Claim7.holds Tryz.pinned (.plain (OpenSpec.ofChange shellClosesSpec)) shellClosesCard

/-- THE TIED CARD OF 'ratoonlaw52.ShellSome'. -/
def shellSomeCard : Claim7 := { stood := { row := shellSomeRow, standIns := [], harness := (true, "4734b94de298b7b64cc2fd277eff1d3660d84aa407701e3cb9226c78e0ecb46d"), looks := true }, kinds := [], alts := [], laidByText := true, laidKinds := [.data, .data, .data, .sentinel, .sentinel], laidTests := true, laidLooks := .later }
def ShellSomeCardSaid : Prop := Claim7.holds Tryz.pinned (.plain (OpenSpec.ofChange shellSomeSpec)) shellSomeCard

/-- THE TIED CARD OF 'ratoonlaw52.ShellStep'. -/
def shellStepCard : Claim7 := { stood := { row := shellStepRow, standIns := [], harness := (true, "4734b94de298b7b64cc2fd277eff1d3660d84aa407701e3cb9226c78e0ecb46d"), looks := true }, kinds := [], alts := [], laidByText := true, laidKinds := [.data, .data, .data, .sentinel, .sentinel], laidTests := true, laidLooks := .later }
def ShellStepCardSaid : Prop := Claim7.holds Tryz.pinned (.plain (OpenSpec.ofChange shellStepSpec)) shellStepCard

/-- THE SECOND FORM's CARD OF 'ratoonlaw52.ShellPipelines'. -/
def shellPipelinesUptoCard : Claim7 := { stood := { row := shellPipelinesUptoRow, standIns := [], harness := (true, "4734b94de298b7b64cc2fd277eff1d3660d84aa407701e3cb9226c78e0ecb46d"), looks := true }, kinds := [], alts := [], laidByText := true, laidKinds := [.data, .data, .data, .sentinel, .sentinel], laidTests := true, laidLooks := .later }
def ShellPipelinesUptoCardSaid : Prop := Claim7.holds Tryz.pinned (.plain (OpenSpec.upto shellPipelinesSpec)) shellPipelinesUptoCard

/-- THE SECOND FORM's CARD OF 'ratoonlaw52.ShellCloses'. -/
def shellClosesUptoCard : Claim7 := { stood := { row := shellClosesUptoRow, standIns := [], harness := (true, "4734b94de298b7b64cc2fd277eff1d3660d84aa407701e3cb9226c78e0ecb46d"), looks := true }, kinds := [], alts := [], laidByText := true, laidKinds := [.data, .data, .data, .sentinel, .sentinel], laidTests := true, laidLooks := .later }
def ShellClosesUptoCardSaid : Prop := Claim7.holds Tryz.pinned (.plain (OpenSpec.upto shellClosesSpec)) shellClosesUptoCard

/-- THE SECOND FORM's CARD OF 'ratoonlaw52.ShellSome'. -/
def shellSomeUptoCard : Claim7 := { stood := { row := shellSomeUptoRow, standIns := [], harness := (true, "4734b94de298b7b64cc2fd277eff1d3660d84aa407701e3cb9226c78e0ecb46d"), looks := true }, kinds := [], alts := [], laidByText := true, laidKinds := [.data, .data, .data, .sentinel, .sentinel], laidTests := true, laidLooks := .later }
def ShellSomeUptoCardSaid : Prop := Claim7.holds Tryz.pinned (.plain (OpenSpec.upto shellSomeSpec)) shellSomeUptoCard

/-- THE SECOND FORM's CARD OF 'ratoonlaw52.ShellStep'. -/
def shellStepUptoCard : Claim7 := { stood := { row := shellStepUptoRow, standIns := [], harness := (true, "4734b94de298b7b64cc2fd277eff1d3660d84aa407701e3cb9226c78e0ecb46d"), looks := true }, kinds := [], alts := [], laidByText := true, laidKinds := [.data, .data, .data, .sentinel, .sentinel], laidTests := true, laidLooks := .later }
def ShellStepUptoCardSaid : Prop := Claim7.holds Tryz.pinned (.plain (OpenSpec.upto shellStepSpec)) shellStepUptoCard
end Rows
end Go.Proofs.YtdljjajjonfjbaaGreatDoor
