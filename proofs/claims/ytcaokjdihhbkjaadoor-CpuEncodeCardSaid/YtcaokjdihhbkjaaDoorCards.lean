/-
  DERIVED. GIVEN WITH THE SEED: THE CARDS: each row of YtcaokjdihhbkjaaDoorRows.lean that lists a variable, with what it lists TIED to the program's text (the seventh form; the later family's looks); each row that meets fmt, with fmt's text TOLD by the authors' own Lean function (tested against real Go, not proved from fmt's source: count such statements apart). THE CARD IS WHAT COUNTS. Prove the row's statement (the work); the ties are given (YtcaokjdihhbkjaaDoorTie.lean); close each card by the builder's one call (the guide's Derived/Test/ToyasCard.lean, 'card_holds'). Laid BY PROGRAM, IN A SANDBOX (cutbox-door.mjs). By AI agents, Wed Nov 11 2026. No macro, syntax, notation, axiom, sorry.
-/
import Derived.Test.YtcaokjdihhbkjaaDoorRows
import GoSem.ClaimSeven
namespace Go.Proofs.YtcaokjdihhbkjaaDoor
namespace Rows

/-- THE TIED CARD OF 'ratoonlaw16.CpuDecode'. -/
def cpuDecodeCard : Claim7 := { stood := { row := cpuDecodeRow, standIns := [], harness := (true, "6ded239800dc637bd3fdd23dc90ba235ffdfcc0339399b68588c752a39ea639a"), looks := false }, kinds := [], alts := [], laidByText := true, laidKinds := [.data], laidTests := true, laidLooks := .later }
def CpuDecodeCardSaid : Prop := Claim7.holds Tryd.pinned (.plain (OpenSpec.ofChange cpuDecodeSpec)) cpuDecodeCard

/-- THE TIED CARD OF 'ratoonlaw16.CpuOther'. -/
def cpuOtherCard : Claim7 := { stood := { row := cpuOtherRow, standIns := [], harness := (true, "6ded239800dc637bd3fdd23dc90ba235ffdfcc0339399b68588c752a39ea639a"), looks := false }, kinds := [], alts := [], laidByText := true, laidKinds := [.data], laidTests := true, laidLooks := .later }
def CpuOtherCardSaid : Prop := Claim7.holds Tryd.pinned (.plain (OpenSpec.ofChange cpuOtherSpec)) cpuOtherCard

/-- THE TIED CARD OF 'ratoonlaw16.CpuArithmetic'. -/
def cpuArithmeticCard : Claim7 := { stood := { row := cpuArithmeticRow, standIns := [], harness := (true, "6ded239800dc637bd3fdd23dc90ba235ffdfcc0339399b68588c752a39ea639a"), looks := false }, kinds := [], alts := [], laidByText := true, laidKinds := [.data], laidTests := true, laidLooks := .later }
def CpuArithmeticCardSaid : Prop := Claim7.holds Tryd.pinned (.plain (OpenSpec.ofChange cpuArithmeticSpec)) cpuArithmeticCard

/-- THE TIED CARD OF 'ratoonlaw16.CpuControl'. -/
def cpuControlCard : Claim7 := { stood := { row := cpuControlRow, standIns := [], harness := (true, "6ded239800dc637bd3fdd23dc90ba235ffdfcc0339399b68588c752a39ea639a"), looks := false }, kinds := [], alts := [], laidByText := true, laidKinds := [.data], laidTests := true, laidLooks := .later }
def CpuControlCardSaid : Prop := Claim7.holds Tryd.pinned (.plain (OpenSpec.ofChange cpuControlSpec)) cpuControlCard

/-- THE TIED CARD OF 'ratoonlaw16.CpuBits'. -/
def cpuBitsCard : Claim7 := { stood := { row := cpuBitsRow, standIns := [], harness := (true, "6ded239800dc637bd3fdd23dc90ba235ffdfcc0339399b68588c752a39ea639a"), looks := false }, kinds := [], alts := [], laidByText := true, laidKinds := [.data], laidTests := true, laidLooks := .later }
def CpuBitsCardSaid : Prop := Claim7.holds Tryd.pinned (.plain (OpenSpec.ofChange cpuBitsSpec)) cpuBitsCard

/-- THE TIED CARD OF 'ratoonlaw16.CpuReply'. -/
def cpuReplyCard : Claim7 := { stood := { row := cpuReplyRow, standIns := [], harness := (true, "6ded239800dc637bd3fdd23dc90ba235ffdfcc0339399b68588c752a39ea639a"), looks := false }, kinds := [], alts := [], laidByText := true, laidKinds := [.data], laidTests := true, laidLooks := .later }
def CpuReplyCardSaid : Prop := Claim7.holds Tryd.pinned (.plain (OpenSpec.ofChange cpuReplySpec)) cpuReplyCard

/-- THE TIED CARD OF 'ratoonlaw16.CpuExec'. -/
def cpuExecCard : Claim7 := { stood := { row := cpuExecRow, standIns := [], harness := (true, "6ded239800dc637bd3fdd23dc90ba235ffdfcc0339399b68588c752a39ea639a"), looks := false }, kinds := [], alts := [], laidByText := true, laidKinds := [.data], laidTests := true, laidLooks := .later }
def CpuExecCardSaid : Prop := Claim7.holds Tryd.pinned (.plain (OpenSpec.ofChange cpuExecSpec)) cpuExecCard

/-- THE TIED CARD OF 'ratoonlaw16.CpuMemory'. -/
def cpuMemoryCard : Claim7 := { stood := { row := cpuMemoryRow, standIns := [], harness := (true, "6ded239800dc637bd3fdd23dc90ba235ffdfcc0339399b68588c752a39ea639a"), looks := false }, kinds := [], alts := [], laidByText := true, laidKinds := [.data], laidTests := true, laidLooks := .later }
def CpuMemoryCardSaid : Prop := Claim7.holds Tryd.pinned (.plain (OpenSpec.ofChange cpuMemorySpec)) cpuMemoryCard

/-- THE TIED CARD OF 'ratoonlaw16.CpuEncode'. -/
def cpuEncodeCard : Claim7 := { stood := { row := cpuEncodeRow, standIns := [], harness := (true, "6ded239800dc637bd3fdd23dc90ba235ffdfcc0339399b68588c752a39ea639a"), looks := false }, kinds := [], alts := [], laidByText := true, laidKinds := [.data, .data, .data, .data], laidTests := true, laidLooks := .later }
def CpuEncodeCardSaid : Prop := Claim7.holds Tryd.pinned (.plain (OpenSpec.ofChange cpuEncodeSpec)) cpuEncodeCard

/-- THE SECOND FORM's CARD OF 'ratoonlaw16.CpuDecode'. -/
def cpuDecodeUptoCard : Claim7 := { stood := { row := cpuDecodeUptoRow, standIns := [], harness := (true, "6ded239800dc637bd3fdd23dc90ba235ffdfcc0339399b68588c752a39ea639a"), looks := false }, kinds := [], alts := [], laidByText := true, laidKinds := [.data], laidTests := true, laidLooks := .later }
def CpuDecodeUptoCardSaid : Prop := Claim7.holds Tryd.pinned (.plain (OpenSpec.upto cpuDecodeSpec)) cpuDecodeUptoCard

/-- THE SECOND FORM's CARD OF 'ratoonlaw16.CpuOther'. -/
def cpuOtherUptoCard : Claim7 := { stood := { row := cpuOtherUptoRow, standIns := [], harness := (true, "6ded239800dc637bd3fdd23dc90ba235ffdfcc0339399b68588c752a39ea639a"), looks := false }, kinds := [], alts := [], laidByText := true, laidKinds := [.data], laidTests := true, laidLooks := .later }
def CpuOtherUptoCardSaid : Prop := Claim7.holds Tryd.pinned (.plain (OpenSpec.upto cpuOtherSpec)) cpuOtherUptoCard

/-- THE SECOND FORM's CARD OF 'ratoonlaw16.CpuArithmetic'. -/
def cpuArithmeticUptoCard : Claim7 := { stood := { row := cpuArithmeticUptoRow, standIns := [], harness := (true, "6ded239800dc637bd3fdd23dc90ba235ffdfcc0339399b68588c752a39ea639a"), looks := false }, kinds := [], alts := [], laidByText := true, laidKinds := [.data], laidTests := true, laidLooks := .later }
def CpuArithmeticUptoCardSaid : Prop := Claim7.holds Tryd.pinned (.plain (OpenSpec.upto cpuArithmeticSpec)) cpuArithmeticUptoCard

/-- THE SECOND FORM's CARD OF 'ratoonlaw16.CpuControl'. -/
def cpuControlUptoCard : Claim7 := { stood := { row := cpuControlUptoRow, standIns := [], harness := (true, "6ded239800dc637bd3fdd23dc90ba235ffdfcc0339399b68588c752a39ea639a"), looks := false }, kinds := [], alts := [], laidByText := true, laidKinds := [.data], laidTests := true, laidLooks := .later }
def CpuControlUptoCardSaid : Prop := Claim7.holds Tryd.pinned (.plain (OpenSpec.upto cpuControlSpec)) cpuControlUptoCard

/-- THE SECOND FORM's CARD OF 'ratoonlaw16.CpuBits'. -/
def cpuBitsUptoCard : Claim7 := { stood := { row := cpuBitsUptoRow, standIns := [], harness := (true, "6ded239800dc637bd3fdd23dc90ba235ffdfcc0339399b68588c752a39ea639a"), looks := false }, kinds := [], alts := [], laidByText := true, laidKinds := [.data], laidTests := true, laidLooks := .later }
def CpuBitsUptoCardSaid : Prop := Claim7.holds Tryd.pinned (.plain (OpenSpec.upto cpuBitsSpec)) cpuBitsUptoCard

/-- THE SECOND FORM's CARD OF 'ratoonlaw16.CpuReply'. -/
def cpuReplyUptoCard : Claim7 := { stood := { row := cpuReplyUptoRow, standIns := [], harness := (true, "6ded239800dc637bd3fdd23dc90ba235ffdfcc0339399b68588c752a39ea639a"), looks := false }, kinds := [], alts := [], laidByText := true, laidKinds := [.data], laidTests := true, laidLooks := .later }
def CpuReplyUptoCardSaid : Prop := Claim7.holds Tryd.pinned (.plain (OpenSpec.upto cpuReplySpec)) cpuReplyUptoCard

/-- THE SECOND FORM's CARD OF 'ratoonlaw16.CpuExec'. -/
def cpuExecUptoCard : Claim7 := { stood := { row := cpuExecUptoRow, standIns := [], harness := (true, "6ded239800dc637bd3fdd23dc90ba235ffdfcc0339399b68588c752a39ea639a"), looks := false }, kinds := [], alts := [], laidByText := true, laidKinds := [.data], laidTests := true, laidLooks := .later }
def CpuExecUptoCardSaid : Prop := Claim7.holds Tryd.pinned (.plain (OpenSpec.upto cpuExecSpec)) cpuExecUptoCard

/-- THE SECOND FORM's CARD OF 'ratoonlaw16.CpuMemory'. -/
def cpuMemoryUptoCard : Claim7 := { stood := { row := cpuMemoryUptoRow, standIns := [], harness := (true, "6ded239800dc637bd3fdd23dc90ba235ffdfcc0339399b68588c752a39ea639a"), looks := false }, kinds := [], alts := [], laidByText := true, laidKinds := [.data], laidTests := true, laidLooks := .later }
def CpuMemoryUptoCardSaid : Prop := Claim7.holds Tryd.pinned (.plain (OpenSpec.upto cpuMemorySpec)) cpuMemoryUptoCard

/-- THE SECOND FORM's CARD OF 'ratoonlaw16.CpuEncode'. -/
def cpuEncodeUptoCard : Claim7 := { stood := { row := cpuEncodeUptoRow, standIns := [], harness := (true, "6ded239800dc637bd3fdd23dc90ba235ffdfcc0339399b68588c752a39ea639a"), looks := false }, kinds := [], alts := [], laidByText := true, laidKinds := [.data, .data, .data, .data], laidTests := true, laidLooks := .later }
def CpuEncodeUptoCardSaid : Prop := Claim7.holds Tryd.pinned (.plain (OpenSpec.upto cpuEncodeSpec)) cpuEncodeUptoCard
end Rows
end Go.Proofs.YtcaokjdihhbkjaaDoor
