/-
  DERIVED. GIVEN WITH THE SEED: THE CARDS: each row of YtalagblioepadaaGreatDoorRows.lean that lists a variable, with what it lists TIED to the program's text (the seventh form; the later family's looks); each row that meets fmt, with fmt's text TOLD by the authors' own Lean function (tested against real Go, not proved from fmt's source: count such statements apart). THE CARD IS WHAT COUNTS. Prove the row's statement (the work); the ties are given (YtalagblioepadaaGreatDoorTie.lean); close each card by the builder's one call (the guide's Derived/Test/ToyasCard.lean, 'card_holds'). Laid BY PROGRAM, IN A SANDBOX (cutbox-door.mjs). By AI agents, Wed Nov 11 2026. No macro, syntax, notation, axiom, sorry.
-/
import Derived.Test.YtalagblioepadaaGreatDoorRows
import GoSem.ClaimSeven
namespace Go.Proofs.YtalagblioepadaaGreatDoor
namespace Rows

/-- THE TIED CARD OF 'promptbooktop.WholePlayed'. -/
def wholePlayedCard : Claim7 := { stood := { row := wholePlayedRow, standIns := [], harness := (true, "1e09d14b5e59fc77419f16ea5aee8aec69ba4c3aea8ff81753b3079a6f011c9e"), looks := false }, kinds := [], alts := [], laidByText := true, laidKinds := [.data], laidTests := true, laidLooks := .later }
def WholePlayedCardSaid : Prop := Claim7.holds Tryz.pinned (.plain (OpenSpec.ofChange wholePlayedSpec)) wholePlayedCard

/-- THE TIED CARD OF 'promptbooktop.WholeStream'. -/
def wholeStreamCard : Claim7 := { stood := { row := wholeStreamRow, standIns := [], harness := (true, "1e09d14b5e59fc77419f16ea5aee8aec69ba4c3aea8ff81753b3079a6f011c9e"), looks := false }, kinds := [], alts := [], laidByText := true, laidKinds := [.data], laidTests := true, laidLooks := .later }
def WholeStreamCardSaid : Prop := Claim7.holds Tryz.pinned (.plain (OpenSpec.ofChange wholeStreamSpec)) wholeStreamCard

/-- THE TIED CARD OF 'promptbooktop.WholeSpoilt'. -/
def wholeSpoiltCard : Claim7 := { stood := { row := wholeSpoiltRow, standIns := [], harness := (true, "1e09d14b5e59fc77419f16ea5aee8aec69ba4c3aea8ff81753b3079a6f011c9e"), looks := false }, kinds := [], alts := [], laidByText := true, laidKinds := [.data], laidTests := true, laidLooks := .later }
def WholeSpoiltCardSaid : Prop := Claim7.holds Tryz.pinned (.plain (OpenSpec.ofChange wholeSpoiltSpec)) wholeSpoiltCard

/-- THE TIED CARD OF 'promptbooktop.WholeCommands'. -/
def wholeCommandsCard : Claim7 := { stood := { row := wholeCommandsRow, standIns := [], harness := (true, "1e09d14b5e59fc77419f16ea5aee8aec69ba4c3aea8ff81753b3079a6f011c9e"), looks := false }, kinds := [], alts := [], laidByText := true, laidKinds := [.data], laidTests := true, laidLooks := .later }
def WholeCommandsCardSaid : Prop := Claim7.holds Tryz.pinned (.plain (OpenSpec.ofChange wholeCommandsSpec)) wholeCommandsCard

/-- THE TIED CARD OF 'promptbooktop.WholeBounds'. -/
def wholeBoundsCard : Claim7 := { stood := { row := wholeBoundsRow, standIns := [], harness := (true, "1e09d14b5e59fc77419f16ea5aee8aec69ba4c3aea8ff81753b3079a6f011c9e"), looks := false }, kinds := [], alts := [], laidByText := true, laidKinds := [.data], laidTests := true, laidLooks := .later }
def WholeBoundsCardSaid : Prop := Claim7.holds Tryz.pinned (.plain (OpenSpec.ofChange wholeBoundsSpec)) wholeBoundsCard

/-- THE SECOND FORM's CARD OF 'promptbooktop.WholePlayed'. -/
def wholePlayedUptoCard : Claim7 := { stood := { row := wholePlayedUptoRow, standIns := [], harness := (true, "1e09d14b5e59fc77419f16ea5aee8aec69ba4c3aea8ff81753b3079a6f011c9e"), looks := false }, kinds := [], alts := [], laidByText := true, laidKinds := [.data], laidTests := true, laidLooks := .later }
def WholePlayedUptoCardSaid : Prop := Claim7.holds Tryz.pinned (.plain (OpenSpec.upto wholePlayedSpec)) wholePlayedUptoCard

/-- THE SECOND FORM's CARD OF 'promptbooktop.WholeStream'. -/
def wholeStreamUptoCard : Claim7 := { stood := { row := wholeStreamUptoRow, standIns := [], harness := (true, "1e09d14b5e59fc77419f16ea5aee8aec69ba4c3aea8ff81753b3079a6f011c9e"), looks := false }, kinds := [], alts := [], laidByText := true, laidKinds := [.data], laidTests := true, laidLooks := .later }
def WholeStreamUptoCardSaid : Prop := Claim7.holds Tryz.pinned (.plain (OpenSpec.upto wholeStreamSpec)) wholeStreamUptoCard

/-- THE SECOND FORM's CARD OF 'promptbooktop.WholeSpoilt'. -/
def wholeSpoiltUptoCard : Claim7 := { stood := { row := wholeSpoiltUptoRow, standIns := [], harness := (true, "1e09d14b5e59fc77419f16ea5aee8aec69ba4c3aea8ff81753b3079a6f011c9e"), looks := false }, kinds := [], alts := [], laidByText := true, laidKinds := [.data], laidTests := true, laidLooks := .later }
def WholeSpoiltUptoCardSaid : Prop := Claim7.holds Tryz.pinned (.plain (OpenSpec.upto wholeSpoiltSpec)) wholeSpoiltUptoCard

/-- THE SECOND FORM's CARD OF 'promptbooktop.WholeCommands'. -/
def wholeCommandsUptoCard : Claim7 := { stood := { row := wholeCommandsUptoRow, standIns := [], harness := (true, "1e09d14b5e59fc77419f16ea5aee8aec69ba4c3aea8ff81753b3079a6f011c9e"), looks := false }, kinds := [], alts := [], laidByText := true, laidKinds := [.data], laidTests := true, laidLooks := .later }
def WholeCommandsUptoCardSaid : Prop := Claim7.holds Tryz.pinned (.plain (OpenSpec.upto wholeCommandsSpec)) wholeCommandsUptoCard

/-- THE SECOND FORM's CARD OF 'promptbooktop.WholeBounds'. -/
def wholeBoundsUptoCard : Claim7 := { stood := { row := wholeBoundsUptoRow, standIns := [], harness := (true, "1e09d14b5e59fc77419f16ea5aee8aec69ba4c3aea8ff81753b3079a6f011c9e"), looks := false }, kinds := [], alts := [], laidByText := true, laidKinds := [.data], laidTests := true, laidLooks := .later }
def WholeBoundsUptoCardSaid : Prop := Claim7.holds Tryz.pinned (.plain (OpenSpec.upto wholeBoundsSpec)) wholeBoundsUptoCard
end Rows
end Go.Proofs.YtalagblioepadaaGreatDoor
