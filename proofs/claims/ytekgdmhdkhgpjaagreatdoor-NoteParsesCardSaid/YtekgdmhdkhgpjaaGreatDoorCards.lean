/-
  DERIVED. GIVEN WITH THE SEED: THE CARDS: each row of YtekgdmhdkhgpjaaGreatDoorRows.lean that lists a variable, with what it lists TIED to the program's text (the seventh form; the later family's looks); each row that meets fmt, with fmt's text TOLD by the authors' own Lean function (tested against real Go, not proved from fmt's source: count such statements apart). THE CARD IS WHAT COUNTS. Prove the row's statement (the work); the ties are given (YtekgdmhdkhgpjaaGreatDoorTie.lean); close each card by the builder's one call (the guide's Derived/Test/ToyasCard.lean, 'card_holds'). Laid BY PROGRAM, IN A SANDBOX (cutbox-door.mjs). By AI agents, Wed Nov 11 2026. No macro, syntax, notation, axiom, sorry.
-/
import Derived.Test.YtekgdmhdkhgpjaaGreatDoorRows
import GoSem.ClaimSeven
namespace Go.Proofs.YtekgdmhdkhgpjaaGreatDoor
namespace Rows

/-- THE TIED CARD OF 'dioptrelaw11.NoteLines'. -/
def noteLinesCard : Claim7 := { stood := { row := noteLinesRow, standIns := [], harness := (true, "4a6cd8c186ff29d309351ddfd90ec4b17ef79f0ce56adcf7d91d8a7253ad8ffb"), looks := true }, kinds := [], alts := [], laidByText := true, laidKinds := [.data, .data, .data, .sentinel, .sentinel], laidTests := true, laidLooks := .later }
def NoteLinesCardSaid : Prop := Claim7.holds Tryz.pinned (.plain (OpenSpec.ofChange noteLinesSpec)) noteLinesCard

/-- THE TIED CARD OF 'dioptrelaw11.NotePaths'. -/
def notePathsCard : Claim7 := { stood := { row := notePathsRow, standIns := [], harness := (true, "4a6cd8c186ff29d309351ddfd90ec4b17ef79f0ce56adcf7d91d8a7253ad8ffb"), looks := true }, kinds := [], alts := [], laidByText := true, laidKinds := [.data, .data, .data, .sentinel, .sentinel], laidTests := true, laidLooks := .later }
def NotePathsCardSaid : Prop := Claim7.holds Tryz.pinned (.plain (OpenSpec.ofChange notePathsSpec)) notePathsCard

/-- THE TIED CARD OF 'dioptrelaw11.NoteApart'. -/
def noteApartCard : Claim7 := { stood := { row := noteApartRow, standIns := [], harness := (true, "4a6cd8c186ff29d309351ddfd90ec4b17ef79f0ce56adcf7d91d8a7253ad8ffb"), looks := true }, kinds := [], alts := [], laidByText := true, laidKinds := [.data, .data, .data, .sentinel, .sentinel], laidTests := true, laidLooks := .later }
def NoteApartCardSaid : Prop := Claim7.holds Tryz.pinned (.plain (OpenSpec.ofChange noteApartSpec)) noteApartCard

/-- THE TIED CARD OF 'dioptrelaw11.NotePrints'. -/
def notePrintsCard : Claim7 := { stood := { row := notePrintsRow, standIns := [], harness := (true, "4a6cd8c186ff29d309351ddfd90ec4b17ef79f0ce56adcf7d91d8a7253ad8ffb"), looks := true }, kinds := [], alts := [], laidByText := true, laidKinds := [.data, .data, .data, .handle, .sentinel, .sentinel], laidTests := true, laidLooks := .later }
def NotePrintsCardSaid : Prop := Claim7.holds Tryz.pinned (.plain (OpenSpec.ofChange notePrintsSpec)) notePrintsCard

/-- THE TIED CARD OF 'dioptrelaw11.NoteParses'. -/
def noteParsesCard : Claim7 := { stood := { row := noteParsesRow, standIns := [], harness := (true, "4a6cd8c186ff29d309351ddfd90ec4b17ef79f0ce56adcf7d91d8a7253ad8ffb"), looks := true }, kinds := [], alts := [], laidByText := true, laidKinds := [.data, .data, .data, .handle, .sentinel, .sentinel], laidTests := true, laidLooks := .later }
def NoteParsesCardSaid : Prop := Claim7.holds Tryz.pinned (.plain (OpenSpec.ofChange noteParsesSpec)) noteParsesCard

/-- THE SECOND FORM's CARD OF 'dioptrelaw11.NoteLines'. -/
def noteLinesUptoCard : Claim7 := { stood := { row := noteLinesUptoRow, standIns := [], harness := (true, "4a6cd8c186ff29d309351ddfd90ec4b17ef79f0ce56adcf7d91d8a7253ad8ffb"), looks := true }, kinds := [], alts := [], laidByText := true, laidKinds := [.data, .data, .data, .sentinel, .sentinel], laidTests := true, laidLooks := .later }
def NoteLinesUptoCardSaid : Prop := Claim7.holds Tryz.pinned (.plain (OpenSpec.upto noteLinesSpec)) noteLinesUptoCard

/-- THE SECOND FORM's CARD OF 'dioptrelaw11.NotePaths'. -/
def notePathsUptoCard : Claim7 := { stood := { row := notePathsUptoRow, standIns := [], harness := (true, "4a6cd8c186ff29d309351ddfd90ec4b17ef79f0ce56adcf7d91d8a7253ad8ffb"), looks := true }, kinds := [], alts := [], laidByText := true, laidKinds := [.data, .data, .data, .sentinel, .sentinel], laidTests := true, laidLooks := .later }
def NotePathsUptoCardSaid : Prop := Claim7.holds Tryz.pinned (.plain (OpenSpec.upto notePathsSpec)) notePathsUptoCard

/-- THE SECOND FORM's CARD OF 'dioptrelaw11.NoteApart'. -/
def noteApartUptoCard : Claim7 := { stood := { row := noteApartUptoRow, standIns := [], harness := (true, "4a6cd8c186ff29d309351ddfd90ec4b17ef79f0ce56adcf7d91d8a7253ad8ffb"), looks := true }, kinds := [], alts := [], laidByText := true, laidKinds := [.data, .data, .data, .sentinel, .sentinel], laidTests := true, laidLooks := .later }
def NoteApartUptoCardSaid : Prop := Claim7.holds Tryz.pinned (.plain (OpenSpec.upto noteApartSpec)) noteApartUptoCard

/-- THE SECOND FORM's CARD OF 'dioptrelaw11.NotePrints'. -/
def notePrintsUptoCard : Claim7 := { stood := { row := notePrintsUptoRow, standIns := [], harness := (true, "4a6cd8c186ff29d309351ddfd90ec4b17ef79f0ce56adcf7d91d8a7253ad8ffb"), looks := true }, kinds := [], alts := [], laidByText := true, laidKinds := [.data, .data, .data, .handle, .sentinel, .sentinel], laidTests := true, laidLooks := .later }
def NotePrintsUptoCardSaid : Prop := Claim7.holds Tryz.pinned (.plain (OpenSpec.upto notePrintsSpec)) notePrintsUptoCard

/-- THE SECOND FORM's CARD OF 'dioptrelaw11.NoteParses'. -/
def noteParsesUptoCard : Claim7 := { stood := { row := noteParsesUptoRow, standIns := [], harness := (true, "4a6cd8c186ff29d309351ddfd90ec4b17ef79f0ce56adcf7d91d8a7253ad8ffb"), looks := true }, kinds := [], alts := [], laidByText := true, laidKinds := [.data, .data, .data, .handle, .sentinel, .sentinel], laidTests := true, laidLooks := .later }
def NoteParsesUptoCardSaid : Prop := Claim7.holds Tryz.pinned (.plain (OpenSpec.upto noteParsesSpec)) noteParsesUptoCard
end Rows
end Go.Proofs.YtekgdmhdkhgpjaaGreatDoor
