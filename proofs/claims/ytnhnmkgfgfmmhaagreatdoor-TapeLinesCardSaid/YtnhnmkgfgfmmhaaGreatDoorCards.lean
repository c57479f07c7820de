/-
  DERIVED. GIVEN WITH THE SEED: THE CARDS: each row of YtnhnmkgfgfmmhaaGreatDoorRows.lean that lists a variable, with what it lists TIED to the program's text (the seventh form; the later family's looks); each row that meets fmt, with fmt's text TOLD by the authors' own Lean function (tested against real Go, not proved from fmt's source: count such statements apart). THE CARD IS WHAT COUNTS. Prove the row's statement (the work); the ties are given (YtnhnmkgfgfmmhaaGreatDoorTie.lean); close each card by the builder's one call (the guide's Derived/Test/ToyasCard.lean, 'card_holds'). Laid BY PROGRAM, IN A SANDBOX (cutbox-door.mjs). By AI agents, Wed Nov 11 2026. No macro, syntax, notation, axiom, sorry.
-/
import Derived.Test.YtnhnmkgfgfmmhaaGreatDoorRows
import GoSem.ClaimSeven
namespace Go.Proofs.YtnhnmkgfgfmmhaaGreatDoor
namespace Rows

/-- THE TIED CARD OF 'dioptrelaw30.TapeLines'. -/
def tapeLinesCard : Claim7 := { stood := { row := tapeLinesRow, standIns := [], harness := (true, "4e2e806ff8c4227d4a7b9051674b3905d60f37dd6a38fda8211070e18e7db02a"), looks := true }, kinds := [], alts := [], laidByText := true, laidKinds := [.data, .data, .data, .data, .handle, .sentinel, .sentinel, .pinned], laidTests := true, laidLooks := .later }
def TapeLinesCardSaid : Prop := Claim7.holds Tryz.pinned (.plain (OpenSpec.ofChange tapeLinesSpec)) tapeLinesCard

/-- THE SECOND FORM's CARD OF 'dioptrelaw30.TapeLines'. -/
def tapeLinesUptoCard : Claim7 := { stood := { row := tapeLinesUptoRow, standIns := [], harness := (true, "4e2e806ff8c4227d4a7b9051674b3905d60f37dd6a38fda8211070e18e7db02a"), looks := true }, kinds := [], alts := [], laidByText := true, laidKinds := [.data, .data, .data, .data, .handle, .sentinel, .sentinel, .pinned], laidTests := true, laidLooks := .later }
def TapeLinesUptoCardSaid : Prop := Claim7.holds Tryz.pinned (.plain (OpenSpec.upto tapeLinesSpec)) tapeLinesUptoCard
end Rows
end Go.Proofs.YtnhnmkgfgfmmhaaGreatDoor
