/-
  DERIVED. GIVEN WITH THE SEED: THE CARDS: each row of YtampclodiifalaaGreatDoorRows.lean that lists a variable, with what it lists TIED to the program's text (the seventh form; the later family's looks); each row that meets fmt, with fmt's text TOLD by the authors' own Lean function (tested against real Go, not proved from fmt's source: count such statements apart). THE CARD IS WHAT COUNTS. Prove the row's statement (the work); the ties are given (YtampclodiifalaaGreatDoorTie.lean); close each card by the builder's one call (the guide's Derived/Test/ToyasCard.lean, 'card_holds'). Laid BY PROGRAM, IN A SANDBOX (cutbox-door.mjs). By AI agents, Wed Nov 11 2026. No macro, syntax, notation, axiom, sorry.
-/
import Derived.Test.YtampclodiifalaaGreatDoorRows
import GoSem.ClaimSeven
namespace Go.Proofs.YtampclodiifalaaGreatDoor
namespace Rows

/-- THE TIED CARD OF 'dioptrelaw17.EntryEncodes'. -/
def entryEncodesCard : Claim7 := { stood := { row := entryEncodesRow, standIns := [], harness := (true, "c5aec2146443dd04dc77fd1fe93b307510eb545b94fd3b10d27e0a80fb0a3c29"), looks := true }, kinds := [], alts := [], laidByText := true, laidKinds := [.handle], laidTests := true, laidLooks := .later }
def EntryEncodesCardSaid : Prop := Claim7.holds Tryz.pinned (.plain (OpenSpec.ofChange entryEncodesSpec)) entryEncodesCard

/-- THE SECOND FORM's CARD OF 'dioptrelaw17.EntryEncodes'. -/
def entryEncodesUptoCard : Claim7 := { stood := { row := entryEncodesUptoRow, standIns := [], harness := (true, "c5aec2146443dd04dc77fd1fe93b307510eb545b94fd3b10d27e0a80fb0a3c29"), looks := true }, kinds := [], alts := [], laidByText := true, laidKinds := [.handle], laidTests := true, laidLooks := .later }
def EntryEncodesUptoCardSaid : Prop := Claim7.holds Tryz.pinned (.plain (OpenSpec.upto entryEncodesSpec)) entryEncodesUptoCard
end Rows
end Go.Proofs.YtampclodiifalaaGreatDoor
