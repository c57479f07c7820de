/-
  DERIVED. GIVEN WITH THE SEED: THE CARDS: each row of YtefopednbffpaaaGreatDoorRows.lean that lists a variable, with what it lists TIED to the program's text (the seventh form; the later family's looks); each row that meets fmt, with fmt's text TOLD by the authors' own Lean function (tested against real Go, not proved from fmt's source: count such statements apart). THE CARD IS WHAT COUNTS. Prove the row's statement (the work); the ties are given (YtefopednbffpaaaGreatDoorTie.lean); close each card by the builder's one call (the guide's Derived/Test/ToyasCard.lean, 'card_holds'). Laid BY PROGRAM, IN A SANDBOX (cutbox-door.mjs). By AI agents, Wed Nov 11 2026. No macro, syntax, notation, axiom, sorry.
-/
import Derived.Test.YtefopednbffpaaaGreatDoorRows
import GoSem.ClaimSeven
namespace Go.Proofs.YtefopednbffpaaaGreatDoor
namespace Rows

/-- THE TIED CARD OF 'dioptrelaw17.EntrySigns'. -/
def entrySignsCard : Claim7 := { stood := { row := entrySignsRow, standIns := [], harness := (true, "4d0715825ff4c9ec193a3df0aa99873e94105888d3203517a4782dd3f706bf32"), looks := true }, kinds := [], alts := [], laidByText := true, laidKinds := [.handle], laidTests := true, laidLooks := .later }
def EntrySignsCardSaid : Prop := Claim7.holds Tryz.pinned (.plain (OpenSpec.ofChange entrySignsSpec)) entrySignsCard

/-- THE SECOND FORM's CARD OF 'dioptrelaw17.EntrySigns'. -/
def entrySignsUptoCard : Claim7 := { stood := { row := entrySignsUptoRow, standIns := [], harness := (true, "4d0715825ff4c9ec193a3df0aa99873e94105888d3203517a4782dd3f706bf32"), looks := true }, kinds := [], alts := [], laidByText := true, laidKinds := [.handle], laidTests := true, laidLooks := .later }
def EntrySignsUptoCardSaid : Prop := Claim7.holds Tryz.pinned (.plain (OpenSpec.upto entrySignsSpec)) entrySignsUptoCard
end Rows
end Go.Proofs.YtefopednbffpaaaGreatDoor
