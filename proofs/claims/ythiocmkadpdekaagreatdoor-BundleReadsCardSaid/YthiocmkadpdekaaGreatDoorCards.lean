/-
  DERIVED. GIVEN WITH THE SEED: THE CARDS: each row of YthiocmkadpdekaaGreatDoorRows.lean that lists a variable, with what it lists TIED to the program's text (the seventh form; the later family's looks); each row that meets fmt, with fmt's text TOLD by the authors' own Lean function (tested against real Go, not proved from fmt's source: count such statements apart). THE CARD IS WHAT COUNTS. Prove the row's statement (the work); the ties are given (YthiocmkadpdekaaGreatDoorTie.lean); close each card by the builder's one call (the guide's Derived/Test/ToyasCard.lean, 'card_holds'). Laid BY PROGRAM, IN A SANDBOX (cutbox-door.mjs). By AI agents, Wed Nov 11 2026. No macro, syntax, notation, axiom, sorry.
-/
import Derived.Test.YthiocmkadpdekaaGreatDoorRows
import GoSem.ClaimSeven
namespace Go.Proofs.YthiocmkadpdekaaGreatDoor
namespace Rows

/-- THE TIED CARD OF 'dioptrelaw23.BundleWrites'. -/
def bundleWritesCard : Claim7 := { stood := { row := bundleWritesRow, standIns := [], harness := (true, "6e4cf017b6ced118f56ee7d567225f4d6c594d96cd0406de9c78235a2b305856"), looks := true }, kinds := [], alts := [], laidByText := true, laidKinds := [.handle], laidTests := true, laidLooks := .later }
def BundleWritesCardSaid : Prop := Claim7.holds Tryz.pinned (.plain (OpenSpec.ofChange bundleWritesSpec)) bundleWritesCard

/-- THE TIED CARD OF 'dioptrelaw23.BundleReads'. -/
def bundleReadsCard : Claim7 := { stood := { row := bundleReadsRow, standIns := [], harness := (true, "6e4cf017b6ced118f56ee7d567225f4d6c594d96cd0406de9c78235a2b305856"), looks := true }, kinds := [], alts := [], laidByText := true, laidKinds := [.handle], laidTests := true, laidLooks := .later }
def BundleReadsCardSaid : Prop := Claim7.holds Tryz.pinned (.plain (OpenSpec.ofChange bundleReadsSpec)) bundleReadsCard

/-- THE SECOND FORM's CARD OF 'dioptrelaw23.BundleWrites'. -/
def bundleWritesUptoCard : Claim7 := { stood := { row := bundleWritesUptoRow, standIns := [], harness := (true, "6e4cf017b6ced118f56ee7d567225f4d6c594d96cd0406de9c78235a2b305856"), looks := true }, kinds := [], alts := [], laidByText := true, laidKinds := [.handle], laidTests := true, laidLooks := .later }
def BundleWritesUptoCardSaid : Prop := Claim7.holds Tryz.pinned (.plain (OpenSpec.upto bundleWritesSpec)) bundleWritesUptoCard

/-- THE SECOND FORM's CARD OF 'dioptrelaw23.BundleReads'. -/
def bundleReadsUptoCard : Claim7 := { stood := { row := bundleReadsUptoRow, standIns := [], harness := (true, "6e4cf017b6ced118f56ee7d567225f4d6c594d96cd0406de9c78235a2b305856"), looks := true }, kinds := [], alts := [], laidByText := true, laidKinds := [.handle], laidTests := true, laidLooks := .later }
def BundleReadsUptoCardSaid : Prop := Claim7.holds Tryz.pinned (.plain (OpenSpec.upto bundleReadsSpec)) bundleReadsUptoCard
end Rows
end Go.Proofs.YthiocmkadpdekaaGreatDoor
