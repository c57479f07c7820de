/-
  DERIVED. GIVEN WITH THE SEED: THE CARDS: each row of YteipnkjhnbaipaaGreatDoorRows.lean that lists a variable, with what it lists TIED to the program's text (the seventh form; the later family's looks); each row that meets fmt, with fmt's text TOLD by the authors' own Lean function (tested against real Go, not proved from fmt's source: count such statements apart). THE CARD IS WHAT COUNTS. Prove the row's statement (the work); the ties are given (YteipnkjhnbaipaaGreatDoorTie.lean); close each card by the builder's one call (the guide's Derived/Test/ToyasCard.lean, 'card_holds'). Laid BY PROGRAM, IN A SANDBOX (cutbox-door.mjs). By AI agents, Wed Nov 11 2026. No macro, syntax, notation, axiom, sorry.
-/
import Derived.Test.YteipnkjhnbaipaaGreatDoorRows
import GoSem.ClaimSeven
namespace Go.Proofs.YteipnkjhnbaipaaGreatDoor
namespace Rows

/-- THE TIED CARD OF 'dioptrelaw30.TapeWrites'. -/
def tapeWritesCard : Claim7 := { stood := { row := tapeWritesRow, standIns := [], harness := (true, "9219b8cedbf17cfdf46ddaadfaf585a20939529e5416ce756c67cadf36503abb"), looks := true }, kinds := [], alts := [], laidByText := true, laidKinds := [.data, .data, .data, .data, .handle, .sentinel, .sentinel, .pinned], laidTests := true, laidLooks := .later }
def TapeWritesCardSaid : Prop := Claim7.holds Tryz.pinned (.plain (OpenSpec.ofChange tapeWritesSpec)) tapeWritesCard

/-- THE TIED CARD OF 'dioptrelaw30.TapeLong'. -/
def tapeLongCard : Claim7 := { stood := { row := tapeLongRow, standIns := [], harness := (true, "9219b8cedbf17cfdf46ddaadfaf585a20939529e5416ce756c67cadf36503abb"), looks := true }, kinds := [], alts := [], laidByText := true, laidKinds := [.data, .data, .data, .data, .handle, .sentinel, .sentinel, .pinned], laidTests := true, laidLooks := .later }
def TapeLongCardSaid : Prop := Claim7.holds Tryz.pinned (.plain (OpenSpec.ofChange tapeLongSpec)) tapeLongCard

/-- THE SECOND FORM's CARD OF 'dioptrelaw30.TapeWrites'. -/
def tapeWritesUptoCard : Claim7 := { stood := { row := tapeWritesUptoRow, standIns := [], harness := (true, "9219b8cedbf17cfdf46ddaadfaf585a20939529e5416ce756c67cadf36503abb"), looks := true }, kinds := [], alts := [], laidByText := true, laidKinds := [.data, .data, .data, .data, .handle, .sentinel, .sentinel, .pinned], laidTests := true, laidLooks := .later }
def TapeWritesUptoCardSaid : Prop := Claim7.holds Tryz.pinned (.plain (OpenSpec.upto tapeWritesSpec)) tapeWritesUptoCard

/-- THE SECOND FORM's CARD OF 'dioptrelaw30.TapeLong'. -/
def tapeLongUptoCard : Claim7 := { stood := { row := tapeLongUptoRow, standIns := [], harness := (true, "9219b8cedbf17cfdf46ddaadfaf585a20939529e5416ce756c67cadf36503abb"), looks := true }, kinds := [], alts := [], laidByText := true, laidKinds := [.data, .data, .data, .data, .handle, .sentinel, .sentinel, .pinned], laidTests := true, laidLooks := .later }
def TapeLongUptoCardSaid : Prop := Claim7.holds Tryz.pinned (.plain (OpenSpec.upto tapeLongSpec)) tapeLongUptoCard
end Rows
end Go.Proofs.YteipnkjhnbaipaaGreatDoor
