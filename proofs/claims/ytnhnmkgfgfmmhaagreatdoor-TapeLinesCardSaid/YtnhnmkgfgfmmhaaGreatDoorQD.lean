/- Parts. No condition. -/
import Derived.Test.YtnhnmkgfgfmmhaaGreatDoorQC
set_option linter.all false
namespace Go.Proofs.YtnhnmkgfgfmmhaaGreatDoor.am
open Go
open Bool renaming false->O
open Go.IntKind renaming i64->V,u64->bh
open Go renaming TypeId->bA
open Go.Proofs.YtnhnmkgfgfmmhaaGreatDoor.am renaming AV->H
@[simp]abbrev cC:List bA:=[2,3,5,6,12,21,23,57,108,123,130,212,231,299,301,302,311,315]
@[simp]abbrev ak:List H:=[.I V 0,.I V 0,.I V 0,.I V 0,.I V 0,.ao,.I bh 0,.I bh 0,.I V 0,.I V 0,.S [],.ao,.ao,.ao,.I V 0,.S [],.S [],.I V 0,.ao,.ao,.I V 0,.I V 0,.S [],.ao,.ao,.ao,.I V 0,.I V 0,.S [],.ao,.ao,.ao,.ao,.ao,.ao]
@[simp]abbrev aP:List H:=[.S [],.B O,.B O,.B O,.B O,.B O]
@[simp]abbrev ab:List H:=[.I V 0,.S [],.S [],.I V 0,.ao,.ao,.I V 0,.I V 0,.S [],.ao,.ao,.ao,.I V 0,.I V 0,.S [],.ao,.ao,.ao,.ao,.ao]
@[simp]abbrev ah:List H:=[.I V 0,.I V 0,.S [],.ao,.ao,.ao]
@[simp]abbrev kI:List H:=[.I V 0,.I V 0,.S [],.ao,.ao,.ao,.I V 0,.I V 0,.S [],.ao,.ao,.ao]
def ca:List H:=[.S [],.B O,.B O,.B O,.B O,.B O,.S [],.B O,.B O,.B O,.B O,.B O,.S [],.B O,.B O,.B O,.B O,.B O,.S [],.B O,.B O,.B O,.B O,.B O,.S [],.B O,.B O,.B O,.B O,.B O,.S [],.B O,.B O,.B O,.B O,.B O,.S [],.B O,.B O,.B O,.B O,.B O,.S [],.B O,.B O,.B O,.B O,.B O,.S [],.B O,.B O,.B O,.B O,.B O,.S [],.B O,.B O,.B O,.B O,.B O]
@[simp]abbrev ag:List H:=[.I V 0,.ao,.I bh 0,.I bh 0,.I V 0,.I V 0,.S [],.ao,.ao,.ao]
@[simp]abbrev yJ:List H:=[.B O,.B O,.B O,.B O,.B O]
end Go.Proofs.YtnhnmkgfgfmmhaaGreatDoor.am
