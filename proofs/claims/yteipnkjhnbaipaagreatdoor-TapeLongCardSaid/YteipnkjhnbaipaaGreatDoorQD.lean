/- Parts. No condition. -/
import Derived.Test.YteipnkjhnbaipaaGreatDoorQC
set_option linter.all false
namespace Go.Proofs.YteipnkjhnbaipaaGreatDoor.am
open Go
open Bool renaming false->O
open Go.IntKind renaming i64->V,u64->bm
open Go renaming TypeId->bH
open Go.Proofs.YteipnkjhnbaipaaGreatDoor.am renaming AV->H
@[simp]abbrev cC:List bH:=[2,3,5,6,12,21,32,59,132,135,142,220,226,308,310,311,320,324]
@[simp]abbrev ah:List H:=[.I V 0,.I V 0,.I V 0,.I V 0,.I V 0,.ar,.I bm 0,.I bm 0,.I V 0,.I V 0,.S [],.ar,.ar,.ar,.I V 0,.S [],.S [],.I V 0,.ar,.ar,.I V 0,.I V 0,.S [],.ar,.ar,.ar,.I V 0,.I V 0,.S [],.ar,.ar,.ar,.ar,.ar,.ar]
@[simp]abbrev aU:List H:=[.S [],.B O,.B O,.B O,.B O,.B O]
@[simp]abbrev ad:List H:=[.I V 0,.S [],.S [],.I V 0,.ar,.ar,.I V 0,.I V 0,.S [],.ar,.ar,.ar,.I V 0,.I V 0,.S [],.ar,.ar,.ar,.ar,.ar]
@[simp]abbrev ai:List H:=[.I V 0,.I V 0,.S [],.ar,.ar,.ar]
@[simp]abbrev lC:List H:=[.I V 0,.I V 0,.S [],.ar,.ar,.ar,.I V 0,.I V 0,.S [],.ar,.ar,.ar]
def cr:List H:=[.S [],.B O,.B O,.B O,.B O,.B O,.S [],.B O,.B O,.B O,.B O,.B O,.S [],.B O,.B O,.B O,.B O,.B O,.S [],.B O,.B O,.B O,.B O,.B O,.S [],.B O,.B O,.B O,.B O,.B O,.S [],.B O,.B O,.B O,.B O,.B O,.S [],.B O,.B O,.B O,.B O,.B O,.S [],.B O,.B O,.B O,.B O,.B O,.S [],.B O,.B O,.B O,.B O,.B O,.S [],.B O,.B O,.B O,.B O,.B O]
@[simp]abbrev ag:List H:=[.I V 0,.ar,.I bm 0,.I bm 0,.I V 0,.I V 0,.S [],.ar,.ar,.ar]
@[simp]abbrev Az:List H:=[.B O,.B O,.B O,.B O,.B O]
end Go.Proofs.YteipnkjhnbaipaaGreatDoor.am
