/- The example of chapter 11: the document's text, read and written. -/
import Derived.Test.YtekgdmhdkhgpjaaGreatDoorPG
import Derived.KernelRfl
set_option linter.unusedSimpArgs false
set_option linter.unusedVariables false
/- The example of chapter 11: the document's text, read and written. -/
namespace Go.Proofs.YtekgdmhdkhgpjaaGreatDoor.am
open Go
theorem awake_run0 : evKF lib nk 1000 9 [] [] = some (.bool true, []) := by kernel_rfl
end Go.Proofs.YtekgdmhdkhgpjaaGreatDoor.am
