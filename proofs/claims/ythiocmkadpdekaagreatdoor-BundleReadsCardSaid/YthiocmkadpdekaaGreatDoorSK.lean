/- Parts. No condition. -/
import Derived.Test.YthiocmkadpdekaaGreatDoorSJ
set_option linter.all false
namespace Go.Proofs.YthiocmkadpdekaaGreatDoor.am
open Go
theorem sum_26(b:Nat→Box)(q:Bool):evKF lib nk2 1000 77 [.sl .none 1 [[.aref 23 0 32 32 1]]] (((List.range 26).map b).set 23 (.mem (encB seedB) [] q))=some (.agg (encB sumB0),((List.range 26).map b).set 23 (.mem (encB seedB) [] q)):=(evKFs_eq _ _ _ _ _ _).symm.trans (by kernel_rfl)
end Go.Proofs.YthiocmkadpdekaaGreatDoor.am
