/- Closed facts of the row. -/
import Derived.Test.YtkjpjpfobolcdaaGreatDoorCards
import Derived.Test.YtkjpjpfobolcdaaGreatDoorChecked
import Derived.ProofKit
import Derived.OpenShut
import Derived.SevenTiedAt
namespace Go.Proofs.YtkjpjpfobolcdaaGreatDoor.compLimits
open Go.ChangeShapes Go.WideShapes Go.ChangeAt Go.RowKit
set_option maxRecDepth 100000
theorem j10 : ((Rows.compLimitsRow.unfollowed == (Tryz.pinned.checked.prog).unfollowed 4)) = true := by kernel_rfl
theorem j11 : ((Rows.compLimitsRow.recurses == (Tryz.pinned.checked.prog).recurses 4)) = true := by kernel_rfl
end Go.Proofs.YtkjpjpfobolcdaaGreatDoor.compLimits
