/- Closed facts of the row. -/
import Derived.Test.YtkjpjpfobolcdaaGreatDoorCards
import Derived.Test.YtkjpjpfobolcdaaGreatDoorChecked
import Derived.ProofKit
import Derived.OpenShut
import Derived.SevenTiedAt
namespace Go.Proofs.YtkjpjpfobolcdaaGreatDoor.compLimits
open Go.ChangeShapes Go.WideShapes Go.ChangeAt Go.RowKit
set_option maxRecDepth 100000
theorem j2 : (mapsRowed (Tryz.pinned.checked.prog)) = true := by kernel_rfl
theorem j3 : (Tryz.f4.params.all ((Tryz.pinned.checked.prog).readableRec ·)) = true := by kernel_rfl
theorem j4 : (namedTie (Tryz.pinned.checked.prog) Rows.compLimitsRow.named ((OpenSpec.ofChange Rows.compLimitsSpec).bare).vars) = true := by kernel_rfl
theorem j5 : ((Rows.compLimitsRow.stops == [])) = true := by kernel_rfl
theorem j6 : (((Tryz.pinned.checked.prog).stops == [])) = true := by kernel_rfl
theorem j7 : ((Rows.compLimitsRow.knobs == [])) = true := by kernel_rfl
theorem j8 : (((Tryz.pinned.checked.prog).stopKnobs == [])) = true := by kernel_rfl
theorem j9 : ((Rows.compLimitsRow.inPlace == (Tryz.pinned.checked.prog).inPlace 4)) = true := by kernel_rfl
end Go.Proofs.YtkjpjpfobolcdaaGreatDoor.compLimits
