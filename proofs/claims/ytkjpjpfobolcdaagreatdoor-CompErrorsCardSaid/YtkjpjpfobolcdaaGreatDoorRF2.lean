/- Runs of Compile. -/
import Derived.Test.YtkjpjpfobolcdaaGreatDoorXMemo4
namespace Go.Proofs.YtkjpjpfobolcdaaGreatDoor
open Go.AX Go.RowKit
set_option maxRecDepth 100000
theorem tf8 : memoRun (callN (tabAt tabQ) X3 200 11) HE ef8 = true := by kernel_rfl
theorem tf9 : memoRun (callN (tabAt tabQ) X3 200 11) HE ef9 = true := by kernel_rfl
end Go.Proofs.YtkjpjpfobolcdaaGreatDoor
