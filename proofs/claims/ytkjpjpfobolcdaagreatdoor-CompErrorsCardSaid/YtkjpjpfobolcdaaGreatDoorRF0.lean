/- Runs of Compile. -/
import Derived.Test.YtkjpjpfobolcdaaGreatDoorXMemo4
namespace Go.Proofs.YtkjpjpfobolcdaaGreatDoor
open Go.AX Go.RowKit
set_option maxRecDepth 100000
theorem tf0 : memoRun (callN (tabAt tabQ) X3 200 11) HE ef0 = true := by kernel_rfl
theorem tf1 : memoRun (callN (tabAt tabQ) X3 200 11) HE ef1 = true := by kernel_rfl
theorem tf2 : memoRun (callN (tabAt tabQ) X3 200 11) HE ef2 = true := by kernel_rfl
theorem tf3 : memoRun (callN (tabAt tabQ) X3 200 11) HE ef3 = true := by kernel_rfl
end Go.Proofs.YtkjpjpfobolcdaaGreatDoor
