/- Runs of Compile. -/
import Derived.Test.YtkjpjpfobolcdaaGreatDoorXMemo4
namespace Go.Proofs.YtkjpjpfobolcdaaGreatDoor
open Go.AX Go.RowKit
set_option maxRecDepth 100000
theorem tf4 : memoRun (callN (tabAt tabQ) X3 200 11) HE ef4 = true := by kernel_rfl
theorem tf5 : memoRun (callN (tabAt tabQ) X3 200 11) HE ef5 = true := by kernel_rfl
theorem tf6 : memoRun (callN (tabAt tabQ) X3 200 11) HE ef6 = true := by kernel_rfl
theorem tf7 : memoRun (callN (tabAt tabQ) X3 200 11) HE ef7 = true := by kernel_rfl
end Go.Proofs.YtkjpjpfobolcdaaGreatDoor
