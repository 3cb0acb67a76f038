/- Runs of Check. -/
import Derived.Test.YtkjpjpfobolcdaaGreatDoorXMemo
namespace Go.Proofs.YtkjpjpfobolcdaaGreatDoor
open Go.AX Go.RowKit
set_option maxRecDepth 100000
theorem tc3_0 : memoRun (callN (tabAt tabQ) X2 200 10) HE ec3_0 = true := by kernel_rfl
theorem tc3_1 : memoRun (callN (tabAt tabQ) X2 200 10) HE ec3_1 = true := by kernel_rfl
theorem tc3_2 : memoRun (callN (tabAt tabQ) X2 200 10) HE ec3_2 = true := by kernel_rfl
theorem tc3_3 : memoRun (callN (tabAt tabQ) X2 200 10) HE ec3_3 = true := by kernel_rfl
theorem tc3_4 : memoRun (callN (tabAt tabQ) X2 200 10) HE ec3_4 = true := by kernel_rfl
theorem tc3_5 : memoRun (callN (tabAt tabQ) X2 200 10) HE ec3_5 = true := by kernel_rfl
theorem tc3_6 : memoRun (callN (tabAt tabQ) X2 200 10) HE ec3_6 = true := by kernel_rfl
theorem tc3_7 : memoRun (callN (tabAt tabQ) X2 200 10) HE ec3_7 = true := by kernel_rfl
theorem tg3 : memoRun (callN (tabAt tabQ) X2 200 10) HE eg3 = true := by kernel_rfl
end Go.Proofs.YtkjpjpfobolcdaaGreatDoor
