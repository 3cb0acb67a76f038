/- Runs of Check. -/
import Derived.Test.YtkjpjpfobolcdaaGreatDoorXMemo
namespace Go.Proofs.YtkjpjpfobolcdaaGreatDoor
open Go.AX Go.RowKit
set_option maxRecDepth 100000
theorem tc5_0 : memoRun (callN (tabAt tabQ) X2 200 10) HE ec5_0 = true := by kernel_rfl
theorem tc5_1 : memoRun (callN (tabAt tabQ) X2 200 10) HE ec5_1 = true := by kernel_rfl
theorem tc5_2 : memoRun (callN (tabAt tabQ) X2 200 10) HE ec5_2 = true := by kernel_rfl
theorem tc5_3 : memoRun (callN (tabAt tabQ) X2 200 10) HE ec5_3 = true := by kernel_rfl
theorem tc5_4 : memoRun (callN (tabAt tabQ) X2 200 10) HE ec5_4 = true := by kernel_rfl
theorem tc5_5 : memoRun (callN (tabAt tabQ) X2 200 10) HE ec5_5 = true := by kernel_rfl
theorem tc5_6 : memoRun (callN (tabAt tabQ) X2 200 10) HE ec5_6 = true := by kernel_rfl
theorem tc5_7 : memoRun (callN (tabAt tabQ) X2 200 10) HE ec5_7 = true := by kernel_rfl
theorem tg5 : memoRun (callN (tabAt tabQ) X2 200 10) HE eg5 = true := by kernel_rfl
end Go.Proofs.YtkjpjpfobolcdaaGreatDoor
