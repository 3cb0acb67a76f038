/- Runs of Check. -/
import Derived.Test.YtkjpjpfobolcdaaGreatDoorXMemo
namespace Go.Proofs.YtkjpjpfobolcdaaGreatDoor
open Go.AX Go.RowKit
set_option maxRecDepth 100000
theorem tc9_0 : memoRun (callN (tabAt tabQ) X2 200 10) HE ec9_0 = true := by kernel_rfl
theorem tc9_1 : memoRun (callN (tabAt tabQ) X2 200 10) HE ec9_1 = true := by kernel_rfl
theorem tc9_2 : memoRun (callN (tabAt tabQ) X2 200 10) HE ec9_2 = true := by kernel_rfl
theorem tc9_3 : memoRun (callN (tabAt tabQ) X2 200 10) HE ec9_3 = true := by kernel_rfl
theorem tc9_4 : memoRun (callN (tabAt tabQ) X2 200 10) HE ec9_4 = true := by kernel_rfl
theorem tc9_5 : memoRun (callN (tabAt tabQ) X2 200 10) HE ec9_5 = true := by kernel_rfl
theorem tc9_6 : memoRun (callN (tabAt tabQ) X2 200 10) HE ec9_6 = true := by kernel_rfl
theorem tc9_7 : memoRun (callN (tabAt tabQ) X2 200 10) HE ec9_7 = true := by kernel_rfl
theorem tg9 : memoRun (callN (tabAt tabQ) X2 200 10) HE eg9 = true := by kernel_rfl
end Go.Proofs.YtkjpjpfobolcdaaGreatDoor
