/- Runs of Check. -/
import Derived.Test.YtkjpjpfobolcdaaGreatDoorXMemo
namespace Go.Proofs.YtkjpjpfobolcdaaGreatDoor
open Go.AX Go.RowKit
set_option maxRecDepth 100000
theorem tc4_0 : memoRun (callN (tabAt tabQ) X2 200 10) HE ec4_0 = true := by kernel_rfl
theorem tc4_1 : memoRun (callN (tabAt tabQ) X2 200 10) HE ec4_1 = true := by kernel_rfl
theorem tc4_2 : memoRun (callN (tabAt tabQ) X2 200 10) HE ec4_2 = true := by kernel_rfl
theorem tc4_3 : memoRun (callN (tabAt tabQ) X2 200 10) HE ec4_3 = true := by kernel_rfl
theorem tc4_4 : memoRun (callN (tabAt tabQ) X2 200 10) HE ec4_4 = true := by kernel_rfl
theorem tc4_5 : memoRun (callN (tabAt tabQ) X2 200 10) HE ec4_5 = true := by kernel_rfl
theorem tc4_6 : memoRun (callN (tabAt tabQ) X2 200 10) HE ec4_6 = true := by kernel_rfl
theorem tc4_7 : memoRun (callN (tabAt tabQ) X2 200 10) HE ec4_7 = true := by kernel_rfl
theorem tg4 : memoRun (callN (tabAt tabQ) X2 200 10) HE eg4 = true := by kernel_rfl
end Go.Proofs.YtkjpjpfobolcdaaGreatDoor
