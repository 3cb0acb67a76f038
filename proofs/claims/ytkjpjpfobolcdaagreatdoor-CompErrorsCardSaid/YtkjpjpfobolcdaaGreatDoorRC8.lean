/- Runs of Check. -/
import Derived.Test.YtkjpjpfobolcdaaGreatDoorXMemo
namespace Go.Proofs.YtkjpjpfobolcdaaGreatDoor
open Go.AX Go.RowKit
set_option maxRecDepth 100000
theorem tc8_0 : memoRun (callN (tabAt tabQ) X2 200 10) HE ec8_0 = true := by kernel_rfl
theorem tc8_1 : memoRun (callN (tabAt tabQ) X2 200 10) HE ec8_1 = true := by kernel_rfl
theorem tc8_2 : memoRun (callN (tabAt tabQ) X2 200 10) HE ec8_2 = true := by kernel_rfl
theorem tc8_3 : memoRun (callN (tabAt tabQ) X2 200 10) HE ec8_3 = true := by kernel_rfl
theorem tc8_4 : memoRun (callN (tabAt tabQ) X2 200 10) HE ec8_4 = true := by kernel_rfl
theorem tc8_5 : memoRun (callN (tabAt tabQ) X2 200 10) HE ec8_5 = true := by kernel_rfl
theorem tc8_6 : memoRun (callN (tabAt tabQ) X2 200 10) HE ec8_6 = true := by kernel_rfl
theorem tc8_7 : memoRun (callN (tabAt tabQ) X2 200 10) HE ec8_7 = true := by kernel_rfl
theorem tg8 : memoRun (callN (tabAt tabQ) X2 200 10) HE eg8 = true := by kernel_rfl
end Go.Proofs.YtkjpjpfobolcdaaGreatDoor
