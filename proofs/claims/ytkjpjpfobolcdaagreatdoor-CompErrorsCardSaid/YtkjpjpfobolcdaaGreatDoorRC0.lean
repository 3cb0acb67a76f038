/- Runs of Check. -/
import Derived.Test.YtkjpjpfobolcdaaGreatDoorXMemo
namespace Go.Proofs.YtkjpjpfobolcdaaGreatDoor
open Go.AX Go.RowKit
set_option maxRecDepth 100000
theorem tc0_0 : memoRun (callN (tabAt tabQ) X2 200 10) HE ec0_0 = true := by kernel_rfl
theorem tc0_1 : memoRun (callN (tabAt tabQ) X2 200 10) HE ec0_1 = true := by kernel_rfl
theorem tc0_2 : memoRun (callN (tabAt tabQ) X2 200 10) HE ec0_2 = true := by kernel_rfl
theorem tc0_3 : memoRun (callN (tabAt tabQ) X2 200 10) HE ec0_3 = true := by kernel_rfl
theorem tc0_4 : memoRun (callN (tabAt tabQ) X2 200 10) HE ec0_4 = true := by kernel_rfl
theorem tc0_5 : memoRun (callN (tabAt tabQ) X2 200 10) HE ec0_5 = true := by kernel_rfl
theorem tc0_6 : memoRun (callN (tabAt tabQ) X2 200 10) HE ec0_6 = true := by kernel_rfl
theorem tc0_7 : memoRun (callN (tabAt tabQ) X2 200 10) HE ec0_7 = true := by kernel_rfl
theorem tg0 : memoRun (callN (tabAt tabQ) X2 200 10) HE eg0 = true := by kernel_rfl
end Go.Proofs.YtkjpjpfobolcdaaGreatDoor
