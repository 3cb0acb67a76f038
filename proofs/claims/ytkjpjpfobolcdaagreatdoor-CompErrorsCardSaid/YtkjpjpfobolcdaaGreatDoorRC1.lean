/- Runs of Check. -/
import Derived.Test.YtkjpjpfobolcdaaGreatDoorXMemo
namespace Go.Proofs.YtkjpjpfobolcdaaGreatDoor
open Go.AX Go.RowKit
set_option maxRecDepth 100000
theorem tc1_0 : memoRun (callN (tabAt tabQ) X2 200 10) HE ec1_0 = true := by kernel_rfl
theorem tc1_1 : memoRun (callN (tabAt tabQ) X2 200 10) HE ec1_1 = true := by kernel_rfl
theorem tc1_2 : memoRun (callN (tabAt tabQ) X2 200 10) HE ec1_2 = true := by kernel_rfl
theorem tc1_3 : memoRun (callN (tabAt tabQ) X2 200 10) HE ec1_3 = true := by kernel_rfl
theorem tc1_4 : memoRun (callN (tabAt tabQ) X2 200 10) HE ec1_4 = true := by kernel_rfl
theorem tc1_5 : memoRun (callN (tabAt tabQ) X2 200 10) HE ec1_5 = true := by kernel_rfl
theorem tc1_6 : memoRun (callN (tabAt tabQ) X2 200 10) HE ec1_6 = true := by kernel_rfl
theorem tc1_7 : memoRun (callN (tabAt tabQ) X2 200 10) HE ec1_7 = true := by kernel_rfl
theorem tg1 : memoRun (callN (tabAt tabQ) X2 200 10) HE eg1 = true := by kernel_rfl
end Go.Proofs.YtkjpjpfobolcdaaGreatDoor
