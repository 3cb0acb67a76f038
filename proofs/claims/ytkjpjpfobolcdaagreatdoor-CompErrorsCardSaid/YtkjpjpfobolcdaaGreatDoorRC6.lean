/- Runs of Check. -/
import Derived.Test.YtkjpjpfobolcdaaGreatDoorXMemo
namespace Go.Proofs.YtkjpjpfobolcdaaGreatDoor
open Go.AX Go.RowKit
set_option maxRecDepth 100000
theorem tc6_0 : memoRun (callN (tabAt tabQ) X2 200 10) HE ec6_0 = true := by kernel_rfl
theorem tc6_1 : memoRun (callN (tabAt tabQ) X2 200 10) HE ec6_1 = true := by kernel_rfl
theorem tc6_2 : memoRun (callN (tabAt tabQ) X2 200 10) HE ec6_2 = true := by kernel_rfl
theorem tc6_3 : memoRun (callN (tabAt tabQ) X2 200 10) HE ec6_3 = true := by kernel_rfl
theorem tc6_4 : memoRun (callN (tabAt tabQ) X2 200 10) HE ec6_4 = true := by kernel_rfl
theorem tc6_5 : memoRun (callN (tabAt tabQ) X2 200 10) HE ec6_5 = true := by kernel_rfl
theorem tc6_6 : memoRun (callN (tabAt tabQ) X2 200 10) HE ec6_6 = true := by kernel_rfl
theorem tc6_7 : memoRun (callN (tabAt tabQ) X2 200 10) HE ec6_7 = true := by kernel_rfl
theorem tg6 : memoRun (callN (tabAt tabQ) X2 200 10) HE eg6 = true := by kernel_rfl
end Go.Proofs.YtkjpjpfobolcdaaGreatDoor
