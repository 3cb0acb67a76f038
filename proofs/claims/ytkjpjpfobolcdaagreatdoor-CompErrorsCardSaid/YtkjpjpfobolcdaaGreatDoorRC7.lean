/- Runs of Check. -/
import Derived.Test.YtkjpjpfobolcdaaGreatDoorXMemo
namespace Go.Proofs.YtkjpjpfobolcdaaGreatDoor
open Go.AX Go.RowKit
set_option maxRecDepth 100000
theorem tc7_0 : memoRun (callN (tabAt tabQ) X2 200 10) HE ec7_0 = true := by kernel_rfl
theorem tc7_1 : memoRun (callN (tabAt tabQ) X2 200 10) HE ec7_1 = true := by kernel_rfl
theorem tc7_2 : memoRun (callN (tabAt tabQ) X2 200 10) HE ec7_2 = true := by kernel_rfl
theorem tc7_3 : memoRun (callN (tabAt tabQ) X2 200 10) HE ec7_3 = true := by kernel_rfl
theorem tc7_4 : memoRun (callN (tabAt tabQ) X2 200 10) HE ec7_4 = true := by kernel_rfl
theorem tc7_5 : memoRun (callN (tabAt tabQ) X2 200 10) HE ec7_5 = true := by kernel_rfl
theorem tc7_6 : memoRun (callN (tabAt tabQ) X2 200 10) HE ec7_6 = true := by kernel_rfl
theorem tc7_7 : memoRun (callN (tabAt tabQ) X2 200 10) HE ec7_7 = true := by kernel_rfl
theorem tg7 : memoRun (callN (tabAt tabQ) X2 200 10) HE eg7 = true := by kernel_rfl
end Go.Proofs.YtkjpjpfobolcdaaGreatDoor
