/- Runs of Check. -/
import Derived.Test.YtkjpjpfobolcdaaGreatDoorXMemo
namespace Go.Proofs.YtkjpjpfobolcdaaGreatDoor
open Go.AX Go.RowKit
set_option maxRecDepth 100000
theorem tc2_0 : memoRun (callN (tabAt tabQ) X2 200 10) HE ec2_0 = true := by kernel_rfl
theorem tc2_1 : memoRun (callN (tabAt tabQ) X2 200 10) HE ec2_1 = true := by kernel_rfl
theorem tc2_2 : memoRun (callN (tabAt tabQ) X2 200 10) HE ec2_2 = true := by kernel_rfl
theorem tc2_3 : memoRun (callN (tabAt tabQ) X2 200 10) HE ec2_3 = true := by kernel_rfl
theorem tc2_4 : memoRun (callN (tabAt tabQ) X2 200 10) HE ec2_4 = true := by kernel_rfl
theorem tc2_5 : memoRun (callN (tabAt tabQ) X2 200 10) HE ec2_5 = true := by kernel_rfl
theorem tc2_6 : memoRun (callN (tabAt tabQ) X2 200 10) HE ec2_6 = true := by kernel_rfl
theorem tc2_7 : memoRun (callN (tabAt tabQ) X2 200 10) HE ec2_7 = true := by kernel_rfl
theorem tg2 : memoRun (callN (tabAt tabQ) X2 200 10) HE eg2 = true := by kernel_rfl
end Go.Proofs.YtkjpjpfobolcdaaGreatDoor
