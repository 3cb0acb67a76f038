/- The runs of a statement, by how long the number is: part B. -/
import Derived.Test.YtlbfndapmlmcfaaGreatDoorRRound
namespace Go.Proofs.YtlbfndapmlmcfaaGreatDoor
open Go.AX
set_option maxRecDepth 100000
noncomputable section
theorem round_6 : isTrueR (runFn call3 noCall c5 [.sym (pathOf 40) 6] H2) = true := by kernel_rfl
theorem round_7 : isTrueR (runFn call3 noCall c5 [.sym (pathOf 40) 7] H2) = true := by kernel_rfl
theorem round_8 : isTrueR (runFn call3 noCall c5 [.sym (pathOf 40) 8] H2) = true := by kernel_rfl
theorem round_9 : isTrueR (runFn call3 noCall c5 [.sym (pathOf 40) 9] H2) = true := by kernel_rfl
theorem round_10 : isTrueR (runFn call3 noCall c5 [.sym (pathOf 40) 10] H2) = true := by kernel_rfl
end
end Go.Proofs.YtlbfndapmlmcfaaGreatDoor
