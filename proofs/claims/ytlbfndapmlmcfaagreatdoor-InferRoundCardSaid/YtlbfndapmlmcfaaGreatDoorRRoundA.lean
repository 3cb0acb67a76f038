/- The runs of a statement, by how long the number is: part A. -/
import Derived.Test.YtlbfndapmlmcfaaGreatDoorRRound
namespace Go.Proofs.YtlbfndapmlmcfaaGreatDoor
open Go.AX
set_option maxRecDepth 100000
noncomputable section
theorem round_1 : isTrueR (runFn call3 noCall c5 [.sym (pathOf 40) 1] H2) = true := by kernel_rfl
theorem round_2 : isTrueR (runFn call3 noCall c5 [.sym (pathOf 40) 2] H2) = true := by kernel_rfl
theorem round_3 : isTrueR (runFn call3 noCall c5 [.sym (pathOf 40) 3] H2) = true := by kernel_rfl
theorem round_4 : isTrueR (runFn call3 noCall c5 [.sym (pathOf 40) 4] H2) = true := by kernel_rfl
theorem round_5 : isTrueR (runFn call3 noCall c5 [.sym (pathOf 40) 5] H2) = true := by kernel_rfl
end
end Go.Proofs.YtlbfndapmlmcfaaGreatDoor
