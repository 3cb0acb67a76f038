/- The runs of a statement, by how long the number is: part C. -/
import Derived.Test.YtlbfndapmlmcfaaGreatDoorRRound
namespace Go.Proofs.YtlbfndapmlmcfaaGreatDoor
open Go.AX
set_option maxRecDepth 100000
noncomputable section
theorem round_11 : isTrueR (runFn call3 noCall c5 [.sym (pathOf 40) 11] H2) = true := by kernel_rfl
theorem round_12 : isTrueR (runFn call3 noCall c5 [.sym (pathOf 40) 12] H2) = true := by kernel_rfl
theorem round_13 : isTrueR (runFn call3 noCall c5 [.sym (pathOf 40) 13] H2) = true := by kernel_rfl
theorem round_14 : isTrueR (runFn call3 noCall c5 [.sym (pathOf 40) 14] H2) = true := by kernel_rfl
theorem round_15 : isTrueR (runFn call3 noCall c5 [.sym (pathOf 40) 15] H2) = true := by kernel_rfl
end
end Go.Proofs.YtlbfndapmlmcfaaGreatDoor
