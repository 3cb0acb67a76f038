/- The runs of a statement, by how long the number is: part D. -/
import Derived.Test.YtlbfndapmlmcfaaGreatDoorRRound
namespace Go.Proofs.YtlbfndapmlmcfaaGreatDoor
open Go.AX
set_option maxRecDepth 100000
noncomputable section
theorem round_16 : isTrueR (runFn call3 noCall c5 [.sym (pathOf 40) 16] H2) = true := by kernel_rfl
theorem round_17 : isTrueR (runFn call3 noCall c5 [.sym (pathOf 40) 17] H2) = true := by kernel_rfl
theorem round_18 : isTrueR (runFn call3 noCall c5 [.sym (pathOf 40) 18] H2) = true := by kernel_rfl
theorem round_19 : isTrueR (runFn call3 noCall c5 [.sym (pathOf 40) 19] H2) = true := by kernel_rfl
theorem round_20 : isTrueR (runFn call3 noCall c5 [.sym (pathOf 40) 20] H2) = true := by kernel_rfl
end
end Go.Proofs.YtlbfndapmlmcfaaGreatDoor
