/- The runs of a statement, by how long the number is: all. -/
import Derived.Test.YtlbfndapmlmcfaaGreatDoorRRoundA
import Derived.Test.YtlbfndapmlmcfaaGreatDoorRRoundB
import Derived.Test.YtlbfndapmlmcfaaGreatDoorRRoundC
import Derived.Test.YtlbfndapmlmcfaaGreatDoorRRoundD
namespace Go.Proofs.YtlbfndapmlmcfaaGreatDoor
open Go.AX
set_option maxRecDepth 100000
noncomputable section
theorem round_run (n : Nat) (h0 : 0 < n) (h1 : n ≤ 20) : isTrueR (runFn call3 noCall c5 [.sym (pathOf 40) n] H2) = true := by
  have h : n = 1 ∨ n = 2 ∨ n = 3 ∨ n = 4 ∨ n = 5 ∨ n = 6 ∨ n = 7 ∨ n = 8 ∨ n = 9 ∨ n = 10 ∨ n = 11 ∨ n = 12 ∨ n = 13 ∨ n = 14 ∨ n = 15 ∨ n = 16 ∨ n = 17 ∨ n = 18 ∨ n = 19 ∨ n = 20 := by omega
  rcases h with h | h | h | h | h | h | h | h | h | h | h | h | h | h | h | h | h | h | h | h
  · rw [h]; exact round_1
  · rw [h]; exact round_2
  · rw [h]; exact round_3
  · rw [h]; exact round_4
  · rw [h]; exact round_5
  · rw [h]; exact round_6
  · rw [h]; exact round_7
  · rw [h]; exact round_8
  · rw [h]; exact round_9
  · rw [h]; exact round_10
  · rw [h]; exact round_11
  · rw [h]; exact round_12
  · rw [h]; exact round_13
  · rw [h]; exact round_14
  · rw [h]; exact round_15
  · rw [h]; exact round_16
  · rw [h]; exact round_17
  · rw [h]; exact round_18
  · rw [h]; exact round_19
  · rw [h]; exact round_20
end
end Go.Proofs.YtlbfndapmlmcfaaGreatDoor
