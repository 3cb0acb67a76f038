/- A statement with three numbers. -/
import Derived.Test.YtlbfndapmlmcfaaGreatDoorRWrong0
import Derived.Test.YtlbfndapmlmcfaaGreatDoorRWrong1
import Derived.Test.YtlbfndapmlmcfaaGreatDoorRWrong2
import Derived.Test.YtlbfndapmlmcfaaGreatDoorRWrong3
namespace Go.Proofs.YtlbfndapmlmcfaaGreatDoor
open Go.AX
set_option maxRecDepth 100000
noncomputable section
theorem w_run (i j k : Int) : isTrueR (runFn call noCall c3 [.int .i64 i, .int .i64 j, .int .i64 k] H0) = true := by
  obtain ⟨q, hq, hlt⟩ := numI_lt i (m := 4) (by omega) (by omega)
  have h5 : q = 0 ∨ q = 1 ∨ q = 2 ∨ q = 3 := by omega
  rcases h5 with h | h | h | h
  · exact w_0 i j k (by rw [hq, h])
  · exact w_1 i j k (by rw [hq, h])
  · exact w_2 i j k (by rw [hq, h])
  · exact w_3 i j k (by rw [hq, h])
end
end Go.Proofs.YtlbfndapmlmcfaaGreatDoor
