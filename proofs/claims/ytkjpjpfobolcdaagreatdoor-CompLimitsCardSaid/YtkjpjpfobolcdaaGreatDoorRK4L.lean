/- A run of Compile. -/
import Derived.Test.YtkjpjpfobolcdaaGreatDoorXMemoLL
namespace Go.Proofs.YtkjpjpfobolcdaaGreatDoor
open Go.AX Go.RowKit
set_option maxRecDepth 100000
theorem tk4 : memoRun (callN (tabAt tabQ) X2 200 11) HL ek4 = true := by kernel_rfl
end Go.Proofs.YtkjpjpfobolcdaaGreatDoor
