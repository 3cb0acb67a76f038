/- A run of CompLimits. -/
import Derived.Test.YtkjpjpfobolcdaaGreatDoorRCompLL
namespace Go.Proofs.YtkjpjpfobolcdaaGreatDoor
open Go.AX
set_option maxRecDepth 100000
noncomputable section
theorem m_1 (k : Int) : isTrueR (endL (.ofNat 1) k) = true := by kernel_rfl
end
end Go.Proofs.YtkjpjpfobolcdaaGreatDoor
