/- A part of the statement: laid met. -/
import Derived.Test.YtgmndgnhejdnaaaGreatDoorFin2K
namespace Go.Proofs.YtgmndgnhejdnaaaGreatDoor.deskKeeps
open Go.ChangeShapes Go.WideShapes Go.ChangeAt Go.RowKit Go.AX
set_option maxRecDepth 100000
theorem laid_met (os : Os) : laidMetH Tryz.prog Rows.deskKeepsRow.laid ((laidWorld os).forCall (fun _ _ => 0) ⟨#[], #[.int .i64 0, .int .i64 0], []⟩).memory :=
  laidMetH_of_parts ((laid_plain os).of_heap (by simp [World.memory, World.forCall, Input.heap])) (by kernel_rfl)
end Go.Proofs.YtgmndgnhejdnaaaGreatDoor.deskKeeps
