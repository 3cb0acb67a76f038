/- The rows' variables are laid as the program's text lays them: fact by fact. -/
import Derived.Test.YtkjpjpfobolcdaaGreatDoorRows
import Derived.LaidByTextLater
import Derived.SevenTiedAt
namespace Go.Proofs.YtkjpjpfobolcdaaGreatDoor
open Go
theorem t3L : ∀ (os : Os) (tape : Tape), (Rows.compLimitsRow.laid.filter fun x => x.2.handleName?.isSome).all (handleAtB Tryz.prog (varsWorld Tryz.prog 600 (varsId Tryz.prog) os tape).memory) = true := fun _ _ => by kernel_rfl
end Go.Proofs.YtkjpjpfobolcdaaGreatDoor
