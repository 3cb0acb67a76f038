/- The rows' variables are laid as the program's text lays them: fact by fact. -/
import Derived.Test.YtkjpjpfobolcdaaGreatDoorRows
import Derived.LaidByTextLater
import Derived.SevenTiedAt
namespace Go.Proofs.YtkjpjpfobolcdaaGreatDoor
open Go
theorem noOwnUnsafeC : Tryz.pinned.checked.prog.headLifts.contains "ownunsafe" = false := by kernel_rfl
theorem tw1 : Tryz.prog.worded (varsWordLater true) = true := by kernel_rfl
theorem tw2 : Tryz.prog.worded (varsWordLater !true) = false := by kernel_rfl
theorem tw3 : Tryz.prog.worded rootWordLater = true := by kernel_rfl
theorem tw4 : (Tryz.prog.funcNamed "gosem.cut.vars").isSome = true := by kernel_rfl
theorem tw5 : ∀ (os : Os) (tape : Tape), varsDone Tryz.prog 600 (varsId Tryz.prog) os tape = true := fun _ _ => by kernel_rfl
end Go.Proofs.YtkjpjpfobolcdaaGreatDoor
