/- The rows' variables are laid as the program's text lays them: fact by fact. -/
import Derived.Test.YtkjpjpfobolcdaaGreatDoorRows
import Derived.LaidByTextLater
import Derived.SevenTiedAt
namespace Go.Proofs.YtkjpjpfobolcdaaGreatDoor
open Go
def kindsE : List LaidKind := [.sentinel, .sentinel, .sentinel, .sentinel, .sentinel, .sentinel, .sentinel, .sentinel, .sentinel, .data, .data, .data, .handle, .sentinel, .sentinel, .sentinel, .sentinel, .sentinel, .sentinel, .sentinel, .sentinel, .sentinel, .sentinel, .sentinel]
theorem tkE : Rows.compErrorsRow.laid.map (fun x => Tryz.prog.kindOfLater x.1) = kindsE.map some := by kernel_rfl
theorem tnE : varsNamedLaterB Tryz.prog (varsId Tryz.prog) Rows.compErrorsRow.laid = true := by kernel_rfl
end Go.Proofs.YtkjpjpfobolcdaaGreatDoor
