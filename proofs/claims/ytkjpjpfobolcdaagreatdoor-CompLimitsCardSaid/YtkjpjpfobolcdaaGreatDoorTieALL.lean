/- The rows' variables are laid as the program's text lays them: fact by fact. -/
import Derived.Test.YtkjpjpfobolcdaaGreatDoorRows
import Derived.LaidByTextLater
import Derived.SevenTiedAt
namespace Go.Proofs.YtkjpjpfobolcdaaGreatDoor
open Go
def kindsL : List LaidKind := [.sentinel, .sentinel, .sentinel, .sentinel, .sentinel, .sentinel, .sentinel, .sentinel, .sentinel, .data, .data, .data, .handle, .sentinel, .sentinel, .sentinel, .sentinel, .sentinel, .sentinel, .sentinel, .sentinel, .sentinel, .sentinel]
theorem tkL : Rows.compLimitsRow.laid.map (fun x => Tryz.prog.kindOfLater x.1) = kindsL.map some := by kernel_rfl
theorem tnL : varsNamedLaterB Tryz.prog (varsId Tryz.prog) Rows.compLimitsRow.laid = true := by kernel_rfl
end Go.Proofs.YtkjpjpfobolcdaaGreatDoor
