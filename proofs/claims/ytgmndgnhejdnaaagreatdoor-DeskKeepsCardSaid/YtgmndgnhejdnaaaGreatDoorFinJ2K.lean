/- Closed facts of the row. -/
import Derived.Test.YtgmndgnhejdnaaaGreatDoorCards
import Derived.Test.YtgmndgnhejdnaaaGreatDoorChecked
import Derived.ProofKit
import Derived.OpenShut
import Derived.SevenTiedAt
namespace Go.Proofs.YtgmndgnhejdnaaaGreatDoor.deskKeeps
open Go.ChangeShapes Go.WideShapes Go.ChangeAt Go.RowKit
set_option maxRecDepth 100000
theorem j2 : (mapsRowed (Tryz.pinned.checked.prog)) = true := by kernel_rfl
theorem j3 : (Tryz.f4.params.all ((Tryz.pinned.checked.prog).readableRec ·)) = true := by kernel_rfl
theorem j4 : (namedTie (Tryz.pinned.checked.prog) Rows.deskKeepsRow.named ((OpenSpec.ofChange Rows.deskKeepsSpec).bare).vars) = true := by kernel_rfl
theorem j5 : ((Rows.deskKeepsRow.stops == [])) = true := by kernel_rfl
theorem j6 : (((Tryz.pinned.checked.prog).stops == [])) = true := by kernel_rfl
theorem j7 : ((Rows.deskKeepsRow.knobs == [])) = true := by kernel_rfl
theorem j8 : (((Tryz.pinned.checked.prog).stopKnobs == [])) = true := by kernel_rfl
end Go.Proofs.YtgmndgnhejdnaaaGreatDoor.deskKeeps
