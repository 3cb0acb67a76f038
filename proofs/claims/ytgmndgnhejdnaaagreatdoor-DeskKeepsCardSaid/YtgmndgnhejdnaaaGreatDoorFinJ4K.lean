/- Closed facts of the row. -/
import Derived.Test.YtgmndgnhejdnaaaGreatDoorCards
import Derived.Test.YtgmndgnhejdnaaaGreatDoorChecked
import Derived.ProofKit
import Derived.OpenShut
import Derived.SevenTiedAt
namespace Go.Proofs.YtgmndgnhejdnaaaGreatDoor.deskKeeps
open Go.ChangeShapes Go.WideShapes Go.ChangeAt Go.RowKit
set_option maxRecDepth 100000
theorem j13 : ((Rows.deskKeepsRow.maps == (Tryz.f4.params.toList ++ ((OpenSpec.ofChange Rows.deskKeepsSpec).bare).plain.varTypes (Tryz.pinned.checked.prog)).any ((Tryz.pinned.checked.prog).mapsRec ·))) = true := by kernel_rfl
theorem j14 : ((Rows.deskKeepsRow.ifaces == (Tryz.f4.params.toList ++ ((OpenSpec.ofChange Rows.deskKeepsSpec).bare).plain.varTypes (Tryz.pinned.checked.prog)).any ((Tryz.pinned.checked.prog).ifacesRec ·))) = true := by kernel_rfl
theorem j15 : ((Rows.deskKeepsRow.mapsOut == (Tryz.pinned.checked.prog).mapsAmong Tryz.f4.resultTypes.toList)) = true := by kernel_rfl
theorem j16 : ((Rows.deskKeepsRow.loops == (Tryz.f4.params.toList ++ ((OpenSpec.ofChange Rows.deskKeepsSpec).bare).plain.varTypes (Tryz.pinned.checked.prog)).any ((Tryz.pinned.checked.prog).loopsFrom ·))) = true := by kernel_rfl
theorem j17 : ((Rows.deskKeepsRow.wideKeys == (Tryz.f4.params.toList ++ ((OpenSpec.ofChange Rows.deskKeepsSpec).bare).plain.varTypes (Tryz.pinned.checked.prog) ++ Tryz.f4.resultTypes.toList).any ((Tryz.pinned.checked.prog).wideKeysFrom ·))) = true := by kernel_rfl
theorem j18 : (((OpenSpec.ofChange Rows.deskKeepsSpec).bare).vars.all ((Tryz.pinned.checked.prog).varReadable ·)) = true := by kernel_rfl
theorem j19 : (Tryz.f4.resultTypes.all (fun t => (Tryz.pinned.checked.prog).readableRec t && decide (t < (Tryz.pinned.checked.prog).types.size))) = true := by kernel_rfl
theorem j20 : ((Rows.deskKeepsRow.ifacesOut == Tryz.f4.resultTypes.toList.any ((Tryz.pinned.checked.prog).ifacesRec ·))) = true := by kernel_rfl
theorem j21 : ((Rows.deskKeepsRow.loopsOut == Tryz.f4.resultTypes.toList.any ((Tryz.pinned.checked.prog).loopsFrom ·))) = true := by kernel_rfl
theorem j22 : ((Rows.deskKeepsRow.plainKeys == (Tryz.pinned.checked.prog).plainKeys)) = true := by kernel_rfl
theorem j23 : (Rows.deskKeepsRow.shortTexts.isNone) = true := by kernel_rfl
theorem j24 : ((Tryz.pinned.checked.prog).stopsHeard) = true := by kernel_rfl
theorem j25 : ((Tryz.pinned.checked.prog).mayEnter) = true := by kernel_rfl
theorem j26 : ((Rows.deskKeepsRow.lifted == (Tryz.pinned.checked.prog).liftsFinal)) = true := by kernel_rfl
theorem j27 : (((Tryz.pinned.checked.prog).make == some Rows.deskKeepsRow.make)) = true := by kernel_rfl
theorem j28 : ((Rows.deskKeepsRow.kinds == (if Rows.deskKeepsRow.domain.isEmpty then [] else Tryz.f4.params.toList.map fun t => match (Tryz.pinned.checked.prog).underlying t with | some (.int k) => some k | _ => none))) = true := by kernel_rfl
theorem j29 : ((Rows.deskKeepsRow.pinned == Rows.deskKeepsRow.pinnedBy)) = true := by kernel_rfl
theorem j30 : ((Rows.deskKeepsRow.veiled == (Tryz.f4.params.toList ++ ((OpenSpec.ofChange Rows.deskKeepsSpec).bare).plain.varTypes (Tryz.pinned.checked.prog) ++ Tryz.f4.resultTypes.toList).any ((Tryz.pinned.checked.prog).veiledRec ·))) = true := by kernel_rfl
theorem j31 : (Rows.deskKeepsRow.veiledFits (Tryz.pinned.checked.prog) Tryz.f4.params.toList (Tryz.f4.params.toList ++ ((OpenSpec.ofChange Rows.deskKeepsSpec).bare).plain.varTypes (Tryz.pinned.checked.prog) ++ Tryz.f4.resultTypes.toList)) = true := by kernel_rfl
end Go.Proofs.YtgmndgnhejdnaaaGreatDoor.deskKeeps
