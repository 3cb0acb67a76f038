/- Closed facts of the row. -/
import Derived.Test.YtgmndgnhejdnaaaGreatDoorCards
import Derived.Test.YtgmndgnhejdnaaaGreatDoorChecked
import Derived.ProofKit
import Derived.OpenShut
import Derived.SevenTiedAt
namespace Go.Proofs.YtgmndgnhejdnaaaGreatDoor.deskErrors
open Go.ChangeShapes Go.WideShapes Go.ChangeAt Go.RowKit
set_option maxRecDepth 100000
theorem j13 : ((Rows.deskErrorsRow.maps == (Tryz.f3.params.toList ++ ((OpenSpec.ofChange Rows.deskErrorsSpec).bare).plain.varTypes (Tryz.pinned.checked.prog)).any ((Tryz.pinned.checked.prog).mapsRec ·))) = true := by kernel_rfl
theorem j14 : ((Rows.deskErrorsRow.ifaces == (Tryz.f3.params.toList ++ ((OpenSpec.ofChange Rows.deskErrorsSpec).bare).plain.varTypes (Tryz.pinned.checked.prog)).any ((Tryz.pinned.checked.prog).ifacesRec ·))) = true := by kernel_rfl
theorem j15 : ((Rows.deskErrorsRow.mapsOut == (Tryz.pinned.checked.prog).mapsAmong Tryz.f3.resultTypes.toList)) = true := by kernel_rfl
theorem j16 : ((Rows.deskErrorsRow.loops == (Tryz.f3.params.toList ++ ((OpenSpec.ofChange Rows.deskErrorsSpec).bare).plain.varTypes (Tryz.pinned.checked.prog)).any ((Tryz.pinned.checked.prog).loopsFrom ·))) = true := by kernel_rfl
theorem j17 : ((Rows.deskErrorsRow.wideKeys == (Tryz.f3.params.toList ++ ((OpenSpec.ofChange Rows.deskErrorsSpec).bare).plain.varTypes (Tryz.pinned.checked.prog) ++ Tryz.f3.resultTypes.toList).any ((Tryz.pinned.checked.prog).wideKeysFrom ·))) = true := by kernel_rfl
theorem j18 : (((OpenSpec.ofChange Rows.deskErrorsSpec).bare).vars.all ((Tryz.pinned.checked.prog).varReadable ·)) = true := by kernel_rfl
theorem j19 : (Tryz.f3.resultTypes.all (fun t => (Tryz.pinned.checked.prog).readableRec t && decide (t < (Tryz.pinned.checked.prog).types.size))) = true := by kernel_rfl
theorem j20 : ((Rows.deskErrorsRow.ifacesOut == Tryz.f3.resultTypes.toList.any ((Tryz.pinned.checked.prog).ifacesRec ·))) = true := by kernel_rfl
theorem j21 : ((Rows.deskErrorsRow.loopsOut == Tryz.f3.resultTypes.toList.any ((Tryz.pinned.checked.prog).loopsFrom ·))) = true := by kernel_rfl
theorem j22 : ((Rows.deskErrorsRow.plainKeys == (Tryz.pinned.checked.prog).plainKeys)) = true := by kernel_rfl
theorem j23 : (Rows.deskErrorsRow.shortTexts.isNone) = true := by kernel_rfl
theorem j24 : ((Tryz.pinned.checked.prog).stopsHeard) = true := by kernel_rfl
theorem j25 : ((Tryz.pinned.checked.prog).mayEnter) = true := by kernel_rfl
theorem j26 : ((Rows.deskErrorsRow.lifted == (Tryz.pinned.checked.prog).liftsFinal)) = true := by kernel_rfl
theorem j27 : (((Tryz.pinned.checked.prog).make == some Rows.deskErrorsRow.make)) = true := by kernel_rfl
theorem j28 : ((Rows.deskErrorsRow.kinds == (if Rows.deskErrorsRow.domain.isEmpty then [] else Tryz.f3.params.toList.map fun t => match (Tryz.pinned.checked.prog).underlying t with | some (.int k) => some k | _ => none))) = true := by kernel_rfl
theorem j29 : ((Rows.deskErrorsRow.pinned == Rows.deskErrorsRow.pinnedBy)) = true := by kernel_rfl
theorem j30 : ((Rows.deskErrorsRow.veiled == (Tryz.f3.params.toList ++ ((OpenSpec.ofChange Rows.deskErrorsSpec).bare).plain.varTypes (Tryz.pinned.checked.prog) ++ Tryz.f3.resultTypes.toList).any ((Tryz.pinned.checked.prog).veiledRec ·))) = true := by kernel_rfl
theorem j31 : (Rows.deskErrorsRow.veiledFits (Tryz.pinned.checked.prog) Tryz.f3.params.toList (Tryz.f3.params.toList ++ ((OpenSpec.ofChange Rows.deskErrorsSpec).bare).plain.varTypes (Tryz.pinned.checked.prog) ++ Tryz.f3.resultTypes.toList)) = true := by kernel_rfl
end Go.Proofs.YtgmndgnhejdnaaaGreatDoor.deskErrors
