/- Closed facts of the row. -/
import Derived.Test.YtkjpjpfobolcdaaGreatDoorCards
import Derived.Test.YtkjpjpfobolcdaaGreatDoorChecked
import Derived.ProofKit
import Derived.OpenShut
import Derived.SevenTiedAt
namespace Go.Proofs.YtkjpjpfobolcdaaGreatDoor.compLimits
open Go.ChangeShapes Go.WideShapes Go.ChangeAt Go.RowKit
set_option maxRecDepth 100000
theorem j12 : ((Rows.compLimitsRow.named == (Tryz.pinned.checked.prog).varsNamed 4)) = true := by kernel_rfl
theorem j13 : ((Rows.compLimitsRow.maps == (Tryz.f4.params.toList ++ ((OpenSpec.ofChange Rows.compLimitsSpec).bare).plain.varTypes (Tryz.pinned.checked.prog)).any ((Tryz.pinned.checked.prog).mapsRec ·))) = true := by kernel_rfl
theorem j14 : ((Rows.compLimitsRow.ifaces == (Tryz.f4.params.toList ++ ((OpenSpec.ofChange Rows.compLimitsSpec).bare).plain.varTypes (Tryz.pinned.checked.prog)).any ((Tryz.pinned.checked.prog).ifacesRec ·))) = true := by kernel_rfl
theorem j15 : ((Rows.compLimitsRow.mapsOut == (Tryz.pinned.checked.prog).mapsAmong Tryz.f4.resultTypes.toList)) = true := by kernel_rfl
theorem j16 : ((Rows.compLimitsRow.loops == (Tryz.f4.params.toList ++ ((OpenSpec.ofChange Rows.compLimitsSpec).bare).plain.varTypes (Tryz.pinned.checked.prog)).any ((Tryz.pinned.checked.prog).loopsFrom ·))) = true := by kernel_rfl
theorem j17 : ((Rows.compLimitsRow.wideKeys == (Tryz.f4.params.toList ++ ((OpenSpec.ofChange Rows.compLimitsSpec).bare).plain.varTypes (Tryz.pinned.checked.prog) ++ Tryz.f4.resultTypes.toList).any ((Tryz.pinned.checked.prog).wideKeysFrom ·))) = true := by kernel_rfl
theorem j18 : (((OpenSpec.ofChange Rows.compLimitsSpec).bare).vars.all ((Tryz.pinned.checked.prog).varReadable ·)) = true := by kernel_rfl
theorem j19 : (Tryz.f4.resultTypes.all (fun t => (Tryz.pinned.checked.prog).readableRec t && decide (t < (Tryz.pinned.checked.prog).types.size))) = true := by kernel_rfl
theorem j20 : ((Rows.compLimitsRow.ifacesOut == Tryz.f4.resultTypes.toList.any ((Tryz.pinned.checked.prog).ifacesRec ·))) = true := by kernel_rfl
theorem j21 : ((Rows.compLimitsRow.loopsOut == Tryz.f4.resultTypes.toList.any ((Tryz.pinned.checked.prog).loopsFrom ·))) = true := by kernel_rfl
theorem j22 : ((Rows.compLimitsRow.plainKeys == (Tryz.pinned.checked.prog).plainKeys)) = true := by kernel_rfl
theorem j23 : (Rows.compLimitsRow.shortTexts.isNone) = true := by kernel_rfl
theorem j24 : ((Tryz.pinned.checked.prog).stopsHeard) = true := by kernel_rfl
theorem j25 : ((Tryz.pinned.checked.prog).mayEnter) = true := by kernel_rfl
theorem j26 : ((Rows.compLimitsRow.lifted == (Tryz.pinned.checked.prog).liftsFinal)) = true := by kernel_rfl
theorem j27 : (((Tryz.pinned.checked.prog).make == some Rows.compLimitsRow.make)) = true := by kernel_rfl
theorem j28 : ((Rows.compLimitsRow.kinds == (if Rows.compLimitsRow.domain.isEmpty then [] else Tryz.f4.params.toList.map fun t => match (Tryz.pinned.checked.prog).underlying t with | some (.int k) => some k | _ => none))) = true := by kernel_rfl
theorem j29 : ((Rows.compLimitsRow.pinned == Rows.compLimitsRow.pinnedBy)) = true := by kernel_rfl
theorem j30 : ((Rows.compLimitsRow.veiled == (Tryz.f4.params.toList ++ ((OpenSpec.ofChange Rows.compLimitsSpec).bare).plain.varTypes (Tryz.pinned.checked.prog) ++ Tryz.f4.resultTypes.toList).any ((Tryz.pinned.checked.prog).veiledRec ·))) = true := by kernel_rfl
theorem j31 : (Rows.compLimitsRow.veiledFits (Tryz.pinned.checked.prog) Tryz.f4.params.toList (Tryz.f4.params.toList ++ ((OpenSpec.ofChange Rows.compLimitsSpec).bare).plain.varTypes (Tryz.pinned.checked.prog) ++ Tryz.f4.resultTypes.toList)) = true := by kernel_rfl
end Go.Proofs.YtkjpjpfobolcdaaGreatDoor.compLimits
