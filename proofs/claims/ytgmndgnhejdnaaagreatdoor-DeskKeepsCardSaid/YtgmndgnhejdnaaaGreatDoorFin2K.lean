/- A part of the statement: laid plain. -/
import Derived.Test.YtgmndgnhejdnaaaGreatDoorXRowK
import Derived.Test.YtgmndgnhejdnaaaGreatDoorAxE
import Derived.Test.YtgmndgnhejdnaaaGreatDoorCards
import Derived.Test.YtgmndgnhejdnaaaGreatDoorChecked
import Derived.ProofKit
import Derived.OpenShut
import Derived.Deep.DeepWitnessRowRef
import Derived.LaidMore
import Derived.Lay
import Derived.SevenTiedAt
import Derived.Stop.Joined
namespace Go.Proofs.YtgmndgnhejdnaaaGreatDoor.deskKeeps
open Go.ChangeShapes Go.WideShapes Go.ChangeAt Go.RowKit Go.AX
set_option maxRecDepth 100000
noncomputable def w0 (os : Os) : World :=
  let h := World.holding Tryz.prog os ⟨#[], #[], []⟩
  { h with heap := h.heap.modify 22 fun
      | .cells _ t frozen => .cells #[.iface 516 (.agg #[.pointer (some ⟨28, 27, none⟩)])] t frozen
      | o => o }
noncomputable def laidWorld (os : Os) : World := (w0 os).layVars Tryz.prog plainE
theorem laid_plain (os : Os) : laidMet Tryz.prog plainE (laidWorld os) := by
  have e1 : (plainE.filter fun x => (plainE.map (·.1)).contains x.1) = plainE := List.filter_eq_self.2 fun x hx => List.contains_iff_mem.2 (List.mem_map.2 ⟨x, hx, rfl⟩)
  have e2 : (plainE.filter fun x => !(plainE.map (·.1)).contains x.1) = [] := List.filter_eq_nil_iff.2 fun x hx => by rw [List.contains_iff_mem.2 (List.mem_map.2 ⟨x, hx, rfl⟩)]; simp
  exact laidMet_layVars (w0 := w0 os) (plainE.map (·.1)) [] (by rw [e1]; rfl) (by rw [e1]; kernel_rfl) (by rw [e1]; kernel_rfl) (by rw [e2]; exact LaidIn.none)
end Go.Proofs.YtgmndgnhejdnaaaGreatDoor.deskKeeps
