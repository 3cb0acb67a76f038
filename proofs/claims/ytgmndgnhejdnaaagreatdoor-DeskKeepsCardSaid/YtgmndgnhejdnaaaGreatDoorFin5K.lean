/- A part of the statement: said. -/
import Derived.Test.YtgmndgnhejdnaaaGreatDoorFin4K
import Derived.Test.YtgmndgnhejdnaaaGreatDoorFinJ1K
import Derived.Test.YtgmndgnhejdnaaaGreatDoorFinJ2K
import Derived.Test.YtgmndgnhejdnaaaGreatDoorFinJ3K
import Derived.Test.YtgmndgnhejdnaaaGreatDoorFinJ4K
namespace Go.Proofs.YtgmndgnhejdnaaaGreatDoor.deskKeeps
open Go.ChangeShapes Go.WideShapes Go.ChangeAt Go.RowKit Go.AX
set_option maxRecDepth 100000
theorem band2 {a b : Bool} (ha : a = true) (hb : b = true) : (a && b) = true := by rw [ha, hb]; rfl
theorem closed : joinedFacts Tryz.pinned.checked.prog 4 Tryz.f4 ((OpenSpec.ofChange Rows.deskKeepsSpec).bare) Rows.deskKeepsRow = true := by
  unfold joinedFacts
  exact (band2 (band2 (band2 (band2 (band2 (band2 (band2 (band2 (band2 (band2 (band2 (band2 (band2 (band2 (band2 (band2 (band2 (band2 (band2 (band2 (band2 (band2 (band2 (band2 (band2 (band2 (band2 (band2 (band2 (band2 (band2 j0 j1) j2) j3) j4) j5) j6) j7) j8) j9) j10) j11) j12) j13) j14) j15) j16) j17) j18) j19) j20) j21) j22) j23) j24) j25) j26) j27) j28) j29) j30) j31)
theorem said : Rows.DeskKeepsSaid :=
  OpenClaim.holds_of_cond 4 Tryz.f4 rfl rfl rfl rfl rfl rfl rfl ⟨rfl, rfl, rfl, rfl, rfl⟩ rfl rfl rfl rfl rfl (by kernel_rfl) Tryz.func4 closed
    (of_decide_eq_true (by kernel_rfl)) (by unfold Func.isWrapper; first | (rw [if_pos (by decide +kernel)]; kernel_rfl) | (rw [if_neg (by decide +kernel)]; exact ⟨rfl, rfl⟩))
    (fun os started H enc _ F => by rw [OpenClaim.pre_eq_preRow]; exact lifted os started H enc F)
end Go.Proofs.YtgmndgnhejdnaaaGreatDoor.deskKeeps
