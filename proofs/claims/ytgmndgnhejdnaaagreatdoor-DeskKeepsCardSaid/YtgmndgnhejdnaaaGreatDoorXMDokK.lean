/- The calls as a contract. -/
import Derived.Test.YtgmndgnhejdnaaaGreatDoorXMCokK
import Derived.Test.YtgmndgnhejdnaaaGreatDoorRMD0K
import Derived.Test.YtgmndgnhejdnaaaGreatDoorRMD3K
namespace Go.Proofs.YtgmndgnhejdnaaaGreatDoor
open Go.AX Go.RowKit
set_option maxRecDepth 100000
theorem tabD_run : ∀ e, e ∈ tabD → memoRun (callN (tabAt tabQ) XC 200 67) HE e = true :=
  all_cons td0 (all_cons td1 (all_cons td2 (all_cons td3 (all_cons td4 (all_cons td5 (all_nil))))))
theorem xD_at (X : Ext) (f : FuncId) (g : CallH → List AV → AH → R (AV × AH)) (h : XD f = some g) : OneOk Tryz.prog X f g := by
  unfold XD at h
  rw [bsel_eq] at h
  split at h
  · rename_i e
    obtain rfl : f = 67 := by simpa using e
    refine ext_of ?_ h
    have := memo_ok (X := X) (n := 28) (sg := sgOf) (s := strOf) (l := tabs) (gh := 22) (ev := 27) (pt := 536) (et := 538) (ev' := 427) (rt := 516) (tid := 27) (k := 200) (es := tabD) Tryz.func67 (by kernel_rfl) rfl k67 extC tab_all (by kernel_rfl) tabs_lt hand_lt tabs_ne (by rw [globals_size]; exact tabD_run)
    rw [globals_size] at this
    exact this
  · exact xC_at X f g h
theorem extD : ExtOk Tryz.prog XD := fun f g ih h => xD_at XD f g h ih
theorem ext4 : ExtOk Tryz.prog XD := extD
end Go.Proofs.YtgmndgnhejdnaaaGreatDoor
