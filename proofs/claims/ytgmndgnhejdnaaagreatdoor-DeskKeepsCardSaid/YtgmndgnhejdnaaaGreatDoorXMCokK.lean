/- The calls as a contract. -/
import Derived.Test.YtgmndgnhejdnaaaGreatDoorXFirstK
import Derived.Test.YtgmndgnhejdnaaaGreatDoorRMC0K
import Derived.Test.YtgmndgnhejdnaaaGreatDoorRMC3K
namespace Go.Proofs.YtgmndgnhejdnaaaGreatDoor
open Go.AX Go.RowKit
set_option maxRecDepth 100000
theorem tabC_run : ∀ e, e ∈ tabC → memoRun (callN (tabAt tabQ) X2 200 51) HE e = true :=
  all_cons tc0 (all_cons tc1 (all_cons tc2 (all_cons tc3 (all_cons tc4 (all_cons tc5 (all_nil))))))
theorem xC_at (X : Ext) (f : FuncId) (g : CallH → List AV → AH → R (AV × AH)) (h : XC f = some g) : OneOk Tryz.prog X f g := by
  unfold XC at h
  rw [bsel_eq] at h
  split at h
  · rename_i e
    obtain rfl : f = 51 := by simpa using e
    refine ext_of ?_ h
    have := memo_ok (X := X) (n := 28) (sg := sgOf) (s := strOf) (l := tabs) (gh := 22) (ev := 27) (pt := 536) (et := 538) (ev' := 427) (rt := 516) (tid := 27) (k := 200) (es := tabC) Tryz.func51 (by kernel_rfl) rfl k51 ext2 tab_all (by kernel_rfl) tabs_lt hand_lt tabs_ne (by rw [globals_size]; exact tabC_run)
    rw [globals_size] at this
    exact this
  · exact x2_at X f g h
theorem extC : ExtOk Tryz.prog XC := fun f g ih h => xC_at XC f g h ih
end Go.Proofs.YtgmndgnhejdnaaaGreatDoor
