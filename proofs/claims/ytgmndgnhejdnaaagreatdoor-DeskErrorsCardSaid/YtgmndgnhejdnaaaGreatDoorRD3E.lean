/- Runs of the statement. -/
import Derived.Test.YtgmndgnhejdnaaaGreatDoorRCompE
namespace Go.Proofs.YtgmndgnhejdnaaaGreatDoor
open Go.AX
set_option maxRecDepth 100000
noncomputable section
theorem s_swap_12 (n0 : Int) : runL call4 (S1 (.ofNat 12)) (atS n0) = runL call4 (S2 (.ofNat 12) (numI n0 5)) (atS n0) :=
  swap_at 12 5 (o := opsAt 12 (S1 (.ofNat 12))) (d := .loc) (f := callF (nat_lit 8) [(L (nat_lit 2)), (L (nat_lit 0))]) (by kernel_rfl) (by kernel_rfl) (by kernel_rfl) (by kernel_rfl)
theorem s_12_0 (n0 : Int) : isTrueR (endS (.ofNat 12) (.ofNat 0) n0) = true := by kernel_rfl
theorem s_12_1 (n0 : Int) : isTrueR (endS (.ofNat 12) (.ofNat 1) n0) = true := by kernel_rfl
theorem s_12_2 (n0 : Int) : isTrueR (endS (.ofNat 12) (.ofNat 2) n0) = true := by kernel_rfl
theorem s_12_3 (n0 : Int) : isTrueR (endS (.ofNat 12) (.ofNat 3) n0) = true := by kernel_rfl
theorem s_12_4 (n0 : Int) : isTrueR (endS (.ofNat 12) (.ofNat 4) n0) = true := by kernel_rfl
theorem s_12 (n0 : Int) (hx : numI n0 13 = .ofNat 12) : isTrueR (runFn call4 noCall c3 [.int .i64 n0] HE) = true := by
  rw [s_to n0 _ hx, s_swap_12]
  obtain ⟨q, hq, hlt⟩ := numI_lt n0 (m := 5) (by omega) (by omega)
  rw [hq]
  have h5 : q = 0 ∨ q = 1 ∨ q = 2 ∨ q = 3 ∨ q = 4 := by omega
  rcases h5 with h | h | h | h | h
  · rw [h]; exact s_12_0 n0
  · rw [h]; exact s_12_1 n0
  · rw [h]; exact s_12_2 n0
  · rw [h]; exact s_12_3 n0
  · rw [h]; exact s_12_4 n0
end
end Go.Proofs.YtgmndgnhejdnaaaGreatDoor
