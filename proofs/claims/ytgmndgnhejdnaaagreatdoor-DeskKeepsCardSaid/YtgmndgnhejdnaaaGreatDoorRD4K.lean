/- Runs of the statement. -/
import Derived.Test.YtgmndgnhejdnaaaGreatDoorRCompK
namespace Go.Proofs.YtgmndgnhejdnaaaGreatDoor
open Go.AX
set_option maxRecDepth 100000
noncomputable section
theorem s_swap_4 (n0 n1 : Int) : runL call4 (S1 (.ofNat 4)) (atS n0 n1) = runL call4 (S2 (.ofNat 4) (numI n1 6)) (atS n0 n1) :=
  swap_at 5 1 (o := opsAt 5 (S1 (.ofNat 4))) (d := .loc) (f := callF (nat_lit 8) [(L (nat_lit 0)), (C (.int .i64 (.ofNat (nat_lit 6))))]) (by kernel_rfl) (by kernel_rfl) (by kernel_rfl) (by kernel_rfl)
theorem s_4_0 (n0 n1 : Int) : isTrueR (endS (.ofNat 4) (.ofNat 0) n0 n1) = true := by kernel_rfl
theorem s_4_1 (n0 n1 : Int) : isTrueR (endS (.ofNat 4) (.ofNat 1) n0 n1) = true := by kernel_rfl
theorem s_4_2 (n0 n1 : Int) : isTrueR (endS (.ofNat 4) (.ofNat 2) n0 n1) = true := by kernel_rfl
theorem s_4_3 (n0 n1 : Int) : isTrueR (endS (.ofNat 4) (.ofNat 3) n0 n1) = true := by kernel_rfl
theorem s_4_4 (n0 n1 : Int) : isTrueR (endS (.ofNat 4) (.ofNat 4) n0 n1) = true := by kernel_rfl
theorem s_4_5 (n0 n1 : Int) : isTrueR (endS (.ofNat 4) (.ofNat 5) n0 n1) = true := by kernel_rfl
theorem s_4 (n0 n1 : Int) (hx : numI n0 5 = .ofNat 4) : isTrueR (runFn call4 noCall c4 [.int .i64 n0, .int .i64 n1] HE) = true := by
  rw [s_to n0 n1 _ hx, s_swap_4]
  obtain ⟨q, hq, hlt⟩ := numI_lt n1 (m := 6) (by omega) (by omega)
  rw [hq]
  have h5 : q = 0 ∨ q = 1 ∨ q = 2 ∨ q = 3 ∨ q = 4 ∨ q = 5 := by omega
  rcases h5 with h | h | h | h | h | h
  · rw [h]; exact s_4_0 n0 n1
  · rw [h]; exact s_4_1 n0 n1
  · rw [h]; exact s_4_2 n0 n1
  · rw [h]; exact s_4_3 n0 n1
  · rw [h]; exact s_4_4 n0 n1
  · rw [h]; exact s_4_5 n0 n1
end
end Go.Proofs.YtgmndgnhejdnaaaGreatDoor
