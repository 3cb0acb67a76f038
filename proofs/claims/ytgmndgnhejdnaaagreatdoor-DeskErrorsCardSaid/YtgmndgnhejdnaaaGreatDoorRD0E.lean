/- Runs of the statement. -/
import Derived.Test.YtgmndgnhejdnaaaGreatDoorRCompE
namespace Go.Proofs.YtgmndgnhejdnaaaGreatDoor
open Go.AX
set_option maxRecDepth 100000
noncomputable section
theorem s_swap_0 (n0 : Int) : runL call4 (S1 (.ofNat 0)) (atS n0) = runL call4 (S2 (.ofNat 0) (numI n0 5)) (atS n0) :=
  swap_at 12 5 (o := opsAt 12 (S1 (.ofNat 0))) (d := .loc) (f := callF (nat_lit 8) [(L (nat_lit 2)), (L (nat_lit 0))]) (by kernel_rfl) (by kernel_rfl) (by kernel_rfl) (by kernel_rfl)
theorem s_0_0 (n0 : Int) : isTrueR (endS (.ofNat 0) (.ofNat 0) n0) = true := by kernel_rfl
theorem s_0_1 (n0 : Int) : isTrueR (endS (.ofNat 0) (.ofNat 1) n0) = true := by kernel_rfl
theorem s_0_2 (n0 : Int) : isTrueR (endS (.ofNat 0) (.ofNat 2) n0) = true := by kernel_rfl
theorem s_0_3 (n0 : Int) : isTrueR (endS (.ofNat 0) (.ofNat 3) n0) = true := by kernel_rfl
theorem s_0_4 (n0 : Int) : isTrueR (endS (.ofNat 0) (.ofNat 4) n0) = true := by kernel_rfl
theorem s_0 (n0 : Int) (hx : numI n0 13 = .ofNat 0) : isTrueR (runFn call4 noCall c3 [.int .i64 n0] HE) = true := by
  rw [s_to n0 _ hx, s_swap_0]
  obtain ⟨q, hq, hlt⟩ := numI_lt n0 (m := 5) (by omega) (by omega)
  rw [hq]
  have h5 : q = 0 ∨ q = 1 ∨ q = 2 ∨ q = 3 ∨ q = 4 := by omega
  rcases h5 with h | h | h | h | h
  · rw [h]; exact s_0_0 n0
  · rw [h]; exact s_0_1 n0
  · rw [h]; exact s_0_2 n0
  · rw [h]; exact s_0_3 n0
  · rw [h]; exact s_0_4 n0
theorem s_swap_1 (n0 : Int) : runL call4 (S1 (.ofNat 1)) (atS n0) = runL call4 (S2 (.ofNat 1) (numI n0 5)) (atS n0) :=
  swap_at 12 5 (o := opsAt 12 (S1 (.ofNat 1))) (d := .loc) (f := callF (nat_lit 8) [(L (nat_lit 2)), (L (nat_lit 0))]) (by kernel_rfl) (by kernel_rfl) (by kernel_rfl) (by kernel_rfl)
theorem s_1_0 (n0 : Int) : isTrueR (endS (.ofNat 1) (.ofNat 0) n0) = true := by kernel_rfl
theorem s_1_1 (n0 : Int) : isTrueR (endS (.ofNat 1) (.ofNat 1) n0) = true := by kernel_rfl
theorem s_1_2 (n0 : Int) : isTrueR (endS (.ofNat 1) (.ofNat 2) n0) = true := by kernel_rfl
theorem s_1_3 (n0 : Int) : isTrueR (endS (.ofNat 1) (.ofNat 3) n0) = true := by kernel_rfl
theorem s_1_4 (n0 : Int) : isTrueR (endS (.ofNat 1) (.ofNat 4) n0) = true := by kernel_rfl
theorem s_1 (n0 : Int) (hx : numI n0 13 = .ofNat 1) : isTrueR (runFn call4 noCall c3 [.int .i64 n0] HE) = true := by
  rw [s_to n0 _ hx, s_swap_1]
  obtain ⟨q, hq, hlt⟩ := numI_lt n0 (m := 5) (by omega) (by omega)
  rw [hq]
  have h5 : q = 0 ∨ q = 1 ∨ q = 2 ∨ q = 3 ∨ q = 4 := by omega
  rcases h5 with h | h | h | h | h
  · rw [h]; exact s_1_0 n0
  · rw [h]; exact s_1_1 n0
  · rw [h]; exact s_1_2 n0
  · rw [h]; exact s_1_3 n0
  · rw [h]; exact s_1_4 n0
theorem s_swap_2 (n0 : Int) : runL call4 (S1 (.ofNat 2)) (atS n0) = runL call4 (S2 (.ofNat 2) (numI n0 5)) (atS n0) :=
  swap_at 12 5 (o := opsAt 12 (S1 (.ofNat 2))) (d := .loc) (f := callF (nat_lit 8) [(L (nat_lit 2)), (L (nat_lit 0))]) (by kernel_rfl) (by kernel_rfl) (by kernel_rfl) (by kernel_rfl)
theorem s_2_0 (n0 : Int) : isTrueR (endS (.ofNat 2) (.ofNat 0) n0) = true := by kernel_rfl
theorem s_2_1 (n0 : Int) : isTrueR (endS (.ofNat 2) (.ofNat 1) n0) = true := by kernel_rfl
theorem s_2_2 (n0 : Int) : isTrueR (endS (.ofNat 2) (.ofNat 2) n0) = true := by kernel_rfl
theorem s_2_3 (n0 : Int) : isTrueR (endS (.ofNat 2) (.ofNat 3) n0) = true := by kernel_rfl
theorem s_2_4 (n0 : Int) : isTrueR (endS (.ofNat 2) (.ofNat 4) n0) = true := by kernel_rfl
theorem s_2 (n0 : Int) (hx : numI n0 13 = .ofNat 2) : isTrueR (runFn call4 noCall c3 [.int .i64 n0] HE) = true := by
  rw [s_to n0 _ hx, s_swap_2]
  obtain ⟨q, hq, hlt⟩ := numI_lt n0 (m := 5) (by omega) (by omega)
  rw [hq]
  have h5 : q = 0 ∨ q = 1 ∨ q = 2 ∨ q = 3 ∨ q = 4 := by omega
  rcases h5 with h | h | h | h | h
  · rw [h]; exact s_2_0 n0
  · rw [h]; exact s_2_1 n0
  · rw [h]; exact s_2_2 n0
  · rw [h]; exact s_2_3 n0
  · rw [h]; exact s_2_4 n0
theorem s_swap_3 (n0 : Int) : runL call4 (S1 (.ofNat 3)) (atS n0) = runL call4 (S2 (.ofNat 3) (numI n0 5)) (atS n0) :=
  swap_at 12 5 (o := opsAt 12 (S1 (.ofNat 3))) (d := .loc) (f := callF (nat_lit 8) [(L (nat_lit 2)), (L (nat_lit 0))]) (by kernel_rfl) (by kernel_rfl) (by kernel_rfl) (by kernel_rfl)
theorem s_3_0 (n0 : Int) : isTrueR (endS (.ofNat 3) (.ofNat 0) n0) = true := by kernel_rfl
theorem s_3_1 (n0 : Int) : isTrueR (endS (.ofNat 3) (.ofNat 1) n0) = true := by kernel_rfl
theorem s_3_2 (n0 : Int) : isTrueR (endS (.ofNat 3) (.ofNat 2) n0) = true := by kernel_rfl
theorem s_3_3 (n0 : Int) : isTrueR (endS (.ofNat 3) (.ofNat 3) n0) = true := by kernel_rfl
theorem s_3_4 (n0 : Int) : isTrueR (endS (.ofNat 3) (.ofNat 4) n0) = true := by kernel_rfl
theorem s_3 (n0 : Int) (hx : numI n0 13 = .ofNat 3) : isTrueR (runFn call4 noCall c3 [.int .i64 n0] HE) = true := by
  rw [s_to n0 _ hx, s_swap_3]
  obtain ⟨q, hq, hlt⟩ := numI_lt n0 (m := 5) (by omega) (by omega)
  rw [hq]
  have h5 : q = 0 ∨ q = 1 ∨ q = 2 ∨ q = 3 ∨ q = 4 := by omega
  rcases h5 with h | h | h | h | h
  · rw [h]; exact s_3_0 n0
  · rw [h]; exact s_3_1 n0
  · rw [h]; exact s_3_2 n0
  · rw [h]; exact s_3_3 n0
  · rw [h]; exact s_3_4 n0
end
end Go.Proofs.YtgmndgnhejdnaaaGreatDoor
