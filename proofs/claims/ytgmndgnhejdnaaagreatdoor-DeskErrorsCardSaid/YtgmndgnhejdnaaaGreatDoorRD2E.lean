/- Runs of the statement. -/
import Derived.Test.YtgmndgnhejdnaaaGreatDoorRCompE
namespace Go.Proofs.YtgmndgnhejdnaaaGreatDoor
open Go.AX
set_option maxRecDepth 100000
noncomputable section
theorem s_swap_8 (n0 : Int) : runL call4 (S1 (.ofNat 8)) (atS n0) = runL call4 (S2 (.ofNat 8) (numI n0 5)) (atS n0) :=
  swap_at 12 5 (o := opsAt 12 (S1 (.ofNat 8))) (d := .loc) (f := callF (nat_lit 8) [(L (nat_lit 2)), (L (nat_lit 0))]) (by kernel_rfl) (by kernel_rfl) (by kernel_rfl) (by kernel_rfl)
theorem s_8_0 (n0 : Int) : isTrueR (endS (.ofNat 8) (.ofNat 0) n0) = true := by kernel_rfl
theorem s_8_1 (n0 : Int) : isTrueR (endS (.ofNat 8) (.ofNat 1) n0) = true := by kernel_rfl
theorem s_8_2 (n0 : Int) : isTrueR (endS (.ofNat 8) (.ofNat 2) n0) = true := by kernel_rfl
theorem s_8_3 (n0 : Int) : isTrueR (endS (.ofNat 8) (.ofNat 3) n0) = true := by kernel_rfl
theorem s_8_4 (n0 : Int) : isTrueR (endS (.ofNat 8) (.ofNat 4) n0) = true := by kernel_rfl
theorem s_8 (n0 : Int) (hx : numI n0 13 = .ofNat 8) : isTrueR (runFn call4 noCall c3 [.int .i64 n0] HE) = true := by
  rw [s_to n0 _ hx, s_swap_8]
  obtain ⟨q, hq, hlt⟩ := numI_lt n0 (m := 5) (by omega) (by omega)
  rw [hq]
  have h5 : q = 0 ∨ q = 1 ∨ q = 2 ∨ q = 3 ∨ q = 4 := by omega
  rcases h5 with h | h | h | h | h
  · rw [h]; exact s_8_0 n0
  · rw [h]; exact s_8_1 n0
  · rw [h]; exact s_8_2 n0
  · rw [h]; exact s_8_3 n0
  · rw [h]; exact s_8_4 n0
theorem s_swap_9 (n0 : Int) : runL call4 (S1 (.ofNat 9)) (atS n0) = runL call4 (S2 (.ofNat 9) (numI n0 5)) (atS n0) :=
  swap_at 12 5 (o := opsAt 12 (S1 (.ofNat 9))) (d := .loc) (f := callF (nat_lit 8) [(L (nat_lit 2)), (L (nat_lit 0))]) (by kernel_rfl) (by kernel_rfl) (by kernel_rfl) (by kernel_rfl)
theorem s_9_0 (n0 : Int) : isTrueR (endS (.ofNat 9) (.ofNat 0) n0) = true := by kernel_rfl
theorem s_9_1 (n0 : Int) : isTrueR (endS (.ofNat 9) (.ofNat 1) n0) = true := by kernel_rfl
theorem s_9_2 (n0 : Int) : isTrueR (endS (.ofNat 9) (.ofNat 2) n0) = true := by kernel_rfl
theorem s_9_3 (n0 : Int) : isTrueR (endS (.ofNat 9) (.ofNat 3) n0) = true := by kernel_rfl
theorem s_9_4 (n0 : Int) : isTrueR (endS (.ofNat 9) (.ofNat 4) n0) = true := by kernel_rfl
theorem s_9 (n0 : Int) (hx : numI n0 13 = .ofNat 9) : isTrueR (runFn call4 noCall c3 [.int .i64 n0] HE) = true := by
  rw [s_to n0 _ hx, s_swap_9]
  obtain ⟨q, hq, hlt⟩ := numI_lt n0 (m := 5) (by omega) (by omega)
  rw [hq]
  have h5 : q = 0 ∨ q = 1 ∨ q = 2 ∨ q = 3 ∨ q = 4 := by omega
  rcases h5 with h | h | h | h | h
  · rw [h]; exact s_9_0 n0
  · rw [h]; exact s_9_1 n0
  · rw [h]; exact s_9_2 n0
  · rw [h]; exact s_9_3 n0
  · rw [h]; exact s_9_4 n0
theorem s_swap_10 (n0 : Int) : runL call4 (S1 (.ofNat 10)) (atS n0) = runL call4 (S2 (.ofNat 10) (numI n0 5)) (atS n0) :=
  swap_at 12 5 (o := opsAt 12 (S1 (.ofNat 10))) (d := .loc) (f := callF (nat_lit 8) [(L (nat_lit 2)), (L (nat_lit 0))]) (by kernel_rfl) (by kernel_rfl) (by kernel_rfl) (by kernel_rfl)
theorem s_10_0 (n0 : Int) : isTrueR (endS (.ofNat 10) (.ofNat 0) n0) = true := by kernel_rfl
theorem s_10_1 (n0 : Int) : isTrueR (endS (.ofNat 10) (.ofNat 1) n0) = true := by kernel_rfl
theorem s_10_2 (n0 : Int) : isTrueR (endS (.ofNat 10) (.ofNat 2) n0) = true := by kernel_rfl
theorem s_10_3 (n0 : Int) : isTrueR (endS (.ofNat 10) (.ofNat 3) n0) = true := by kernel_rfl
theorem s_10_4 (n0 : Int) : isTrueR (endS (.ofNat 10) (.ofNat 4) n0) = true := by kernel_rfl
theorem s_10 (n0 : Int) (hx : numI n0 13 = .ofNat 10) : isTrueR (runFn call4 noCall c3 [.int .i64 n0] HE) = true := by
  rw [s_to n0 _ hx, s_swap_10]
  obtain ⟨q, hq, hlt⟩ := numI_lt n0 (m := 5) (by omega) (by omega)
  rw [hq]
  have h5 : q = 0 ∨ q = 1 ∨ q = 2 ∨ q = 3 ∨ q = 4 := by omega
  rcases h5 with h | h | h | h | h
  · rw [h]; exact s_10_0 n0
  · rw [h]; exact s_10_1 n0
  · rw [h]; exact s_10_2 n0
  · rw [h]; exact s_10_3 n0
  · rw [h]; exact s_10_4 n0
theorem s_swap_11 (n0 : Int) : runL call4 (S1 (.ofNat 11)) (atS n0) = runL call4 (S2 (.ofNat 11) (numI n0 5)) (atS n0) :=
  swap_at 12 5 (o := opsAt 12 (S1 (.ofNat 11))) (d := .loc) (f := callF (nat_lit 8) [(L (nat_lit 2)), (L (nat_lit 0))]) (by kernel_rfl) (by kernel_rfl) (by kernel_rfl) (by kernel_rfl)
theorem s_11_0 (n0 : Int) : isTrueR (endS (.ofNat 11) (.ofNat 0) n0) = true := by kernel_rfl
theorem s_11_1 (n0 : Int) : isTrueR (endS (.ofNat 11) (.ofNat 1) n0) = true := by kernel_rfl
theorem s_11_2 (n0 : Int) : isTrueR (endS (.ofNat 11) (.ofNat 2) n0) = true := by kernel_rfl
theorem s_11_3 (n0 : Int) : isTrueR (endS (.ofNat 11) (.ofNat 3) n0) = true := by kernel_rfl
theorem s_11_4 (n0 : Int) : isTrueR (endS (.ofNat 11) (.ofNat 4) n0) = true := by kernel_rfl
theorem s_11 (n0 : Int) (hx : numI n0 13 = .ofNat 11) : isTrueR (runFn call4 noCall c3 [.int .i64 n0] HE) = true := by
  rw [s_to n0 _ hx, s_swap_11]
  obtain ⟨q, hq, hlt⟩ := numI_lt n0 (m := 5) (by omega) (by omega)
  rw [hq]
  have h5 : q = 0 ∨ q = 1 ∨ q = 2 ∨ q = 3 ∨ q = 4 := by omega
  rcases h5 with h | h | h | h | h
  · rw [h]; exact s_11_0 n0
  · rw [h]; exact s_11_1 n0
  · rw [h]; exact s_11_2 n0
  · rw [h]; exact s_11_3 n0
  · rw [h]; exact s_11_4 n0
end
end Go.Proofs.YtgmndgnhejdnaaaGreatDoor
