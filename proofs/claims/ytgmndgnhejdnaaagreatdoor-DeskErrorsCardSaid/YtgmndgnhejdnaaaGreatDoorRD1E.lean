/- Runs of the statement. -/
import Derived.Test.YtgmndgnhejdnaaaGreatDoorRCompE
namespace Go.Proofs.YtgmndgnhejdnaaaGreatDoor
open Go.AX
set_option maxRecDepth 100000
noncomputable section
theorem s_swap_4 (n0 : Int) : runL call4 (S1 (.ofNat 4)) (atS n0) = runL call4 (S2 (.ofNat 4) (numI n0 5)) (atS n0) :=
  swap_at 12 5 (o := opsAt 12 (S1 (.ofNat 4))) (d := .loc) (f := callF (nat_lit 8) [(L (nat_lit 2)), (L (nat_lit 0))]) (by kernel_rfl) (by kernel_rfl) (by kernel_rfl) (by kernel_rfl)
theorem s_4_0 (n0 : Int) : isTrueR (endS (.ofNat 4) (.ofNat 0) n0) = true := by kernel_rfl
theorem s_4_1 (n0 : Int) : isTrueR (endS (.ofNat 4) (.ofNat 1) n0) = true := by kernel_rfl
theorem s_4_2 (n0 : Int) : isTrueR (endS (.ofNat 4) (.ofNat 2) n0) = true := by kernel_rfl
theorem s_4_3 (n0 : Int) : isTrueR (endS (.ofNat 4) (.ofNat 3) n0) = true := by kernel_rfl
theorem s_4_4 (n0 : Int) : isTrueR (endS (.ofNat 4) (.ofNat 4) n0) = true := by kernel_rfl
theorem s_4 (n0 : Int) (hx : numI n0 13 = .ofNat 4) : isTrueR (runFn call4 noCall c3 [.int .i64 n0] HE) = true := by
  rw [s_to n0 _ hx, s_swap_4]
  obtain ⟨q, hq, hlt⟩ := numI_lt n0 (m := 5) (by omega) (by omega)
  rw [hq]
  have h5 : q = 0 ∨ q = 1 ∨ q = 2 ∨ q = 3 ∨ q = 4 := by omega
  rcases h5 with h | h | h | h | h
  · rw [h]; exact s_4_0 n0
  · rw [h]; exact s_4_1 n0
  · rw [h]; exact s_4_2 n0
  · rw [h]; exact s_4_3 n0
  · rw [h]; exact s_4_4 n0
theorem s_swap_5 (n0 : Int) : runL call4 (S1 (.ofNat 5)) (atS n0) = runL call4 (S2 (.ofNat 5) (numI n0 5)) (atS n0) :=
  swap_at 12 5 (o := opsAt 12 (S1 (.ofNat 5))) (d := .loc) (f := callF (nat_lit 8) [(L (nat_lit 2)), (L (nat_lit 0))]) (by kernel_rfl) (by kernel_rfl) (by kernel_rfl) (by kernel_rfl)
theorem s_5_0 (n0 : Int) : isTrueR (endS (.ofNat 5) (.ofNat 0) n0) = true := by kernel_rfl
theorem s_5_1 (n0 : Int) : isTrueR (endS (.ofNat 5) (.ofNat 1) n0) = true := by kernel_rfl
theorem s_5_2 (n0 : Int) : isTrueR (endS (.ofNat 5) (.ofNat 2) n0) = true := by kernel_rfl
theorem s_5_3 (n0 : Int) : isTrueR (endS (.ofNat 5) (.ofNat 3) n0) = true := by kernel_rfl
theorem s_5_4 (n0 : Int) : isTrueR (endS (.ofNat 5) (.ofNat 4) n0) = true := by kernel_rfl
theorem s_5 (n0 : Int) (hx : numI n0 13 = .ofNat 5) : isTrueR (runFn call4 noCall c3 [.int .i64 n0] HE) = true := by
  rw [s_to n0 _ hx, s_swap_5]
  obtain ⟨q, hq, hlt⟩ := numI_lt n0 (m := 5) (by omega) (by omega)
  rw [hq]
  have h5 : q = 0 ∨ q = 1 ∨ q = 2 ∨ q = 3 ∨ q = 4 := by omega
  rcases h5 with h | h | h | h | h
  · rw [h]; exact s_5_0 n0
  · rw [h]; exact s_5_1 n0
  · rw [h]; exact s_5_2 n0
  · rw [h]; exact s_5_3 n0
  · rw [h]; exact s_5_4 n0
theorem s_swap_6 (n0 : Int) : runL call4 (S1 (.ofNat 6)) (atS n0) = runL call4 (S2 (.ofNat 6) (numI n0 5)) (atS n0) :=
  swap_at 12 5 (o := opsAt 12 (S1 (.ofNat 6))) (d := .loc) (f := callF (nat_lit 8) [(L (nat_lit 2)), (L (nat_lit 0))]) (by kernel_rfl) (by kernel_rfl) (by kernel_rfl) (by kernel_rfl)
theorem s_6_0 (n0 : Int) : isTrueR (endS (.ofNat 6) (.ofNat 0) n0) = true := by kernel_rfl
theorem s_6_1 (n0 : Int) : isTrueR (endS (.ofNat 6) (.ofNat 1) n0) = true := by kernel_rfl
theorem s_6_2 (n0 : Int) : isTrueR (endS (.ofNat 6) (.ofNat 2) n0) = true := by kernel_rfl
theorem s_6_3 (n0 : Int) : isTrueR (endS (.ofNat 6) (.ofNat 3) n0) = true := by kernel_rfl
theorem s_6_4 (n0 : Int) : isTrueR (endS (.ofNat 6) (.ofNat 4) n0) = true := by kernel_rfl
theorem s_6 (n0 : Int) (hx : numI n0 13 = .ofNat 6) : isTrueR (runFn call4 noCall c3 [.int .i64 n0] HE) = true := by
  rw [s_to n0 _ hx, s_swap_6]
  obtain ⟨q, hq, hlt⟩ := numI_lt n0 (m := 5) (by omega) (by omega)
  rw [hq]
  have h5 : q = 0 ∨ q = 1 ∨ q = 2 ∨ q = 3 ∨ q = 4 := by omega
  rcases h5 with h | h | h | h | h
  · rw [h]; exact s_6_0 n0
  · rw [h]; exact s_6_1 n0
  · rw [h]; exact s_6_2 n0
  · rw [h]; exact s_6_3 n0
  · rw [h]; exact s_6_4 n0
theorem s_swap_7 (n0 : Int) : runL call4 (S1 (.ofNat 7)) (atS n0) = runL call4 (S2 (.ofNat 7) (numI n0 5)) (atS n0) :=
  swap_at 12 5 (o := opsAt 12 (S1 (.ofNat 7))) (d := .loc) (f := callF (nat_lit 8) [(L (nat_lit 2)), (L (nat_lit 0))]) (by kernel_rfl) (by kernel_rfl) (by kernel_rfl) (by kernel_rfl)
theorem s_7_0 (n0 : Int) : isTrueR (endS (.ofNat 7) (.ofNat 0) n0) = true := by kernel_rfl
theorem s_7_1 (n0 : Int) : isTrueR (endS (.ofNat 7) (.ofNat 1) n0) = true := by kernel_rfl
theorem s_7_2 (n0 : Int) : isTrueR (endS (.ofNat 7) (.ofNat 2) n0) = true := by kernel_rfl
theorem s_7_3 (n0 : Int) : isTrueR (endS (.ofNat 7) (.ofNat 3) n0) = true := by kernel_rfl
theorem s_7_4 (n0 : Int) : isTrueR (endS (.ofNat 7) (.ofNat 4) n0) = true := by kernel_rfl
theorem s_7 (n0 : Int) (hx : numI n0 13 = .ofNat 7) : isTrueR (runFn call4 noCall c3 [.int .i64 n0] HE) = true := by
  rw [s_to n0 _ hx, s_swap_7]
  obtain ⟨q, hq, hlt⟩ := numI_lt n0 (m := 5) (by omega) (by omega)
  rw [hq]
  have h5 : q = 0 ∨ q = 1 ∨ q = 2 ∨ q = 3 ∨ q = 4 := by omega
  rcases h5 with h | h | h | h | h
  · rw [h]; exact s_7_0 n0
  · rw [h]; exact s_7_1 n0
  · rw [h]; exact s_7_2 n0
  · rw [h]; exact s_7_3 n0
  · rw [h]; exact s_7_4 n0
end
end Go.Proofs.YtgmndgnhejdnaaaGreatDoor
