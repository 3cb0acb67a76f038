/- Runs of CompErrors. -/
import Derived.Test.YtkjpjpfobolcdaaGreatDoorRComp
namespace Go.Proofs.YtkjpjpfobolcdaaGreatDoor
open Go.AX
set_option maxRecDepth 100000
noncomputable section
theorem e_swap_0 (k a : Int) : runL call4 (E1 (.ofNat 0)) (atE k a) = runL call4 (E2 (.ofNat 0) (numI k 8)) (atE k a) :=
  swap_at 11 3 (o := opsAt 11 (E1 (.ofNat 0))) (d := .loc) (f := callF (nat_lit 6) [(L (nat_lit 2)), (L (nat_lit 0))]) (by kernel_rfl) (by kernel_rfl) (by kernel_rfl) (by kernel_rfl)
theorem e_0_0 (k a : Int) : isTrueR (endE (.ofNat 0) (.ofNat 0) k a) = true := by kernel_rfl
theorem e_0_1 (k a : Int) : isTrueR (endE (.ofNat 0) (.ofNat 1) k a) = true := by kernel_rfl
theorem e_0_2 (k a : Int) : isTrueR (endE (.ofNat 0) (.ofNat 2) k a) = true := by kernel_rfl
theorem e_0_3 (k a : Int) : isTrueR (endE (.ofNat 0) (.ofNat 3) k a) = true := by kernel_rfl
theorem e_0_4 (k a : Int) : isTrueR (endE (.ofNat 0) (.ofNat 4) k a) = true := by kernel_rfl
theorem e_0_5 (k a : Int) : isTrueR (endE (.ofNat 0) (.ofNat 5) k a) = true := by kernel_rfl
theorem e_0_6 (k a : Int) : isTrueR (endE (.ofNat 0) (.ofNat 6) k a) = true := by kernel_rfl
theorem e_0_7 (k a : Int) : isTrueR (endE (.ofNat 0) (.ofNat 7) k a) = true := by kernel_rfl
theorem e_0 (k a : Int) (hx : numI a 10 = .ofNat 0) : isTrueR (runFn call4 noCall c3 [.int .i64 k, .int .i64 a] HE) = true := by
  rw [e_to k a _ hx, e_swap_0]
  obtain ⟨q, hq, hlt⟩ := numI_lt k (m := 8) (by omega) (by omega)
  rw [hq]
  have h5 : q = 0 ∨ q = 1 ∨ q = 2 ∨ q = 3 ∨ q = 4 ∨ q = 5 ∨ q = 6 ∨ q = 7 := by omega
  rcases h5 with h | h | h | h | h | h | h | h
  · rw [h]; exact e_0_0 k a
  · rw [h]; exact e_0_1 k a
  · rw [h]; exact e_0_2 k a
  · rw [h]; exact e_0_3 k a
  · rw [h]; exact e_0_4 k a
  · rw [h]; exact e_0_5 k a
  · rw [h]; exact e_0_6 k a
  · rw [h]; exact e_0_7 k a
theorem e_swap_1 (k a : Int) : runL call4 (E1 (.ofNat 1)) (atE k a) = runL call4 (E2 (.ofNat 1) (numI k 8)) (atE k a) :=
  swap_at 11 3 (o := opsAt 11 (E1 (.ofNat 1))) (d := .loc) (f := callF (nat_lit 6) [(L (nat_lit 2)), (L (nat_lit 0))]) (by kernel_rfl) (by kernel_rfl) (by kernel_rfl) (by kernel_rfl)
theorem e_1_0 (k a : Int) : isTrueR (endE (.ofNat 1) (.ofNat 0) k a) = true := by kernel_rfl
theorem e_1_1 (k a : Int) : isTrueR (endE (.ofNat 1) (.ofNat 1) k a) = true := by kernel_rfl
theorem e_1_2 (k a : Int) : isTrueR (endE (.ofNat 1) (.ofNat 2) k a) = true := by kernel_rfl
theorem e_1_3 (k a : Int) : isTrueR (endE (.ofNat 1) (.ofNat 3) k a) = true := by kernel_rfl
theorem e_1_4 (k a : Int) : isTrueR (endE (.ofNat 1) (.ofNat 4) k a) = true := by kernel_rfl
theorem e_1_5 (k a : Int) : isTrueR (endE (.ofNat 1) (.ofNat 5) k a) = true := by kernel_rfl
theorem e_1_6 (k a : Int) : isTrueR (endE (.ofNat 1) (.ofNat 6) k a) = true := by kernel_rfl
theorem e_1_7 (k a : Int) : isTrueR (endE (.ofNat 1) (.ofNat 7) k a) = true := by kernel_rfl
theorem e_1 (k a : Int) (hx : numI a 10 = .ofNat 1) : isTrueR (runFn call4 noCall c3 [.int .i64 k, .int .i64 a] HE) = true := by
  rw [e_to k a _ hx, e_swap_1]
  obtain ⟨q, hq, hlt⟩ := numI_lt k (m := 8) (by omega) (by omega)
  rw [hq]
  have h5 : q = 0 ∨ q = 1 ∨ q = 2 ∨ q = 3 ∨ q = 4 ∨ q = 5 ∨ q = 6 ∨ q = 7 := by omega
  rcases h5 with h | h | h | h | h | h | h | h
  · rw [h]; exact e_1_0 k a
  · rw [h]; exact e_1_1 k a
  · rw [h]; exact e_1_2 k a
  · rw [h]; exact e_1_3 k a
  · rw [h]; exact e_1_4 k a
  · rw [h]; exact e_1_5 k a
  · rw [h]; exact e_1_6 k a
  · rw [h]; exact e_1_7 k a
theorem e_swap_2 (k a : Int) : runL call4 (E1 (.ofNat 2)) (atE k a) = runL call4 (E2 (.ofNat 2) (numI k 8)) (atE k a) :=
  swap_at 11 3 (o := opsAt 11 (E1 (.ofNat 2))) (d := .loc) (f := callF (nat_lit 6) [(L (nat_lit 2)), (L (nat_lit 0))]) (by kernel_rfl) (by kernel_rfl) (by kernel_rfl) (by kernel_rfl)
theorem e_2_0 (k a : Int) : isTrueR (endE (.ofNat 2) (.ofNat 0) k a) = true := by kernel_rfl
theorem e_2_1 (k a : Int) : isTrueR (endE (.ofNat 2) (.ofNat 1) k a) = true := by kernel_rfl
theorem e_2_2 (k a : Int) : isTrueR (endE (.ofNat 2) (.ofNat 2) k a) = true := by kernel_rfl
theorem e_2_3 (k a : Int) : isTrueR (endE (.ofNat 2) (.ofNat 3) k a) = true := by kernel_rfl
theorem e_2_4 (k a : Int) : isTrueR (endE (.ofNat 2) (.ofNat 4) k a) = true := by kernel_rfl
theorem e_2_5 (k a : Int) : isTrueR (endE (.ofNat 2) (.ofNat 5) k a) = true := by kernel_rfl
theorem e_2_6 (k a : Int) : isTrueR (endE (.ofNat 2) (.ofNat 6) k a) = true := by kernel_rfl
theorem e_2_7 (k a : Int) : isTrueR (endE (.ofNat 2) (.ofNat 7) k a) = true := by kernel_rfl
theorem e_2 (k a : Int) (hx : numI a 10 = .ofNat 2) : isTrueR (runFn call4 noCall c3 [.int .i64 k, .int .i64 a] HE) = true := by
  rw [e_to k a _ hx, e_swap_2]
  obtain ⟨q, hq, hlt⟩ := numI_lt k (m := 8) (by omega) (by omega)
  rw [hq]
  have h5 : q = 0 ∨ q = 1 ∨ q = 2 ∨ q = 3 ∨ q = 4 ∨ q = 5 ∨ q = 6 ∨ q = 7 := by omega
  rcases h5 with h | h | h | h | h | h | h | h
  · rw [h]; exact e_2_0 k a
  · rw [h]; exact e_2_1 k a
  · rw [h]; exact e_2_2 k a
  · rw [h]; exact e_2_3 k a
  · rw [h]; exact e_2_4 k a
  · rw [h]; exact e_2_5 k a
  · rw [h]; exact e_2_6 k a
  · rw [h]; exact e_2_7 k a
theorem e_swap_3 (k a : Int) : runL call4 (E1 (.ofNat 3)) (atE k a) = runL call4 (E2 (.ofNat 3) (numI k 8)) (atE k a) :=
  swap_at 11 3 (o := opsAt 11 (E1 (.ofNat 3))) (d := .loc) (f := callF (nat_lit 6) [(L (nat_lit 2)), (L (nat_lit 0))]) (by kernel_rfl) (by kernel_rfl) (by kernel_rfl) (by kernel_rfl)
theorem e_3_0 (k a : Int) : isTrueR (endE (.ofNat 3) (.ofNat 0) k a) = true := by kernel_rfl
theorem e_3_1 (k a : Int) : isTrueR (endE (.ofNat 3) (.ofNat 1) k a) = true := by kernel_rfl
theorem e_3_2 (k a : Int) : isTrueR (endE (.ofNat 3) (.ofNat 2) k a) = true := by kernel_rfl
theorem e_3_3 (k a : Int) : isTrueR (endE (.ofNat 3) (.ofNat 3) k a) = true := by kernel_rfl
theorem e_3_4 (k a : Int) : isTrueR (endE (.ofNat 3) (.ofNat 4) k a) = true := by kernel_rfl
theorem e_3_5 (k a : Int) : isTrueR (endE (.ofNat 3) (.ofNat 5) k a) = true := by kernel_rfl
theorem e_3_6 (k a : Int) : isTrueR (endE (.ofNat 3) (.ofNat 6) k a) = true := by kernel_rfl
theorem e_3_7 (k a : Int) : isTrueR (endE (.ofNat 3) (.ofNat 7) k a) = true := by kernel_rfl
theorem e_3 (k a : Int) (hx : numI a 10 = .ofNat 3) : isTrueR (runFn call4 noCall c3 [.int .i64 k, .int .i64 a] HE) = true := by
  rw [e_to k a _ hx, e_swap_3]
  obtain ⟨q, hq, hlt⟩ := numI_lt k (m := 8) (by omega) (by omega)
  rw [hq]
  have h5 : q = 0 ∨ q = 1 ∨ q = 2 ∨ q = 3 ∨ q = 4 ∨ q = 5 ∨ q = 6 ∨ q = 7 := by omega
  rcases h5 with h | h | h | h | h | h | h | h
  · rw [h]; exact e_3_0 k a
  · rw [h]; exact e_3_1 k a
  · rw [h]; exact e_3_2 k a
  · rw [h]; exact e_3_3 k a
  · rw [h]; exact e_3_4 k a
  · rw [h]; exact e_3_5 k a
  · rw [h]; exact e_3_6 k a
  · rw [h]; exact e_3_7 k a
theorem e_swap_4 (k a : Int) : runL call4 (E1 (.ofNat 4)) (atE k a) = runL call4 (E2 (.ofNat 4) (numI k 8)) (atE k a) :=
  swap_at 11 3 (o := opsAt 11 (E1 (.ofNat 4))) (d := .loc) (f := callF (nat_lit 6) [(L (nat_lit 2)), (L (nat_lit 0))]) (by kernel_rfl) (by kernel_rfl) (by kernel_rfl) (by kernel_rfl)
theorem e_4_0 (k a : Int) : isTrueR (endE (.ofNat 4) (.ofNat 0) k a) = true := by kernel_rfl
theorem e_4_1 (k a : Int) : isTrueR (endE (.ofNat 4) (.ofNat 1) k a) = true := by kernel_rfl
theorem e_4_2 (k a : Int) : isTrueR (endE (.ofNat 4) (.ofNat 2) k a) = true := by kernel_rfl
theorem e_4_3 (k a : Int) : isTrueR (endE (.ofNat 4) (.ofNat 3) k a) = true := by kernel_rfl
theorem e_4_4 (k a : Int) : isTrueR (endE (.ofNat 4) (.ofNat 4) k a) = true := by kernel_rfl
theorem e_4_5 (k a : Int) : isTrueR (endE (.ofNat 4) (.ofNat 5) k a) = true := by kernel_rfl
theorem e_4_6 (k a : Int) : isTrueR (endE (.ofNat 4) (.ofNat 6) k a) = true := by kernel_rfl
theorem e_4_7 (k a : Int) : isTrueR (endE (.ofNat 4) (.ofNat 7) k a) = true := by kernel_rfl
theorem e_4 (k a : Int) (hx : numI a 10 = .ofNat 4) : isTrueR (runFn call4 noCall c3 [.int .i64 k, .int .i64 a] HE) = true := by
  rw [e_to k a _ hx, e_swap_4]
  obtain ⟨q, hq, hlt⟩ := numI_lt k (m := 8) (by omega) (by omega)
  rw [hq]
  have h5 : q = 0 ∨ q = 1 ∨ q = 2 ∨ q = 3 ∨ q = 4 ∨ q = 5 ∨ q = 6 ∨ q = 7 := by omega
  rcases h5 with h | h | h | h | h | h | h | h
  · rw [h]; exact e_4_0 k a
  · rw [h]; exact e_4_1 k a
  · rw [h]; exact e_4_2 k a
  · rw [h]; exact e_4_3 k a
  · rw [h]; exact e_4_4 k a
  · rw [h]; exact e_4_5 k a
  · rw [h]; exact e_4_6 k a
  · rw [h]; exact e_4_7 k a
end
end Go.Proofs.YtkjpjpfobolcdaaGreatDoor
