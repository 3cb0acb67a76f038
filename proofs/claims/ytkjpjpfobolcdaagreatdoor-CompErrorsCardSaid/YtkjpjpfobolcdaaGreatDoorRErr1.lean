/- Runs of CompErrors. -/
import Derived.Test.YtkjpjpfobolcdaaGreatDoorRComp
namespace Go.Proofs.YtkjpjpfobolcdaaGreatDoor
open Go.AX
set_option maxRecDepth 100000
noncomputable section
theorem e_swap_5 (k a : Int) : runL call4 (E1 (.ofNat 5)) (atE k a) = runL call4 (E2 (.ofNat 5) (numI k 8)) (atE k a) :=
  swap_at 11 3 (o := opsAt 11 (E1 (.ofNat 5))) (d := .loc) (f := callF (nat_lit 6) [(L (nat_lit 2)), (L (nat_lit 0))]) (by kernel_rfl) (by kernel_rfl) (by kernel_rfl) (by kernel_rfl)
theorem e_5_0 (k a : Int) : isTrueR (endE (.ofNat 5) (.ofNat 0) k a) = true := by kernel_rfl
theorem e_5_1 (k a : Int) : isTrueR (endE (.ofNat 5) (.ofNat 1) k a) = true := by kernel_rfl
theorem e_5_2 (k a : Int) : isTrueR (endE (.ofNat 5) (.ofNat 2) k a) = true := by kernel_rfl
theorem e_5_3 (k a : Int) : isTrueR (endE (.ofNat 5) (.ofNat 3) k a) = true := by kernel_rfl
theorem e_5_4 (k a : Int) : isTrueR (endE (.ofNat 5) (.ofNat 4) k a) = true := by kernel_rfl
theorem e_5_5 (k a : Int) : isTrueR (endE (.ofNat 5) (.ofNat 5) k a) = true := by kernel_rfl
theorem e_5_6 (k a : Int) : isTrueR (endE (.ofNat 5) (.ofNat 6) k a) = true := by kernel_rfl
theorem e_5_7 (k a : Int) : isTrueR (endE (.ofNat 5) (.ofNat 7) k a) = true := by kernel_rfl
theorem e_5 (k a : Int) (hx : numI a 10 = .ofNat 5) : isTrueR (runFn call4 noCall c3 [.int .i64 k, .int .i64 a] HE) = true := by
  rw [e_to k a _ hx, e_swap_5]
  obtain ⟨q, hq, hlt⟩ := numI_lt k (m := 8) (by omega) (by omega)
  rw [hq]
  have h5 : q = 0 ∨ q = 1 ∨ q = 2 ∨ q = 3 ∨ q = 4 ∨ q = 5 ∨ q = 6 ∨ q = 7 := by omega
  rcases h5 with h | h | h | h | h | h | h | h
  · rw [h]; exact e_5_0 k a
  · rw [h]; exact e_5_1 k a
  · rw [h]; exact e_5_2 k a
  · rw [h]; exact e_5_3 k a
  · rw [h]; exact e_5_4 k a
  · rw [h]; exact e_5_5 k a
  · rw [h]; exact e_5_6 k a
  · rw [h]; exact e_5_7 k a
theorem e_swap_6 (k a : Int) : runL call4 (E1 (.ofNat 6)) (atE k a) = runL call4 (E2 (.ofNat 6) (numI k 8)) (atE k a) :=
  swap_at 11 3 (o := opsAt 11 (E1 (.ofNat 6))) (d := .loc) (f := callF (nat_lit 6) [(L (nat_lit 2)), (L (nat_lit 0))]) (by kernel_rfl) (by kernel_rfl) (by kernel_rfl) (by kernel_rfl)
theorem e_6_0 (k a : Int) : isTrueR (endE (.ofNat 6) (.ofNat 0) k a) = true := by kernel_rfl
theorem e_6_1 (k a : Int) : isTrueR (endE (.ofNat 6) (.ofNat 1) k a) = true := by kernel_rfl
theorem e_6_2 (k a : Int) : isTrueR (endE (.ofNat 6) (.ofNat 2) k a) = true := by kernel_rfl
theorem e_6_3 (k a : Int) : isTrueR (endE (.ofNat 6) (.ofNat 3) k a) = true := by kernel_rfl
theorem e_6_4 (k a : Int) : isTrueR (endE (.ofNat 6) (.ofNat 4) k a) = true := by kernel_rfl
theorem e_6_5 (k a : Int) : isTrueR (endE (.ofNat 6) (.ofNat 5) k a) = true := by kernel_rfl
theorem e_6_6 (k a : Int) : isTrueR (endE (.ofNat 6) (.ofNat 6) k a) = true := by kernel_rfl
theorem e_6_7 (k a : Int) : isTrueR (endE (.ofNat 6) (.ofNat 7) k a) = true := by kernel_rfl
theorem e_6 (k a : Int) (hx : numI a 10 = .ofNat 6) : isTrueR (runFn call4 noCall c3 [.int .i64 k, .int .i64 a] HE) = true := by
  rw [e_to k a _ hx, e_swap_6]
  obtain ⟨q, hq, hlt⟩ := numI_lt k (m := 8) (by omega) (by omega)
  rw [hq]
  have h5 : q = 0 ∨ q = 1 ∨ q = 2 ∨ q = 3 ∨ q = 4 ∨ q = 5 ∨ q = 6 ∨ q = 7 := by omega
  rcases h5 with h | h | h | h | h | h | h | h
  · rw [h]; exact e_6_0 k a
  · rw [h]; exact e_6_1 k a
  · rw [h]; exact e_6_2 k a
  · rw [h]; exact e_6_3 k a
  · rw [h]; exact e_6_4 k a
  · rw [h]; exact e_6_5 k a
  · rw [h]; exact e_6_6 k a
  · rw [h]; exact e_6_7 k a
theorem e_swap_7 (k a : Int) : runL call4 (E1 (.ofNat 7)) (atE k a) = runL call4 (E2 (.ofNat 7) (numI k 8)) (atE k a) :=
  swap_at 11 3 (o := opsAt 11 (E1 (.ofNat 7))) (d := .loc) (f := callF (nat_lit 6) [(L (nat_lit 2)), (L (nat_lit 0))]) (by kernel_rfl) (by kernel_rfl) (by kernel_rfl) (by kernel_rfl)
theorem e_7_0 (k a : Int) : isTrueR (endE (.ofNat 7) (.ofNat 0) k a) = true := by kernel_rfl
theorem e_7_1 (k a : Int) : isTrueR (endE (.ofNat 7) (.ofNat 1) k a) = true := by kernel_rfl
theorem e_7_2 (k a : Int) : isTrueR (endE (.ofNat 7) (.ofNat 2) k a) = true := by kernel_rfl
theorem e_7_3 (k a : Int) : isTrueR (endE (.ofNat 7) (.ofNat 3) k a) = true := by kernel_rfl
theorem e_7_4 (k a : Int) : isTrueR (endE (.ofNat 7) (.ofNat 4) k a) = true := by kernel_rfl
theorem e_7_5 (k a : Int) : isTrueR (endE (.ofNat 7) (.ofNat 5) k a) = true := by kernel_rfl
theorem e_7_6 (k a : Int) : isTrueR (endE (.ofNat 7) (.ofNat 6) k a) = true := by kernel_rfl
theorem e_7_7 (k a : Int) : isTrueR (endE (.ofNat 7) (.ofNat 7) k a) = true := by kernel_rfl
theorem e_7 (k a : Int) (hx : numI a 10 = .ofNat 7) : isTrueR (runFn call4 noCall c3 [.int .i64 k, .int .i64 a] HE) = true := by
  rw [e_to k a _ hx, e_swap_7]
  obtain ⟨q, hq, hlt⟩ := numI_lt k (m := 8) (by omega) (by omega)
  rw [hq]
  have h5 : q = 0 ∨ q = 1 ∨ q = 2 ∨ q = 3 ∨ q = 4 ∨ q = 5 ∨ q = 6 ∨ q = 7 := by omega
  rcases h5 with h | h | h | h | h | h | h | h
  · rw [h]; exact e_7_0 k a
  · rw [h]; exact e_7_1 k a
  · rw [h]; exact e_7_2 k a
  · rw [h]; exact e_7_3 k a
  · rw [h]; exact e_7_4 k a
  · rw [h]; exact e_7_5 k a
  · rw [h]; exact e_7_6 k a
  · rw [h]; exact e_7_7 k a
theorem e_swap_8 (k a : Int) : runL call4 (E1 (.ofNat 8)) (atE k a) = runL call4 (E2 (.ofNat 8) (numI k 8)) (atE k a) :=
  swap_at 11 3 (o := opsAt 11 (E1 (.ofNat 8))) (d := .loc) (f := callF (nat_lit 6) [(L (nat_lit 2)), (L (nat_lit 0))]) (by kernel_rfl) (by kernel_rfl) (by kernel_rfl) (by kernel_rfl)
theorem e_8_0 (k a : Int) : isTrueR (endE (.ofNat 8) (.ofNat 0) k a) = true := by kernel_rfl
theorem e_8_1 (k a : Int) : isTrueR (endE (.ofNat 8) (.ofNat 1) k a) = true := by kernel_rfl
theorem e_8_2 (k a : Int) : isTrueR (endE (.ofNat 8) (.ofNat 2) k a) = true := by kernel_rfl
theorem e_8_3 (k a : Int) : isTrueR (endE (.ofNat 8) (.ofNat 3) k a) = true := by kernel_rfl
theorem e_8_4 (k a : Int) : isTrueR (endE (.ofNat 8) (.ofNat 4) k a) = true := by kernel_rfl
theorem e_8_5 (k a : Int) : isTrueR (endE (.ofNat 8) (.ofNat 5) k a) = true := by kernel_rfl
theorem e_8_6 (k a : Int) : isTrueR (endE (.ofNat 8) (.ofNat 6) k a) = true := by kernel_rfl
theorem e_8_7 (k a : Int) : isTrueR (endE (.ofNat 8) (.ofNat 7) k a) = true := by kernel_rfl
theorem e_8 (k a : Int) (hx : numI a 10 = .ofNat 8) : isTrueR (runFn call4 noCall c3 [.int .i64 k, .int .i64 a] HE) = true := by
  rw [e_to k a _ hx, e_swap_8]
  obtain ⟨q, hq, hlt⟩ := numI_lt k (m := 8) (by omega) (by omega)
  rw [hq]
  have h5 : q = 0 ∨ q = 1 ∨ q = 2 ∨ q = 3 ∨ q = 4 ∨ q = 5 ∨ q = 6 ∨ q = 7 := by omega
  rcases h5 with h | h | h | h | h | h | h | h
  · rw [h]; exact e_8_0 k a
  · rw [h]; exact e_8_1 k a
  · rw [h]; exact e_8_2 k a
  · rw [h]; exact e_8_3 k a
  · rw [h]; exact e_8_4 k a
  · rw [h]; exact e_8_5 k a
  · rw [h]; exact e_8_6 k a
  · rw [h]; exact e_8_7 k a
theorem e_swap_9 (k a : Int) : runL call4 (E1 (.ofNat 9)) (atE k a) = runL call4 (E2 (.ofNat 9) (numI k 8)) (atE k a) :=
  swap_at 11 3 (o := opsAt 11 (E1 (.ofNat 9))) (d := .loc) (f := callF (nat_lit 6) [(L (nat_lit 2)), (L (nat_lit 0))]) (by kernel_rfl) (by kernel_rfl) (by kernel_rfl) (by kernel_rfl)
theorem e_9_0 (k a : Int) : isTrueR (endE (.ofNat 9) (.ofNat 0) k a) = true := by kernel_rfl
theorem e_9_1 (k a : Int) : isTrueR (endE (.ofNat 9) (.ofNat 1) k a) = true := by kernel_rfl
theorem e_9_2 (k a : Int) : isTrueR (endE (.ofNat 9) (.ofNat 2) k a) = true := by kernel_rfl
theorem e_9_3 (k a : Int) : isTrueR (endE (.ofNat 9) (.ofNat 3) k a) = true := by kernel_rfl
theorem e_9_4 (k a : Int) : isTrueR (endE (.ofNat 9) (.ofNat 4) k a) = true := by kernel_rfl
theorem e_9_5 (k a : Int) : isTrueR (endE (.ofNat 9) (.ofNat 5) k a) = true := by kernel_rfl
theorem e_9_6 (k a : Int) : isTrueR (endE (.ofNat 9) (.ofNat 6) k a) = true := by kernel_rfl
theorem e_9_7 (k a : Int) : isTrueR (endE (.ofNat 9) (.ofNat 7) k a) = true := by kernel_rfl
theorem e_9 (k a : Int) (hx : numI a 10 = .ofNat 9) : isTrueR (runFn call4 noCall c3 [.int .i64 k, .int .i64 a] HE) = true := by
  rw [e_to k a _ hx, e_swap_9]
  obtain ⟨q, hq, hlt⟩ := numI_lt k (m := 8) (by omega) (by omega)
  rw [hq]
  have h5 : q = 0 ∨ q = 1 ∨ q = 2 ∨ q = 3 ∨ q = 4 ∨ q = 5 ∨ q = 6 ∨ q = 7 := by omega
  rcases h5 with h | h | h | h | h | h | h | h
  · rw [h]; exact e_9_0 k a
  · rw [h]; exact e_9_1 k a
  · rw [h]; exact e_9_2 k a
  · rw [h]; exact e_9_3 k a
  · rw [h]; exact e_9_4 k a
  · rw [h]; exact e_9_5 k a
  · rw [h]; exact e_9_6 k a
  · rw [h]; exact e_9_7 k a
end
end Go.Proofs.YtkjpjpfobolcdaaGreatDoor
