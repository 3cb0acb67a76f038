/- The runs of a statement with three numbers, the first at 1. -/
import Derived.Test.YtlbfndapmlmcfaaGreatDoorRWrong
namespace Go.Proofs.YtlbfndapmlmcfaaGreatDoor
open Go.AX
set_option maxRecDepth 100000
noncomputable section
theorem w_swap_10 (i j k : Int) : runL call (W2 (.ofNat 1) (.ofNat 0)) (atW i j k) = runL call (W3 (.ofNat 1) (.ofNat 0) (numI k 6)) (atW i j k) :=
  swap_at 10 5 (o := opsAt 10 (W2 (.ofNat 1) (.ofNat 0))) (d := .loc) (f := callF (nat_lit 7) [(L (nat_lit 2)), (L (nat_lit 0))]) (by kernel_rfl) (by kernel_rfl) (by kernel_rfl) (by kernel_rfl)
theorem w_100 (i j k : Int) : isTrueR (endW (.ofNat 1) (.ofNat 0) (.ofNat 0) i j k) = true := by kernel_rfl
theorem w_101 (i j k : Int) : isTrueR (endW (.ofNat 1) (.ofNat 0) (.ofNat 1) i j k) = true := by kernel_rfl
theorem w_102 (i j k : Int) : isTrueR (endW (.ofNat 1) (.ofNat 0) (.ofNat 2) i j k) = true := by kernel_rfl
theorem w_103 (i j k : Int) : isTrueR (endW (.ofNat 1) (.ofNat 0) (.ofNat 3) i j k) = true := by kernel_rfl
theorem w_104 (i j k : Int) : isTrueR (endW (.ofNat 1) (.ofNat 0) (.ofNat 4) i j k) = true := by kernel_rfl
theorem w_105 (i j k : Int) : isTrueR (endW (.ofNat 1) (.ofNat 0) (.ofNat 5) i j k) = true := by kernel_rfl
theorem w_10 (i j k : Int) (hx : numI i 4 = .ofNat 1) (hy : numI j 4 = .ofNat 0) : isTrueR (runFn call noCall c3 [.int .i64 i, .int .i64 j, .int .i64 k] H0) = true := by
  rw [w_to i j k _ _ hx hy, w_swap_10]
  obtain ⟨q, hq, hlt⟩ := numI_lt k (m := 6) (by omega) (by omega)
  rw [hq]
  have h5 : q = 0 ∨ q = 1 ∨ q = 2 ∨ q = 3 ∨ q = 4 ∨ q = 5 := by omega
  rcases h5 with h | h | h | h | h | h
  · rw [h]; exact w_100 i j k
  · rw [h]; exact w_101 i j k
  · rw [h]; exact w_102 i j k
  · rw [h]; exact w_103 i j k
  · rw [h]; exact w_104 i j k
  · rw [h]; exact w_105 i j k
theorem w_swap_11 (i j k : Int) : runL call (W2 (.ofNat 1) (.ofNat 1)) (atW i j k) = runL call (W3 (.ofNat 1) (.ofNat 1) (numI k 6)) (atW i j k) :=
  swap_at 10 5 (o := opsAt 10 (W2 (.ofNat 1) (.ofNat 1))) (d := .loc) (f := callF (nat_lit 7) [(L (nat_lit 2)), (L (nat_lit 0))]) (by kernel_rfl) (by kernel_rfl) (by kernel_rfl) (by kernel_rfl)
theorem w_110 (i j k : Int) : isTrueR (endW (.ofNat 1) (.ofNat 1) (.ofNat 0) i j k) = true := by kernel_rfl
theorem w_111 (i j k : Int) : isTrueR (endW (.ofNat 1) (.ofNat 1) (.ofNat 1) i j k) = true := by kernel_rfl
theorem w_112 (i j k : Int) : isTrueR (endW (.ofNat 1) (.ofNat 1) (.ofNat 2) i j k) = true := by kernel_rfl
theorem w_113 (i j k : Int) : isTrueR (endW (.ofNat 1) (.ofNat 1) (.ofNat 3) i j k) = true := by kernel_rfl
theorem w_114 (i j k : Int) : isTrueR (endW (.ofNat 1) (.ofNat 1) (.ofNat 4) i j k) = true := by kernel_rfl
theorem w_115 (i j k : Int) : isTrueR (endW (.ofNat 1) (.ofNat 1) (.ofNat 5) i j k) = true := by kernel_rfl
theorem w_11 (i j k : Int) (hx : numI i 4 = .ofNat 1) (hy : numI j 4 = .ofNat 1) : isTrueR (runFn call noCall c3 [.int .i64 i, .int .i64 j, .int .i64 k] H0) = true := by
  rw [w_to i j k _ _ hx hy, w_swap_11]
  obtain ⟨q, hq, hlt⟩ := numI_lt k (m := 6) (by omega) (by omega)
  rw [hq]
  have h5 : q = 0 ∨ q = 1 ∨ q = 2 ∨ q = 3 ∨ q = 4 ∨ q = 5 := by omega
  rcases h5 with h | h | h | h | h | h
  · rw [h]; exact w_110 i j k
  · rw [h]; exact w_111 i j k
  · rw [h]; exact w_112 i j k
  · rw [h]; exact w_113 i j k
  · rw [h]; exact w_114 i j k
  · rw [h]; exact w_115 i j k
theorem w_swap_12 (i j k : Int) : runL call (W2 (.ofNat 1) (.ofNat 2)) (atW i j k) = runL call (W3 (.ofNat 1) (.ofNat 2) (numI k 6)) (atW i j k) :=
  swap_at 10 5 (o := opsAt 10 (W2 (.ofNat 1) (.ofNat 2))) (d := .loc) (f := callF (nat_lit 7) [(L (nat_lit 2)), (L (nat_lit 0))]) (by kernel_rfl) (by kernel_rfl) (by kernel_rfl) (by kernel_rfl)
theorem w_120 (i j k : Int) : isTrueR (endW (.ofNat 1) (.ofNat 2) (.ofNat 0) i j k) = true := by kernel_rfl
theorem w_121 (i j k : Int) : isTrueR (endW (.ofNat 1) (.ofNat 2) (.ofNat 1) i j k) = true := by kernel_rfl
theorem w_122 (i j k : Int) : isTrueR (endW (.ofNat 1) (.ofNat 2) (.ofNat 2) i j k) = true := by kernel_rfl
theorem w_123 (i j k : Int) : isTrueR (endW (.ofNat 1) (.ofNat 2) (.ofNat 3) i j k) = true := by kernel_rfl
theorem w_124 (i j k : Int) : isTrueR (endW (.ofNat 1) (.ofNat 2) (.ofNat 4) i j k) = true := by kernel_rfl
theorem w_125 (i j k : Int) : isTrueR (endW (.ofNat 1) (.ofNat 2) (.ofNat 5) i j k) = true := by kernel_rfl
theorem w_12 (i j k : Int) (hx : numI i 4 = .ofNat 1) (hy : numI j 4 = .ofNat 2) : isTrueR (runFn call noCall c3 [.int .i64 i, .int .i64 j, .int .i64 k] H0) = true := by
  rw [w_to i j k _ _ hx hy, w_swap_12]
  obtain ⟨q, hq, hlt⟩ := numI_lt k (m := 6) (by omega) (by omega)
  rw [hq]
  have h5 : q = 0 ∨ q = 1 ∨ q = 2 ∨ q = 3 ∨ q = 4 ∨ q = 5 := by omega
  rcases h5 with h | h | h | h | h | h
  · rw [h]; exact w_120 i j k
  · rw [h]; exact w_121 i j k
  · rw [h]; exact w_122 i j k
  · rw [h]; exact w_123 i j k
  · rw [h]; exact w_124 i j k
  · rw [h]; exact w_125 i j k
theorem w_swap_13 (i j k : Int) : runL call (W2 (.ofNat 1) (.ofNat 3)) (atW i j k) = runL call (W3 (.ofNat 1) (.ofNat 3) (numI k 6)) (atW i j k) :=
  swap_at 10 5 (o := opsAt 10 (W2 (.ofNat 1) (.ofNat 3))) (d := .loc) (f := callF (nat_lit 7) [(L (nat_lit 2)), (L (nat_lit 0))]) (by kernel_rfl) (by kernel_rfl) (by kernel_rfl) (by kernel_rfl)
theorem w_130 (i j k : Int) : isTrueR (endW (.ofNat 1) (.ofNat 3) (.ofNat 0) i j k) = true := by kernel_rfl
theorem w_131 (i j k : Int) : isTrueR (endW (.ofNat 1) (.ofNat 3) (.ofNat 1) i j k) = true := by kernel_rfl
theorem w_132 (i j k : Int) : isTrueR (endW (.ofNat 1) (.ofNat 3) (.ofNat 2) i j k) = true := by kernel_rfl
theorem w_133 (i j k : Int) : isTrueR (endW (.ofNat 1) (.ofNat 3) (.ofNat 3) i j k) = true := by kernel_rfl
theorem w_134 (i j k : Int) : isTrueR (endW (.ofNat 1) (.ofNat 3) (.ofNat 4) i j k) = true := by kernel_rfl
theorem w_135 (i j k : Int) : isTrueR (endW (.ofNat 1) (.ofNat 3) (.ofNat 5) i j k) = true := by kernel_rfl
theorem w_13 (i j k : Int) (hx : numI i 4 = .ofNat 1) (hy : numI j 4 = .ofNat 3) : isTrueR (runFn call noCall c3 [.int .i64 i, .int .i64 j, .int .i64 k] H0) = true := by
  rw [w_to i j k _ _ hx hy, w_swap_13]
  obtain ⟨q, hq, hlt⟩ := numI_lt k (m := 6) (by omega) (by omega)
  rw [hq]
  have h5 : q = 0 ∨ q = 1 ∨ q = 2 ∨ q = 3 ∨ q = 4 ∨ q = 5 := by omega
  rcases h5 with h | h | h | h | h | h
  · rw [h]; exact w_130 i j k
  · rw [h]; exact w_131 i j k
  · rw [h]; exact w_132 i j k
  · rw [h]; exact w_133 i j k
  · rw [h]; exact w_134 i j k
  · rw [h]; exact w_135 i j k
theorem w_1 (i j k : Int) (hx : numI i 4 = .ofNat 1) : isTrueR (runFn call noCall c3 [.int .i64 i, .int .i64 j, .int .i64 k] H0) = true := by
  obtain ⟨q, hq, hlt⟩ := numI_lt j (m := 4) (by omega) (by omega)
  have h5 : q = 0 ∨ q = 1 ∨ q = 2 ∨ q = 3 := by omega
  rcases h5 with h | h | h | h
  · exact w_10 i j k hx (by rw [hq, h])
  · exact w_11 i j k hx (by rw [hq, h])
  · exact w_12 i j k hx (by rw [hq, h])
  · exact w_13 i j k hx (by rw [hq, h])
end
end Go.Proofs.YtlbfndapmlmcfaaGreatDoor
