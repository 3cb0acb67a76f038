/- The runs of a statement with three numbers, the first at 0. -/
import Derived.Test.YtlbfndapmlmcfaaGreatDoorRWrong
namespace Go.Proofs.YtlbfndapmlmcfaaGreatDoor
open Go.AX
set_option maxRecDepth 100000
noncomputable section
theorem w_swap_00 (i j k : Int) : runL call (W2 (.ofNat 0) (.ofNat 0)) (atW i j k) = runL call (W3 (.ofNat 0) (.ofNat 0) (numI k 6)) (atW i j k) :=
  swap_at 10 5 (o := opsAt 10 (W2 (.ofNat 0) (.ofNat 0))) (d := .loc) (f := callF (nat_lit 7) [(L (nat_lit 2)), (L (nat_lit 0))]) (by kernel_rfl) (by kernel_rfl) (by kernel_rfl) (by kernel_rfl)
theorem w_000 (i j k : Int) : isTrueR (endW (.ofNat 0) (.ofNat 0) (.ofNat 0) i j k) = true := by kernel_rfl
theorem w_001 (i j k : Int) : isTrueR (endW (.ofNat 0) (.ofNat 0) (.ofNat 1) i j k) = true := by kernel_rfl
theorem w_002 (i j k : Int) : isTrueR (endW (.ofNat 0) (.ofNat 0) (.ofNat 2) i j k) = true := by kernel_rfl
theorem w_003 (i j k : Int) : isTrueR (endW (.ofNat 0) (.ofNat 0) (.ofNat 3) i j k) = true := by kernel_rfl
theorem w_004 (i j k : Int) : isTrueR (endW (.ofNat 0) (.ofNat 0) (.ofNat 4) i j k) = true := by kernel_rfl
theorem w_005 (i j k : Int) : isTrueR (endW (.ofNat 0) (.ofNat 0) (.ofNat 5) i j k) = true := by kernel_rfl
theorem w_00 (i j k : Int) (hx : numI i 4 = .ofNat 0) (hy : numI j 4 = .ofNat 0) : isTrueR (runFn call noCall c3 [.int .i64 i, .int .i64 j, .int .i64 k] H0) = true := by
  rw [w_to i j k _ _ hx hy, w_swap_00]
  obtain ⟨q, hq, hlt⟩ := numI_lt k (m := 6) (by omega) (by omega)
  rw [hq]
  have h5 : q = 0 ∨ q = 1 ∨ q = 2 ∨ q = 3 ∨ q = 4 ∨ q = 5 := by omega
  rcases h5 with h | h | h | h | h | h
  · rw [h]; exact w_000 i j k
  · rw [h]; exact w_001 i j k
  · rw [h]; exact w_002 i j k
  · rw [h]; exact w_003 i j k
  · rw [h]; exact w_004 i j k
  · rw [h]; exact w_005 i j k
theorem w_swap_01 (i j k : Int) : runL call (W2 (.ofNat 0) (.ofNat 1)) (atW i j k) = runL call (W3 (.ofNat 0) (.ofNat 1) (numI k 6)) (atW i j k) :=
  swap_at 10 5 (o := opsAt 10 (W2 (.ofNat 0) (.ofNat 1))) (d := .loc) (f := callF (nat_lit 7) [(L (nat_lit 2)), (L (nat_lit 0))]) (by kernel_rfl) (by kernel_rfl) (by kernel_rfl) (by kernel_rfl)
theorem w_010 (i j k : Int) : isTrueR (endW (.ofNat 0) (.ofNat 1) (.ofNat 0) i j k) = true := by kernel_rfl
theorem w_011 (i j k : Int) : isTrueR (endW (.ofNat 0) (.ofNat 1) (.ofNat 1) i j k) = true := by kernel_rfl
theorem w_012 (i j k : Int) : isTrueR (endW (.ofNat 0) (.ofNat 1) (.ofNat 2) i j k) = true := by kernel_rfl
theorem w_013 (i j k : Int) : isTrueR (endW (.ofNat 0) (.ofNat 1) (.ofNat 3) i j k) = true := by kernel_rfl
theorem w_014 (i j k : Int) : isTrueR (endW (.ofNat 0) (.ofNat 1) (.ofNat 4) i j k) = true := by kernel_rfl
theorem w_015 (i j k : Int) : isTrueR (endW (.ofNat 0) (.ofNat 1) (.ofNat 5) i j k) = true := by kernel_rfl
theorem w_01 (i j k : Int) (hx : numI i 4 = .ofNat 0) (hy : numI j 4 = .ofNat 1) : isTrueR (runFn call noCall c3 [.int .i64 i, .int .i64 j, .int .i64 k] H0) = true := by
  rw [w_to i j k _ _ hx hy, w_swap_01]
  obtain ⟨q, hq, hlt⟩ := numI_lt k (m := 6) (by omega) (by omega)
  rw [hq]
  have h5 : q = 0 ∨ q = 1 ∨ q = 2 ∨ q = 3 ∨ q = 4 ∨ q = 5 := by omega
  rcases h5 with h | h | h | h | h | h
  · rw [h]; exact w_010 i j k
  · rw [h]; exact w_011 i j k
  · rw [h]; exact w_012 i j k
  · rw [h]; exact w_013 i j k
  · rw [h]; exact w_014 i j k
  · rw [h]; exact w_015 i j k
theorem w_swap_02 (i j k : Int) : runL call (W2 (.ofNat 0) (.ofNat 2)) (atW i j k) = runL call (W3 (.ofNat 0) (.ofNat 2) (numI k 6)) (atW i j k) :=
  swap_at 10 5 (o := opsAt 10 (W2 (.ofNat 0) (.ofNat 2))) (d := .loc) (f := callF (nat_lit 7) [(L (nat_lit 2)), (L (nat_lit 0))]) (by kernel_rfl) (by kernel_rfl) (by kernel_rfl) (by kernel_rfl)
theorem w_020 (i j k : Int) : isTrueR (endW (.ofNat 0) (.ofNat 2) (.ofNat 0) i j k) = true := by kernel_rfl
theorem w_021 (i j k : Int) : isTrueR (endW (.ofNat 0) (.ofNat 2) (.ofNat 1) i j k) = true := by kernel_rfl
theorem w_022 (i j k : Int) : isTrueR (endW (.ofNat 0) (.ofNat 2) (.ofNat 2) i j k) = true := by kernel_rfl
theorem w_023 (i j k : Int) : isTrueR (endW (.ofNat 0) (.ofNat 2) (.ofNat 3) i j k) = true := by kernel_rfl
theorem w_024 (i j k : Int) : isTrueR (endW (.ofNat 0) (.ofNat 2) (.ofNat 4) i j k) = true := by kernel_rfl
theorem w_025 (i j k : Int) : isTrueR (endW (.ofNat 0) (.ofNat 2) (.ofNat 5) i j k) = true := by kernel_rfl
theorem w_02 (i j k : Int) (hx : numI i 4 = .ofNat 0) (hy : numI j 4 = .ofNat 2) : isTrueR (runFn call noCall c3 [.int .i64 i, .int .i64 j, .int .i64 k] H0) = true := by
  rw [w_to i j k _ _ hx hy, w_swap_02]
  obtain ⟨q, hq, hlt⟩ := numI_lt k (m := 6) (by omega) (by omega)
  rw [hq]
  have h5 : q = 0 ∨ q = 1 ∨ q = 2 ∨ q = 3 ∨ q = 4 ∨ q = 5 := by omega
  rcases h5 with h | h | h | h | h | h
  · rw [h]; exact w_020 i j k
  · rw [h]; exact w_021 i j k
  · rw [h]; exact w_022 i j k
  · rw [h]; exact w_023 i j k
  · rw [h]; exact w_024 i j k
  · rw [h]; exact w_025 i j k
theorem w_swap_03 (i j k : Int) : runL call (W2 (.ofNat 0) (.ofNat 3)) (atW i j k) = runL call (W3 (.ofNat 0) (.ofNat 3) (numI k 6)) (atW i j k) :=
  swap_at 10 5 (o := opsAt 10 (W2 (.ofNat 0) (.ofNat 3))) (d := .loc) (f := callF (nat_lit 7) [(L (nat_lit 2)), (L (nat_lit 0))]) (by kernel_rfl) (by kernel_rfl) (by kernel_rfl) (by kernel_rfl)
theorem w_030 (i j k : Int) : isTrueR (endW (.ofNat 0) (.ofNat 3) (.ofNat 0) i j k) = true := by kernel_rfl
theorem w_031 (i j k : Int) : isTrueR (endW (.ofNat 0) (.ofNat 3) (.ofNat 1) i j k) = true := by kernel_rfl
theorem w_032 (i j k : Int) : isTrueR (endW (.ofNat 0) (.ofNat 3) (.ofNat 2) i j k) = true := by kernel_rfl
theorem w_033 (i j k : Int) : isTrueR (endW (.ofNat 0) (.ofNat 3) (.ofNat 3) i j k) = true := by kernel_rfl
theorem w_034 (i j k : Int) : isTrueR (endW (.ofNat 0) (.ofNat 3) (.ofNat 4) i j k) = true := by kernel_rfl
theorem w_035 (i j k : Int) : isTrueR (endW (.ofNat 0) (.ofNat 3) (.ofNat 5) i j k) = true := by kernel_rfl
theorem w_03 (i j k : Int) (hx : numI i 4 = .ofNat 0) (hy : numI j 4 = .ofNat 3) : isTrueR (runFn call noCall c3 [.int .i64 i, .int .i64 j, .int .i64 k] H0) = true := by
  rw [w_to i j k _ _ hx hy, w_swap_03]
  obtain ⟨q, hq, hlt⟩ := numI_lt k (m := 6) (by omega) (by omega)
  rw [hq]
  have h5 : q = 0 ∨ q = 1 ∨ q = 2 ∨ q = 3 ∨ q = 4 ∨ q = 5 := by omega
  rcases h5 with h | h | h | h | h | h
  · rw [h]; exact w_030 i j k
  · rw [h]; exact w_031 i j k
  · rw [h]; exact w_032 i j k
  · rw [h]; exact w_033 i j k
  · rw [h]; exact w_034 i j k
  · rw [h]; exact w_035 i j k
theorem w_0 (i j k : Int) (hx : numI i 4 = .ofNat 0) : isTrueR (runFn call noCall c3 [.int .i64 i, .int .i64 j, .int .i64 k] H0) = true := by
  obtain ⟨q, hq, hlt⟩ := numI_lt j (m := 4) (by omega) (by omega)
  have h5 : q = 0 ∨ q = 1 ∨ q = 2 ∨ q = 3 := by omega
  rcases h5 with h | h | h | h
  · exact w_00 i j k hx (by rw [hq, h])
  · exact w_01 i j k hx (by rw [hq, h])
  · exact w_02 i j k hx (by rw [hq, h])
  · exact w_03 i j k hx (by rw [hq, h])
end
end Go.Proofs.YtlbfndapmlmcfaaGreatDoor
