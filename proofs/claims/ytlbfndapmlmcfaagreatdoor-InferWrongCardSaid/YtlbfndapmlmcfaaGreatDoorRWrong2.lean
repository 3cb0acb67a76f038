/- The runs of a statement with three numbers, the first at 2. -/
import Derived.Test.YtlbfndapmlmcfaaGreatDoorRWrong
namespace Go.Proofs.YtlbfndapmlmcfaaGreatDoor
open Go.AX
set_option maxRecDepth 100000
noncomputable section
theorem w_swap_20 (i j k : Int) : runL call (W2 (.ofNat 2) (.ofNat 0)) (atW i j k) = runL call (W3 (.ofNat 2) (.ofNat 0) (numI k 6)) (atW i j k) :=
  swap_at 10 5 (o := opsAt 10 (W2 (.ofNat 2) (.ofNat 0))) (d := .loc) (f := callF (nat_lit 7) [(L (nat_lit 2)), (L (nat_lit 0))]) (by kernel_rfl) (by kernel_rfl) (by kernel_rfl) (by kernel_rfl)
theorem w_200 (i j k : Int) : isTrueR (endW (.ofNat 2) (.ofNat 0) (.ofNat 0) i j k) = true := by kernel_rfl
theorem w_201 (i j k : Int) : isTrueR (endW (.ofNat 2) (.ofNat 0) (.ofNat 1) i j k) = true := by kernel_rfl
theorem w_202 (i j k : Int) : isTrueR (endW (.ofNat 2) (.ofNat 0) (.ofNat 2) i j k) = true := by kernel_rfl
theorem w_203 (i j k : Int) : isTrueR (endW (.ofNat 2) (.ofNat 0) (.ofNat 3) i j k) = true := by kernel_rfl
theorem w_204 (i j k : Int) : isTrueR (endW (.ofNat 2) (.ofNat 0) (.ofNat 4) i j k) = true := by kernel_rfl
theorem w_205 (i j k : Int) : isTrueR (endW (.ofNat 2) (.ofNat 0) (.ofNat 5) i j k) = true := by kernel_rfl
theorem w_20 (i j k : Int) (hx : numI i 4 = .ofNat 2) (hy : numI j 4 = .ofNat 0) : isTrueR (runFn call noCall c3 [.int .i64 i, .int .i64 j, .int .i64 k] H0) = true := by
  rw [w_to i j k _ _ hx hy, w_swap_20]
  obtain ⟨q, hq, hlt⟩ := numI_lt k (m := 6) (by omega) (by omega)
  rw [hq]
  have h5 : q = 0 ∨ q = 1 ∨ q = 2 ∨ q = 3 ∨ q = 4 ∨ q = 5 := by omega
  rcases h5 with h | h | h | h | h | h
  · rw [h]; exact w_200 i j k
  · rw [h]; exact w_201 i j k
  · rw [h]; exact w_202 i j k
  · rw [h]; exact w_203 i j k
  · rw [h]; exact w_204 i j k
  · rw [h]; exact w_205 i j k
theorem w_swap_21 (i j k : Int) : runL call (W2 (.ofNat 2) (.ofNat 1)) (atW i j k) = runL call (W3 (.ofNat 2) (.ofNat 1) (numI k 6)) (atW i j k) :=
  swap_at 10 5 (o := opsAt 10 (W2 (.ofNat 2) (.ofNat 1))) (d := .loc) (f := callF (nat_lit 7) [(L (nat_lit 2)), (L (nat_lit 0))]) (by kernel_rfl) (by kernel_rfl) (by kernel_rfl) (by kernel_rfl)
theorem w_210 (i j k : Int) : isTrueR (endW (.ofNat 2) (.ofNat 1) (.ofNat 0) i j k) = true := by kernel_rfl
theorem w_211 (i j k : Int) : isTrueR (endW (.ofNat 2) (.ofNat 1) (.ofNat 1) i j k) = true := by kernel_rfl
theorem w_212 (i j k : Int) : isTrueR (endW (.ofNat 2) (.ofNat 1) (.ofNat 2) i j k) = true := by kernel_rfl
theorem w_213 (i j k : Int) : isTrueR (endW (.ofNat 2) (.ofNat 1) (.ofNat 3) i j k) = true := by kernel_rfl
theorem w_214 (i j k : Int) : isTrueR (endW (.ofNat 2) (.ofNat 1) (.ofNat 4) i j k) = true := by kernel_rfl
theorem w_215 (i j k : Int) : isTrueR (endW (.ofNat 2) (.ofNat 1) (.ofNat 5) i j k) = true := by kernel_rfl
theorem w_21 (i j k : Int) (hx : numI i 4 = .ofNat 2) (hy : numI j 4 = .ofNat 1) : isTrueR (runFn call noCall c3 [.int .i64 i, .int .i64 j, .int .i64 k] H0) = true := by
  rw [w_to i j k _ _ hx hy, w_swap_21]
  obtain ⟨q, hq, hlt⟩ := numI_lt k (m := 6) (by omega) (by omega)
  rw [hq]
  have h5 : q = 0 ∨ q = 1 ∨ q = 2 ∨ q = 3 ∨ q = 4 ∨ q = 5 := by omega
  rcases h5 with h | h | h | h | h | h
  · rw [h]; exact w_210 i j k
  · rw [h]; exact w_211 i j k
  · rw [h]; exact w_212 i j k
  · rw [h]; exact w_213 i j k
  · rw [h]; exact w_214 i j k
  · rw [h]; exact w_215 i j k
theorem w_swap_22 (i j k : Int) : runL call (W2 (.ofNat 2) (.ofNat 2)) (atW i j k) = runL call (W3 (.ofNat 2) (.ofNat 2) (numI k 6)) (atW i j k) :=
  swap_at 10 5 (o := opsAt 10 (W2 (.ofNat 2) (.ofNat 2))) (d := .loc) (f := callF (nat_lit 7) [(L (nat_lit 2)), (L (nat_lit 0))]) (by kernel_rfl) (by kernel_rfl) (by kernel_rfl) (by kernel_rfl)
theorem w_220 (i j k : Int) : isTrueR (endW (.ofNat 2) (.ofNat 2) (.ofNat 0) i j k) = true := by kernel_rfl
theorem w_221 (i j k : Int) : isTrueR (endW (.ofNat 2) (.ofNat 2) (.ofNat 1) i j k) = true := by kernel_rfl
theorem w_222 (i j k : Int) : isTrueR (endW (.ofNat 2) (.ofNat 2) (.ofNat 2) i j k) = true := by kernel_rfl
theorem w_223 (i j k : Int) : isTrueR (endW (.ofNat 2) (.ofNat 2) (.ofNat 3) i j k) = true := by kernel_rfl
theorem w_224 (i j k : Int) : isTrueR (endW (.ofNat 2) (.ofNat 2) (.ofNat 4) i j k) = true := by kernel_rfl
theorem w_225 (i j k : Int) : isTrueR (endW (.ofNat 2) (.ofNat 2) (.ofNat 5) i j k) = true := by kernel_rfl
theorem w_22 (i j k : Int) (hx : numI i 4 = .ofNat 2) (hy : numI j 4 = .ofNat 2) : isTrueR (runFn call noCall c3 [.int .i64 i, .int .i64 j, .int .i64 k] H0) = true := by
  rw [w_to i j k _ _ hx hy, w_swap_22]
  obtain ⟨q, hq, hlt⟩ := numI_lt k (m := 6) (by omega) (by omega)
  rw [hq]
  have h5 : q = 0 ∨ q = 1 ∨ q = 2 ∨ q = 3 ∨ q = 4 ∨ q = 5 := by omega
  rcases h5 with h | h | h | h | h | h
  · rw [h]; exact w_220 i j k
  · rw [h]; exact w_221 i j k
  · rw [h]; exact w_222 i j k
  · rw [h]; exact w_223 i j k
  · rw [h]; exact w_224 i j k
  · rw [h]; exact w_225 i j k
theorem w_swap_23 (i j k : Int) : runL call (W2 (.ofNat 2) (.ofNat 3)) (atW i j k) = runL call (W3 (.ofNat 2) (.ofNat 3) (numI k 6)) (atW i j k) :=
  swap_at 10 5 (o := opsAt 10 (W2 (.ofNat 2) (.ofNat 3))) (d := .loc) (f := callF (nat_lit 7) [(L (nat_lit 2)), (L (nat_lit 0))]) (by kernel_rfl) (by kernel_rfl) (by kernel_rfl) (by kernel_rfl)
theorem w_230 (i j k : Int) : isTrueR (endW (.ofNat 2) (.ofNat 3) (.ofNat 0) i j k) = true := by kernel_rfl
theorem w_231 (i j k : Int) : isTrueR (endW (.ofNat 2) (.ofNat 3) (.ofNat 1) i j k) = true := by kernel_rfl
theorem w_232 (i j k : Int) : isTrueR (endW (.ofNat 2) (.ofNat 3) (.ofNat 2) i j k) = true := by kernel_rfl
theorem w_233 (i j k : Int) : isTrueR (endW (.ofNat 2) (.ofNat 3) (.ofNat 3) i j k) = true := by kernel_rfl
theorem w_234 (i j k : Int) : isTrueR (endW (.ofNat 2) (.ofNat 3) (.ofNat 4) i j k) = true := by kernel_rfl
theorem w_235 (i j k : Int) : isTrueR (endW (.ofNat 2) (.ofNat 3) (.ofNat 5) i j k) = true := by kernel_rfl
theorem w_23 (i j k : Int) (hx : numI i 4 = .ofNat 2) (hy : numI j 4 = .ofNat 3) : isTrueR (runFn call noCall c3 [.int .i64 i, .int .i64 j, .int .i64 k] H0) = true := by
  rw [w_to i j k _ _ hx hy, w_swap_23]
  obtain ⟨q, hq, hlt⟩ := numI_lt k (m := 6) (by omega) (by omega)
  rw [hq]
  have h5 : q = 0 ∨ q = 1 ∨ q = 2 ∨ q = 3 ∨ q = 4 ∨ q = 5 := by omega
  rcases h5 with h | h | h | h | h | h
  · rw [h]; exact w_230 i j k
  · rw [h]; exact w_231 i j k
  · rw [h]; exact w_232 i j k
  · rw [h]; exact w_233 i j k
  · rw [h]; exact w_234 i j k
  · rw [h]; exact w_235 i j k
theorem w_2 (i j k : Int) (hx : numI i 4 = .ofNat 2) : isTrueR (runFn call noCall c3 [.int .i64 i, .int .i64 j, .int .i64 k] H0) = true := by
  obtain ⟨q, hq, hlt⟩ := numI_lt j (m := 4) (by omega) (by omega)
  have h5 : q = 0 ∨ q = 1 ∨ q = 2 ∨ q = 3 := by omega
  rcases h5 with h | h | h | h
  · exact w_20 i j k hx (by rw [hq, h])
  · exact w_21 i j k hx (by rw [hq, h])
  · exact w_22 i j k hx (by rw [hq, h])
  · exact w_23 i j k hx (by rw [hq, h])
end
end Go.Proofs.YtlbfndapmlmcfaaGreatDoor
