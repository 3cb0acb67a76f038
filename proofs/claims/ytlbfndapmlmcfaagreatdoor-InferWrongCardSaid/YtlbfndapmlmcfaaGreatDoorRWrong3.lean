/- The runs of a statement with three numbers, the first at 3. -/
import Derived.Test.YtlbfndapmlmcfaaGreatDoorRWrong
namespace Go.Proofs.YtlbfndapmlmcfaaGreatDoor
open Go.AX
set_option maxRecDepth 100000
noncomputable section
theorem w_swap_30 (i j k : Int) : runL call (W2 (.ofNat 3) (.ofNat 0)) (atW i j k) = runL call (W3 (.ofNat 3) (.ofNat 0) (numI k 6)) (atW i j k) :=
  swap_at 10 5 (o := opsAt 10 (W2 (.ofNat 3) (.ofNat 0))) (d := .loc) (f := callF (nat_lit 7) [(L (nat_lit 2)), (L (nat_lit 0))]) (by kernel_rfl) (by kernel_rfl) (by kernel_rfl) (by kernel_rfl)
theorem w_300 (i j k : Int) : isTrueR (endW (.ofNat 3) (.ofNat 0) (.ofNat 0) i j k) = true := by kernel_rfl
theorem w_301 (i j k : Int) : isTrueR (endW (.ofNat 3) (.ofNat 0) (.ofNat 1) i j k) = true := by kernel_rfl
theorem w_302 (i j k : Int) : isTrueR (endW (.ofNat 3) (.ofNat 0) (.ofNat 2) i j k) = true := by kernel_rfl
theorem w_303 (i j k : Int) : isTrueR (endW (.ofNat 3) (.ofNat 0) (.ofNat 3) i j k) = true := by kernel_rfl
theorem w_304 (i j k : Int) : isTrueR (endW (.ofNat 3) (.ofNat 0) (.ofNat 4) i j k) = true := by kernel_rfl
theorem w_305 (i j k : Int) : isTrueR (endW (.ofNat 3) (.ofNat 0) (.ofNat 5) i j k) = true := by kernel_rfl
theorem w_30 (i j k : Int) (hx : numI i 4 = .ofNat 3) (hy : numI j 4 = .ofNat 0) : isTrueR (runFn call noCall c3 [.int .i64 i, .int .i64 j, .int .i64 k] H0) = true := by
  rw [w_to i j k _ _ hx hy, w_swap_30]
  obtain ⟨q, hq, hlt⟩ := numI_lt k (m := 6) (by omega) (by omega)
  rw [hq]
  have h5 : q = 0 ∨ q = 1 ∨ q = 2 ∨ q = 3 ∨ q = 4 ∨ q = 5 := by omega
  rcases h5 with h | h | h | h | h | h
  · rw [h]; exact w_300 i j k
  · rw [h]; exact w_301 i j k
  · rw [h]; exact w_302 i j k
  · rw [h]; exact w_303 i j k
  · rw [h]; exact w_304 i j k
  · rw [h]; exact w_305 i j k
theorem w_swap_31 (i j k : Int) : runL call (W2 (.ofNat 3) (.ofNat 1)) (atW i j k) = runL call (W3 (.ofNat 3) (.ofNat 1) (numI k 6)) (atW i j k) :=
  swap_at 10 5 (o := opsAt 10 (W2 (.ofNat 3) (.ofNat 1))) (d := .loc) (f := callF (nat_lit 7) [(L (nat_lit 2)), (L (nat_lit 0))]) (by kernel_rfl) (by kernel_rfl) (by kernel_rfl) (by kernel_rfl)
theorem w_310 (i j k : Int) : isTrueR (endW (.ofNat 3) (.ofNat 1) (.ofNat 0) i j k) = true := by kernel_rfl
theorem w_311 (i j k : Int) : isTrueR (endW (.ofNat 3) (.ofNat 1) (.ofNat 1) i j k) = true := by kernel_rfl
theorem w_312 (i j k : Int) : isTrueR (endW (.ofNat 3) (.ofNat 1) (.ofNat 2) i j k) = true := by kernel_rfl
theorem w_313 (i j k : Int) : isTrueR (endW (.ofNat 3) (.ofNat 1) (.ofNat 3) i j k) = true := by kernel_rfl
theorem w_314 (i j k : Int) : isTrueR (endW (.ofNat 3) (.ofNat 1) (.ofNat 4) i j k) = true := by kernel_rfl
theorem w_315 (i j k : Int) : isTrueR (endW (.ofNat 3) (.ofNat 1) (.ofNat 5) i j k) = true := by kernel_rfl
theorem w_31 (i j k : Int) (hx : numI i 4 = .ofNat 3) (hy : numI j 4 = .ofNat 1) : isTrueR (runFn call noCall c3 [.int .i64 i, .int .i64 j, .int .i64 k] H0) = true := by
  rw [w_to i j k _ _ hx hy, w_swap_31]
  obtain ⟨q, hq, hlt⟩ := numI_lt k (m := 6) (by omega) (by omega)
  rw [hq]
  have h5 : q = 0 ∨ q = 1 ∨ q = 2 ∨ q = 3 ∨ q = 4 ∨ q = 5 := by omega
  rcases h5 with h | h | h | h | h | h
  · rw [h]; exact w_310 i j k
  · rw [h]; exact w_311 i j k
  · rw [h]; exact w_312 i j k
  · rw [h]; exact w_313 i j k
  · rw [h]; exact w_314 i j k
  · rw [h]; exact w_315 i j k
theorem w_swap_32 (i j k : Int) : runL call (W2 (.ofNat 3) (.ofNat 2)) (atW i j k) = runL call (W3 (.ofNat 3) (.ofNat 2) (numI k 6)) (atW i j k) :=
  swap_at 10 5 (o := opsAt 10 (W2 (.ofNat 3) (.ofNat 2))) (d := .loc) (f := callF (nat_lit 7) [(L (nat_lit 2)), (L (nat_lit 0))]) (by kernel_rfl) (by kernel_rfl) (by kernel_rfl) (by kernel_rfl)
theorem w_320 (i j k : Int) : isTrueR (endW (.ofNat 3) (.ofNat 2) (.ofNat 0) i j k) = true := by kernel_rfl
theorem w_321 (i j k : Int) : isTrueR (endW (.ofNat 3) (.ofNat 2) (.ofNat 1) i j k) = true := by kernel_rfl
theorem w_322 (i j k : Int) : isTrueR (endW (.ofNat 3) (.ofNat 2) (.ofNat 2) i j k) = true := by kernel_rfl
theorem w_323 (i j k : Int) : isTrueR (endW (.ofNat 3) (.ofNat 2) (.ofNat 3) i j k) = true := by kernel_rfl
theorem w_324 (i j k : Int) : isTrueR (endW (.ofNat 3) (.ofNat 2) (.ofNat 4) i j k) = true := by kernel_rfl
theorem w_325 (i j k : Int) : isTrueR (endW (.ofNat 3) (.ofNat 2) (.ofNat 5) i j k) = true := by kernel_rfl
theorem w_32 (i j k : Int) (hx : numI i 4 = .ofNat 3) (hy : numI j 4 = .ofNat 2) : isTrueR (runFn call noCall c3 [.int .i64 i, .int .i64 j, .int .i64 k] H0) = true := by
  rw [w_to i j k _ _ hx hy, w_swap_32]
  obtain ⟨q, hq, hlt⟩ := numI_lt k (m := 6) (by omega) (by omega)
  rw [hq]
  have h5 : q = 0 ∨ q = 1 ∨ q = 2 ∨ q = 3 ∨ q = 4 ∨ q = 5 := by omega
  rcases h5 with h | h | h | h | h | h
  · rw [h]; exact w_320 i j k
  · rw [h]; exact w_321 i j k
  · rw [h]; exact w_322 i j k
  · rw [h]; exact w_323 i j k
  · rw [h]; exact w_324 i j k
  · rw [h]; exact w_325 i j k
theorem w_swap_33 (i j k : Int) : runL call (W2 (.ofNat 3) (.ofNat 3)) (atW i j k) = runL call (W3 (.ofNat 3) (.ofNat 3) (numI k 6)) (atW i j k) :=
  swap_at 10 5 (o := opsAt 10 (W2 (.ofNat 3) (.ofNat 3))) (d := .loc) (f := callF (nat_lit 7) [(L (nat_lit 2)), (L (nat_lit 0))]) (by kernel_rfl) (by kernel_rfl) (by kernel_rfl) (by kernel_rfl)
theorem w_330 (i j k : Int) : isTrueR (endW (.ofNat 3) (.ofNat 3) (.ofNat 0) i j k) = true := by kernel_rfl
theorem w_331 (i j k : Int) : isTrueR (endW (.ofNat 3) (.ofNat 3) (.ofNat 1) i j k) = true := by kernel_rfl
theorem w_332 (i j k : Int) : isTrueR (endW (.ofNat 3) (.ofNat 3) (.ofNat 2) i j k) = true := by kernel_rfl
theorem w_333 (i j k : Int) : isTrueR (endW (.ofNat 3) (.ofNat 3) (.ofNat 3) i j k) = true := by kernel_rfl
theorem w_334 (i j k : Int) : isTrueR (endW (.ofNat 3) (.ofNat 3) (.ofNat 4) i j k) = true := by kernel_rfl
theorem w_335 (i j k : Int) : isTrueR (endW (.ofNat 3) (.ofNat 3) (.ofNat 5) i j k) = true := by kernel_rfl
theorem w_33 (i j k : Int) (hx : numI i 4 = .ofNat 3) (hy : numI j 4 = .ofNat 3) : isTrueR (runFn call noCall c3 [.int .i64 i, .int .i64 j, .int .i64 k] H0) = true := by
  rw [w_to i j k _ _ hx hy, w_swap_33]
  obtain ⟨q, hq, hlt⟩ := numI_lt k (m := 6) (by omega) (by omega)
  rw [hq]
  have h5 : q = 0 ∨ q = 1 ∨ q = 2 ∨ q = 3 ∨ q = 4 ∨ q = 5 := by omega
  rcases h5 with h | h | h | h | h | h
  · rw [h]; exact w_330 i j k
  · rw [h]; exact w_331 i j k
  · rw [h]; exact w_332 i j k
  · rw [h]; exact w_333 i j k
  · rw [h]; exact w_334 i j k
  · rw [h]; exact w_335 i j k
theorem w_3 (i j k : Int) (hx : numI i 4 = .ofNat 3) : isTrueR (runFn call noCall c3 [.int .i64 i, .int .i64 j, .int .i64 k] H0) = true := by
  obtain ⟨q, hq, hlt⟩ := numI_lt j (m := 4) (by omega) (by omega)
  have h5 : q = 0 ∨ q = 1 ∨ q = 2 ∨ q = 3 := by omega
  rcases h5 with h | h | h | h
  · exact w_30 i j k hx (by rw [hq, h])
  · exact w_31 i j k hx (by rw [hq, h])
  · exact w_32 i j k hx (by rw [hq, h])
  · exact w_33 i j k hx (by rw [hq, h])
end
end Go.Proofs.YtlbfndapmlmcfaaGreatDoor
