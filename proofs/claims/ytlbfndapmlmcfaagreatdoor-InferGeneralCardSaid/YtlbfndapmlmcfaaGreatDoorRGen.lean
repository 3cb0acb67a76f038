/- The runs of a statement with one number. -/
import Derived.Test.YtlbfndapmlmcfaaGreatDoorRBase
namespace Go.Proofs.YtlbfndapmlmcfaaGreatDoor
open Go.AX
set_option maxRecDepth 100000
noncomputable section
theorem gen_len (k : Int) : runFn call noCall c4 [.int .i64 k] H0 = endFn noCall c4.res (runL call (flat c4.code) (atH0 [.int .i64 k])) := runFn_flat (Nat.le_of_ble_eq_true (by kernel_rfl))
def g4 : List AOper := [.op .loc (.pur (T [])), .op .loc (.mem (callF (nat_lit 7) [(L (nat_lit 0)), (C (.int .i64 (.ofNat (nat_lit 5))))])), .op .loc (.pur (b2 (intV addI) (L (nat_lit 0)) (C (.int .i64 (.ofNat (nat_lit 1)))))), .op (.slot []) (.pur (L (nat_lit 0)))]
theorem gen_swap (k : Int) : runL call (flat c4.code) (atH0 [.int .i64 k]) = runL call (putAt 4 1 g4 .loc (.int .i64 (numI k 5)) (flat c4.code)) (atH0 [.int .i64 k]) :=
  swap_at 4 1 (o := g4) (d := .loc) (f := callF (nat_lit 7) [(L (nat_lit 0)), (C (.int .i64 (.ofNat (nat_lit 5))))]) (by kernel_rfl) (by kernel_rfl) (by kernel_rfl) (by kernel_rfl)
theorem gen_0 (k : Int) : isTrueR (endFn noCall c4.res (runL call (putAt 4 1 g4 .loc (.int .i64 (.ofNat 0)) (flat c4.code)) (atH0 [.int .i64 k]))) = true := by kernel_rfl
theorem gen_1 (k : Int) : isTrueR (endFn noCall c4.res (runL call (putAt 4 1 g4 .loc (.int .i64 (.ofNat 1)) (flat c4.code)) (atH0 [.int .i64 k]))) = true := by kernel_rfl
theorem gen_2 (k : Int) : isTrueR (endFn noCall c4.res (runL call (putAt 4 1 g4 .loc (.int .i64 (.ofNat 2)) (flat c4.code)) (atH0 [.int .i64 k]))) = true := by kernel_rfl
theorem gen_3 (k : Int) : isTrueR (endFn noCall c4.res (runL call (putAt 4 1 g4 .loc (.int .i64 (.ofNat 3)) (flat c4.code)) (atH0 [.int .i64 k]))) = true := by kernel_rfl
theorem gen_4 (k : Int) : isTrueR (endFn noCall c4.res (runL call (putAt 4 1 g4 .loc (.int .i64 (.ofNat 4)) (flat c4.code)) (atH0 [.int .i64 k]))) = true := by kernel_rfl
theorem gen_run (k : Int) : isTrueR (runFn call noCall c4 [.int .i64 k] H0) = true := by
  rw [gen_len, gen_swap]
  obtain ⟨q, hq, hlt⟩ := numI_lt k (m := 5) (by omega) (by omega)
  rw [hq]
  have h5 : q = 0 ∨ q = 1 ∨ q = 2 ∨ q = 3 ∨ q = 4 := by omega
  rcases h5 with h | h | h | h | h
  · rw [h]; exact gen_0 k
  · rw [h]; exact gen_1 k
  · rw [h]; exact gen_2 k
  · rw [h]; exact gen_3 k
  · rw [h]; exact gen_4 k
end
end Go.Proofs.YtlbfndapmlmcfaaGreatDoor
