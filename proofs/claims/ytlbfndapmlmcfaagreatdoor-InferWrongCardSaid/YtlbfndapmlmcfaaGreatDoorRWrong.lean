/- The pieces of a statement with three numbers. -/
import Derived.Test.YtlbfndapmlmcfaaGreatDoorRBase
namespace Go.Proofs.YtlbfndapmlmcfaaGreatDoor
open Go.AX
set_option maxRecDepth 100000
noncomputable section
def opsAt (i : Nat) (l : List ACode) : List AOper := match l[i]? with
  | some (.ops o) => o
  | _ => []
def W1 (x : Int) : List ACode := putAt 4 1 (opsAt 4 (flat c3.code)) .loc (.int .i64 x) (flat c3.code)
def W2 (x y : Int) : List ACode := putAt 5 1 (opsAt 5 (W1 x)) .loc (.int .i64 y) (W1 x)
def W3 (x y z : Int) : List ACode := putAt 10 5 (opsAt 10 (W2 x y)) .loc (.int .i64 z) (W2 x y)
def atW (i j k : Int) : St := atH0 [.int .i64 i, .int .i64 j, .int .i64 k]
def endW (x y z i j k : Int) : R (AV × AH) := endFn noCall c3.res (runL call (W3 x y z) (atW i j k))
theorem w_len (i j k : Int) : runFn call noCall c3 [.int .i64 i, .int .i64 j, .int .i64 k] H0 = endFn noCall c3.res (runL call (flat c3.code) (atW i j k)) := runFn_flat (Nat.le_of_ble_eq_true (by kernel_rfl))
theorem w_swap1 (i j k : Int) : runL call (flat c3.code) (atW i j k) = runL call (W1 (numI i 4)) (atW i j k) :=
  swap_at 4 1 (o := opsAt 4 (flat c3.code)) (d := .loc) (f := callF (nat_lit 7) [(L (nat_lit 0)), (C (.int .i64 (.ofNat (nat_lit 4))))]) (by kernel_rfl) (by kernel_rfl) (by kernel_rfl) (by kernel_rfl)
theorem w_swap2 (x i j k : Int) : runL call (W1 x) (atW i j k) = runL call (W2 x (numI j 4)) (atW i j k) :=
  swap_at 5 1 (o := opsAt 5 (W1 x)) (d := .loc) (f := callF (nat_lit 7) [(L (nat_lit 0)), (C (.int .i64 (.ofNat (nat_lit 4))))]) (by kernel_rfl) (by kernel_rfl) (by kernel_rfl) (by kernel_rfl)
theorem w_to (i j k x y : Int) (hx : numI i 4 = x) (hy : numI j 4 = y) : runFn call noCall c3 [.int .i64 i, .int .i64 j, .int .i64 k] H0 = endFn noCall c3.res (runL call (W2 x y) (atW i j k)) := by
  rw [w_len, w_swap1, hx, w_swap2, hy]
end
end Go.Proofs.YtlbfndapmlmcfaaGreatDoor
