/- The pieces of the two statements. -/
import Derived.Test.YtkjpjpfobolcdaaGreatDoorXMemo4
import Derived.Test.YtkjpjpfobolcdaaGreatDoorAxE
namespace Go.Proofs.YtkjpjpfobolcdaaGreatDoor
open Go.AX
set_option maxRecDepth 100000
noncomputable section
def atM (h : AH) (args : List AV) : St := ⟨[], argsTm args 0 .nil, h, []⟩
def opsAt (i : Nat) (l : List ACode) : List AOper := match l[i]? with
  | some (.ops o) => o
  | _ => []
/-! CompErrors -/
def E1 (x : Int) : List ACode := putAt 4 1 (opsAt 4 (flat c3.code)) .loc (.int .i64 x) (flat c3.code)
def E2 (x y : Int) : List ACode := putAt 11 3 (opsAt 11 (E1 x)) .loc (.int .i64 y) (E1 x)
def atE (k a : Int) : St := atM HE [.int .i64 k, .int .i64 a]
def endE (x y k a : Int) : R (AV × AH) := endFn noCall c3.res (runL call4 (E2 x y) (atE k a))
theorem e_len (k a : Int) : runFn call4 noCall c3 [.int .i64 k, .int .i64 a] HE = endFn noCall c3.res (runL call4 (flat c3.code) (atE k a)) := runFn_flat (Nat.le_of_ble_eq_true (by kernel_rfl))
theorem e_swap1 (k a : Int) : runL call4 (flat c3.code) (atE k a) = runL call4 (E1 (numI a 10)) (atE k a) :=
  swap_at 4 1 (o := opsAt 4 (flat c3.code)) (d := .loc) (f := callF (nat_lit 6) [(L (nat_lit 0)), (C (.int .i64 (.ofNat (nat_lit 10))))]) (by kernel_rfl) (by kernel_rfl) (by kernel_rfl) (by kernel_rfl)
theorem e_to (k a x : Int) (hx : numI a 10 = x) : runFn call4 noCall c3 [.int .i64 k, .int .i64 a] HE = endFn noCall c3.res (runL call4 (E1 x) (atE k a)) := by
  rw [e_len, e_swap1, hx]
end
end Go.Proofs.YtkjpjpfobolcdaaGreatDoor
