/- The pieces of the statement. -/
import Derived.Test.YtkjpjpfobolcdaaGreatDoorXMemoLL
import Derived.Test.YtkjpjpfobolcdaaGreatDoorAxE
namespace Go.Proofs.YtkjpjpfobolcdaaGreatDoor
open Go.AX
set_option maxRecDepth 100000
noncomputable section
def atM (h : AH) (args : List AV) : St := ⟨[], argsTm args 0 .nil, h, []⟩
def opsAt (i : Nat) (l : List ACode) : List AOper := match l[i]? with
  | some (.ops o) => o
  | _ => []
def M1 (x : Int) : List ACode := putAt 4 1 (opsAt 4 (flat c4.code)) .loc (.int .i64 x) (flat c4.code)
def atL (k : Int) : St := atM HL [.int .i64 k]
def endL (x k : Int) : R (AV × AH) := endFn noCall c4.res (runL call4 (M1 x) (atL k))
theorem m_len (k : Int) : runFn call4 noCall c4 [.int .i64 k] HL = endFn noCall c4.res (runL call4 (flat c4.code) (atL k)) := runFn_flat (Nat.le_of_ble_eq_true (by kernel_rfl))
theorem m_swap (k : Int) : runL call4 (flat c4.code) (atL k) = runL call4 (M1 (numI k 5)) (atL k) :=
  swap_at 4 1 (o := opsAt 4 (flat c4.code)) (d := .loc) (f := callF (nat_lit 6) [(L (nat_lit 0)), (C (.int .i64 (.ofNat (nat_lit 5))))]) (by kernel_rfl) (by kernel_rfl) (by kernel_rfl) (by kernel_rfl)
theorem m_to (k x : Int) (hx : numI k 5 = x) : runFn call4 noCall c4 [.int .i64 k] HL = endL x k := by
  rw [m_len, m_swap, hx]; rfl
end
end Go.Proofs.YtkjpjpfobolcdaaGreatDoor
