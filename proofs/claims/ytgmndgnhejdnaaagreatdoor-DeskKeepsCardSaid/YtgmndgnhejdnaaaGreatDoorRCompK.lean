/- The pieces of the statement. -/
import Derived.Test.YtgmndgnhejdnaaaGreatDoorXMDK
import Derived.Test.YtgmndgnhejdnaaaGreatDoorAxE
namespace Go.Proofs.YtgmndgnhejdnaaaGreatDoor
open Go.AX
set_option maxRecDepth 100000
noncomputable section
def atM (h : AH) (args : List AV) : St := ⟨[], argsTm args 0 .nil, h, []⟩
def opsAt (i : Nat) (l : List ACode) : List AOper := match l[i]? with
  | some (.ops o) => o
  | _ => []
def S1 (x : Int) : List ACode := putAt 4 1 (opsAt 4 (flat c4.code)) .loc (.int .i64 x) (flat c4.code)
def S2 (x y : Int) : List ACode := putAt 5 1 (opsAt 5 (S1 x)) .loc (.int .i64 y) (S1 x)
def atS (n0 n1 : Int) : St := atM HE [.int .i64 n0, .int .i64 n1]
def endS (x y n0 n1 : Int) : R (AV × AH) := endFn noCall c4.res (runL call4 (S2 x y) (atS n0 n1))
theorem s_len (n0 n1 : Int) : runFn call4 noCall c4 [.int .i64 n0, .int .i64 n1] HE = endFn noCall c4.res (runL call4 (flat c4.code) (atS n0 n1)) := runFn_flat (Nat.le_of_ble_eq_true (by kernel_rfl))
theorem s_swap1 (n0 n1 : Int) : runL call4 (flat c4.code) (atS n0 n1) = runL call4 (S1 (numI n0 5)) (atS n0 n1) :=
  swap_at 4 1 (o := opsAt 4 (flat c4.code)) (d := .loc) (f := callF (nat_lit 8) [(L (nat_lit 0)), (C (.int .i64 (.ofNat (nat_lit 5))))]) (by kernel_rfl) (by kernel_rfl) (by kernel_rfl) (by kernel_rfl)
theorem s_to (n0 n1 x : Int) (hx : numI n0 5 = x) : runFn call4 noCall c4 [.int .i64 n0, .int .i64 n1] HE = endFn noCall c4.res (runL call4 (S1 x) (atS n0 n1)) := by
  rw [s_len, s_swap1, hx]
end
end Go.Proofs.YtgmndgnhejdnaaaGreatDoor
