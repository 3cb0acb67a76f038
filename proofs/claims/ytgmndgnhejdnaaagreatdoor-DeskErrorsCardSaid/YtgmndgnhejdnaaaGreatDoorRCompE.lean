/- The pieces of the statement. -/
import Derived.Test.YtgmndgnhejdnaaaGreatDoorXMCE
import Derived.Test.YtgmndgnhejdnaaaGreatDoorAxE
namespace Go.Proofs.YtgmndgnhejdnaaaGreatDoor
open Go.AX
set_option maxRecDepth 100000
noncomputable section
def atM (h : AH) (args : List AV) : St := ⟨[], argsTm args 0 .nil, h, []⟩
def opsAt (i : Nat) (l : List ACode) : List AOper := match l[i]? with
  | some (.ops o) => o
  | _ => []
def S1 (x : Int) : List ACode := putAt 11 5 (opsAt 11 (flat c3.code)) .loc (.int .i64 x) (flat c3.code)
def S2 (x y : Int) : List ACode := putAt 12 5 (opsAt 12 (S1 x)) .loc (.int .i64 y) (S1 x)
def atS (n0 : Int) : St := atM HE [.int .i64 n0]
def endS (x y n0 : Int) : R (AV × AH) := endFn noCall c3.res (runL call4 (S2 x y) (atS n0))
theorem s_len (n0 : Int) : runFn call4 noCall c3 [.int .i64 n0] HE = endFn noCall c3.res (runL call4 (flat c3.code) (atS n0)) := runFn_flat (Nat.le_of_ble_eq_true (by kernel_rfl))
theorem s_swap1 (n0 : Int) : runL call4 (flat c3.code) (atS n0) = runL call4 (S1 (numI n0 13)) (atS n0) :=
  swap_at 11 5 (o := opsAt 11 (flat c3.code)) (d := .loc) (f := callF (nat_lit 8) [(L (nat_lit 2)), (L (nat_lit 0))]) (by kernel_rfl) (by kernel_rfl) (by kernel_rfl) (by kernel_rfl)
theorem s_to (n0 x : Int) (hx : numI n0 13 = x) : runFn call4 noCall c3 [.int .i64 n0] HE = endFn noCall c3.res (runL call4 (S1 x) (atS n0)) := by
  rw [s_len, s_swap1, hx]
end
end Go.Proofs.YtgmndgnhejdnaaaGreatDoor
