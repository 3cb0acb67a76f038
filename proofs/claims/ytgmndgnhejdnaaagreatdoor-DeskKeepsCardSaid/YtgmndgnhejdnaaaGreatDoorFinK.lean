/-
  DeskKeeps: whatever the input, the call returns true and its arguments read as they did. Conditions: those of the given row alone: the listed package-level variables start as the program's text lays them (the card ties them).
-/
import Derived.Test.YtgmndgnhejdnaaaGreatDoorFin5K
namespace Go.Proofs.YtgmndgnhejdnaaaGreatDoor.deskKeeps
open Go.ChangeShapes Go.WideShapes Go.ChangeAt Go.RowKit Go.AX
set_option maxRecDepth 100000
theorem plain (f : FuncId) (fn : Func) (hf : Tryz.pinned.checked.prog.funcNamed "gristmill/gristmilllaw27.DeskKeeps" = some f) (hfn : Tryz.pinned.checked.prog.funcs[f]? = some fn) :
    true = Tryz.pinned.checked.prog.looks [] ∧ ∀ (j : Nat) t, fn.params[j]? = some t → Tryz.pinned.checked.prog.wantsStandIn t = false := by
  obtain rfl : f = 4 := Option.some.inj ((show Tryz.prog.funcNamed "gristmill/gristmilllaw27.DeskKeeps" = some 4 by kernel_rfl).symm.trans hf) |>.symm
  obtain rfl : fn = Tryz.f4 := (Option.some.inj (Tryz.func4.symm.trans hfn)).symm
  refine ⟨by kernel_rfl, fun j t ht => ?_⟩
  rw [Tryz.params4] at ht
  obtain rfl : t = 3 := by simpa using Array.mem_of_getElem? ht
  exact (show Tryz.prog.wantsStandIn 3 = false by kernel_rfl)
theorem card : Rows.DeskKeepsCardSaid :=
  Claim7.holds_tied_plain_at .later [] _ _ _ _ said (fun _ h => by cases h) k_wf (fun _ h => by cases h) deskKeeps_tied rfl ⟨rfl, rfl⟩ k_main rfl plain k_goes
end Go.Proofs.YtgmndgnhejdnaaaGreatDoor.deskKeeps
namespace Go.Proofs.YtgmndgnhejdnaaaGreatDoor
theorem the_deskKeeps : Rows.DeskKeepsCardSaid := deskKeeps.card
end Go.Proofs.YtgmndgnhejdnaaaGreatDoor
