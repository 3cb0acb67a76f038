/- The statement's run, whatever the numbers. -/
import Derived.Test.YtgmndgnhejdnaaaGreatDoorRD0E
import Derived.Test.YtgmndgnhejdnaaaGreatDoorRD1E
import Derived.Test.YtgmndgnhejdnaaaGreatDoorRD2E
import Derived.Test.YtgmndgnhejdnaaaGreatDoorRD3E
import Derived.Test.YtgmndgnhejdnaaaGreatDoorTieEEE
import Derived.Test.YtgmndgnhejdnaaaGreatDoorTieAEE
import Derived.Test.YtgmndgnhejdnaaaGreatDoorTieBEE
import Derived.Test.YtgmndgnhejdnaaaGreatDoorTieCEE
import Derived.Test.YtgmndgnhejdnaaaGreatDoorTieDEE
import Derived.Test.YtgmndgnhejdnaaaGreatDoorXMCokE
import Derived.Test.YtgmndgnhejdnaaaGreatDoorXRowE
import Derived.Test.YtgmndgnhejdnaaaGreatDoorAxE
import Derived.Test.YtgmndgnhejdnaaaGreatDoorCards
import Derived.Test.YtgmndgnhejdnaaaGreatDoorChecked
import Derived.ProofKit
import Derived.OpenShut
import Derived.Deep.DeepWitnessRowRef
import Derived.LaidMore
import Derived.Lay
import Derived.SevenTiedAt
import Derived.Stop.Joined
namespace Go.Proofs.YtgmndgnhejdnaaaGreatDoor
open Go.AX
set_option maxRecDepth 100000
noncomputable section
theorem all_run (n0 : Int) : isTrueR (runFn call4 noCall c3 [.int .i64 n0] HE) = true := by
  obtain ⟨q, hq, hlt⟩ := numI_lt n0 (m := 13) (by omega) (by omega)
  have h5 : q = 0 ∨ q = 1 ∨ q = 2 ∨ q = 3 ∨ q = 4 ∨ q = 5 ∨ q = 6 ∨ q = 7 ∨ q = 8 ∨ q = 9 ∨ q = 10 ∨ q = 11 ∨ q = 12 := by omega
  rcases h5 with h | h | h | h | h | h | h | h | h | h | h | h | h
  · exact s_0 n0 (by rw [hq, h])
  · exact s_1 n0 (by rw [hq, h])
  · exact s_2 n0 (by rw [hq, h])
  · exact s_3 n0 (by rw [hq, h])
  · exact s_4 n0 (by rw [hq, h])
  · exact s_5 n0 (by rw [hq, h])
  · exact s_6 n0 (by rw [hq, h])
  · exact s_7 n0 (by rw [hq, h])
  · exact s_8 n0 (by rw [hq, h])
  · exact s_9 n0 (by rw [hq, h])
  · exact s_10 n0 (by rw [hq, h])
  · exact s_11 n0 (by rw [hq, h])
  · exact s_12 n0 (by rw [hq, h])
end
end Go.Proofs.YtgmndgnhejdnaaaGreatDoor
/- The row's variables are laid as the program's text lays them: fact by fact. -/
namespace Go.Proofs.YtgmndgnhejdnaaaGreatDoor
open Go
def kindsE : List LaidKind := [.sentinel, .pinned, .data, .sentinel, .sentinel, .sentinel, .sentinel, .sentinel, .sentinel, .sentinel, .sentinel, .sentinel, .data, .data, .data, .handle, .sentinel, .sentinel, .sentinel, .sentinel, .sentinel, .sentinel, .sentinel, .sentinel, .sentinel, .sentinel]
theorem tieCE : Tryz.prog.laidByTextLater lpE kindsP true := Program.laidByTextLater_by_run_h 600 8 tw1 tw2 tw3 tkE tw4 tnE tw5 t1E t2E t3E
theorem pin_laid_unicode_utf8_first : Tryz.pinned.checked.prog.pinnedFits "unicode/utf8.first" = true := by kernel_rfl
theorem fitsE : Tryz.pinned.checked.prog.listedFits Rows.deskErrorsRow.laid = true := by
  unfold Program.listedFits
  rw [noOwnUnsafeC]
  kernel_rfl
theorem deskErrors_tied : Rows.deskErrorsRow.laidByTextAt .later Tryz.pinned kindsE true :=
  OpenClaim.laidByTextAt_pinned rfl rfl tieCE rfl rfl rfl rfl (fun y hy _e => by
    simp only [Rows.deskErrorsRow, kindsE, List.zip_cons_cons, List.zip_nil_right, List.mem_cons, List.mem_nil_iff, or_false] at hy
    rcases hy with rfl | rfl | rfl | rfl | rfl | rfl | rfl | rfl | rfl | rfl | rfl | rfl | rfl | rfl | rfl | rfl | rfl | rfl | rfl | rfl | rfl | rfl | rfl | rfl | rfl | rfl
    · cases _e
    · exact ⟨pin_laid_unicode_utf8_first, by kernel_rfl⟩
    · cases _e
    · cases _e
    · cases _e
    · cases _e
    · cases _e
    · cases _e
    · cases _e
    · cases _e
    · cases _e
    · cases _e
    · cases _e
    · cases _e
    · cases _e
    · cases _e
    · cases _e
    · cases _e
    · cases _e
    · cases _e
    · cases _e
    · cases _e
    · cases _e
    · cases _e
    · cases _e
    · cases _e) fitsE
end Go.Proofs.YtgmndgnhejdnaaaGreatDoor
/- A part of the statement: own, walk, contract, w0, laidWorld. -/
namespace Go.Proofs.YtgmndgnhejdnaaaGreatDoor.deskErrors
open Go.ChangeShapes Go.WideShapes Go.ChangeAt Go.RowKit Go.AX
set_option maxRecDepth 100000
theorem own : ownKnob Tryz.prog.godebug = none := by kernel_rfl
theorem walk (W : World) (hL : laidMetH Tryz.prog Rows.deskErrorsRow.laid W) (hS : W.ShapedOpen Tryz.prog) (n0 : Int) : Calls Tryz.prog 3 #[.int .i64 n0] W fun e w' => e = .returned (.bool true) ∧ Below W.heap.size W w' := by
  obtain ⟨hm, hh⟩ := laidH_parts (by kernel_rfl) hL
  refine calls_entry (call := call4) (a := c3) (ev := 27) (et := 538) (ev' := 427) (rt := 516) (tid := 27) (gh := 22) (l := tabs) (callN_ok ext4 tab_all 200) k3 sentsE (args := [.int .i64 n0]) (xs := [.int .i64 n0]) (fun ρ => denL_ints ρ [n0]) (by rw [globals_size]; omega) (fun _ => rfl) tabs_ne hm (tabsE hm hS) (handle_cell (by kernel_rfl) hh hS) ?_
  rw [globals_size]
  exact all_run n0
theorem contract (H : Type) (enc : TypeId × Value → H) (W : World) (base : Nat) (args : Array Value) (ds gs : List (DataW H)) (before : List MemPlace)
    (hval : ∀ (j : Nat) t v, Tryz.f3.params[j]? = some t → args[j]? = some v → Value.okWide Tryz.prog W .any base t v)
    (hW : DataW.Whole enc Tryz.prog Tryz.f3.params.toList Rows.deskErrorsSpec.vars false W args.toList ds gs before) (hL : laidMetH Tryz.prog Rows.deskErrorsRow.laid W) (hS : W.ShapedOpen Tryz.prog) :
    Calls Tryz.prog 3 args W fun e W' => ∃ v, e = .returned v ∧ Rows.deskErrorsSpec.post enc Tryz.prog Tryz.f3 false true false false W args v W' := by
  have hW' := hW
  obtain ⟨p, q, hA0, hV, rfl, hfz, hnd⟩ := hW
  have hA : DataW.TrodAll enc Tryz.prog W 0 (fun _ => true) true Tryz.f3.params.toList args.toList ds p := hA0
  rw [Tryz.params3] at hA hval
  obtain ⟨v0, vs0, d0, ds0, p0, q0, hargs, rfl, rfl, h0, r0⟩ := trodAll_cons hA
  obtain ⟨rfl, rfl, rfl⟩ := trodAll_nil r0
  obtain rfl : args = #[v0] := by cases args; simp_all
  obtain ⟨rfl, rfl⟩ := trodVars_none hV
  obtain ⟨n0, rfl, rfl, rfl, w0⟩ := open_int Tryz.underlying3 (hval 0 3 v0 rfl rfl) h0
  clear hA0
  simp only [List.append_nil] at hW'
  refine (walk W hL hS n0).mono fun e W' ⟨he, hb⟩ => ?_
  subst he
  exact ⟨_, rfl, post_of_below (pa := []) (pv := []) hW' (fun _ _ _ => trodAll_cons_mk (shut_bool Tryz.underlying4 _) trodAll_mk0) (fun _ _ => trodAll_cons_mk (shut_int Tryz.underlying3 w0) (trodAll_mk0)) (fun _ _ => rfl) rfl hb⟩
noncomputable def w0 (os : Os) : World :=
  let h := World.holding Tryz.prog os ⟨#[], #[], []⟩
  { h with heap := h.heap.modify 22 fun
      | .cells _ t frozen => .cells #[.iface 516 (.agg #[.pointer (some ⟨28, 27, none⟩)])] t frozen
      | o => o }
noncomputable def laidWorld (os : Os) : World := (w0 os).layVars Tryz.prog plainE
end Go.Proofs.YtgmndgnhejdnaaaGreatDoor.deskErrors
