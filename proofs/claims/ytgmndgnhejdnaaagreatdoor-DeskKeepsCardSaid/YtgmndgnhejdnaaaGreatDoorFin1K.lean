/- The statement's run, whatever the numbers. -/
import Derived.Test.YtgmndgnhejdnaaaGreatDoorRD0K
import Derived.Test.YtgmndgnhejdnaaaGreatDoorRD1K
import Derived.Test.YtgmndgnhejdnaaaGreatDoorRD2K
import Derived.Test.YtgmndgnhejdnaaaGreatDoorRD3K
import Derived.Test.YtgmndgnhejdnaaaGreatDoorRD4K
import Derived.Test.YtgmndgnhejdnaaaGreatDoorTieEEK
import Derived.Test.YtgmndgnhejdnaaaGreatDoorTieAEK
import Derived.Test.YtgmndgnhejdnaaaGreatDoorTieBEK
import Derived.Test.YtgmndgnhejdnaaaGreatDoorTieCEK
import Derived.Test.YtgmndgnhejdnaaaGreatDoorTieDEK
import Derived.Test.YtgmndgnhejdnaaaGreatDoorXMDokK
import Derived.Test.YtgmndgnhejdnaaaGreatDoorXRowK
import Derived.Test.YtgmndgnhejdnaaaGreatDoorAxE
import Derived.Test.YtgmndgnhejdnaaaGreatDoorCards
import Derived.Test.YtgmndgnhejdnaaaGreatDoorChecked
import Derived.ProofKit
import Derived.OpenShut
import Derived.Deep.DeepWitnessRowRef
import Derived.LaidMore
import Derived.Lay
import Derived.SevenTiedAt
import Derived.Stop.Joined
namespace Go.Proofs.YtgmndgnhejdnaaaGreatDoor
open Go.AX
set_option maxRecDepth 100000
noncomputable section
theorem all_run (n0 n1 : Int) : isTrueR (runFn call4 noCall c4 [.int .i64 n0, .int .i64 n1] HE) = true := by
  obtain ⟨q, hq, hlt⟩ := numI_lt n0 (m := 5) (by omega) (by omega)
  have h5 : q = 0 ∨ q = 1 ∨ q = 2 ∨ q = 3 ∨ q = 4 := by omega
  rcases h5 with h | h | h | h | h
  · exact s_0 n0 n1 (by rw [hq, h])
  · exact s_1 n0 n1 (by rw [hq, h])
  · exact s_2 n0 n1 (by rw [hq, h])
  · exact s_3 n0 n1 (by rw [hq, h])
  · exact s_4 n0 n1 (by rw [hq, h])
end
end Go.Proofs.YtgmndgnhejdnaaaGreatDoor
/- The row's variables are laid as the program's text lays them: fact by fact. -/
namespace Go.Proofs.YtgmndgnhejdnaaaGreatDoor
open Go
def kindsE : List LaidKind := [.sentinel, .pinned, .data, .sentinel, .sentinel, .sentinel, .sentinel, .sentinel, .sentinel, .sentinel, .sentinel, .sentinel, .data, .data, .data, .handle, .sentinel, .sentinel, .sentinel, .sentinel, .sentinel, .sentinel, .sentinel, .sentinel, .sentinel]
theorem tieCE : Tryz.prog.laidByTextLater lpE kindsP true := Program.laidByTextLater_by_run_h 600 8 tw1 tw2 tw3 tkE tw4 tnE tw5 t1E t2E t3E
theorem pin_laid_unicode_utf8_first : Tryz.pinned.checked.prog.pinnedFits "unicode/utf8.first" = true := by kernel_rfl
theorem fitsE : Tryz.pinned.checked.prog.listedFits Rows.deskKeepsRow.laid = true := by
  unfold Program.listedFits
  rw [noOwnUnsafeC]
  kernel_rfl
theorem deskKeeps_tied : Rows.deskKeepsRow.laidByTextAt .later Tryz.pinned kindsE true :=
  OpenClaim.laidByTextAt_pinned rfl rfl tieCE rfl rfl rfl rfl (fun y hy _e => by
    simp only [Rows.deskKeepsRow, kindsE, List.zip_cons_cons, List.zip_nil_right, List.mem_cons, List.mem_nil_iff, or_false] at hy
    rcases hy with rfl | rfl | rfl | rfl | rfl | rfl | rfl | rfl | rfl | rfl | rfl | rfl | rfl | rfl | rfl | rfl | rfl | rfl | rfl | rfl | rfl | rfl | rfl | rfl | rfl
    · cases _e
    · exact ⟨pin_laid_unicode_utf8_first, by kernel_rfl⟩
    · cases _e
    · cases _e
    · cases _e
    · cases _e
    · cases _e
    · cases _e
    · cases _e
    · cases _e
    · cases _e
    · cases _e
    · cases _e
    · cases _e
    · cases _e
    · cases _e
    · cases _e
    · cases _e
    · cases _e
    · cases _e
    · cases _e
    · cases _e
    · cases _e
    · cases _e
    · cases _e) fitsE
end Go.Proofs.YtgmndgnhejdnaaaGreatDoor
/- A part of the statement: own, walk, contract, w0, laidWorld. -/
namespace Go.Proofs.YtgmndgnhejdnaaaGreatDoor.deskKeeps
open Go.ChangeShapes Go.WideShapes Go.ChangeAt Go.RowKit Go.AX
set_option maxRecDepth 100000
theorem own : ownKnob Tryz.prog.godebug = none := by kernel_rfl
theorem walk (W : World) (hL : laidMetH Tryz.prog Rows.deskKeepsRow.laid W) (hS : W.ShapedOpen Tryz.prog) (n0 n1 : Int) : Calls Tryz.prog 4 #[.int .i64 n0, .int .i64 n1] W fun e w' => e = .returned (.bool true) ∧ Below W.heap.size W w' := by
  obtain ⟨hm, hh⟩ := laidH_parts (by kernel_rfl) hL
  refine calls_entry (call := call4) (a := c4) (ev := 27) (et := 538) (ev' := 427) (rt := 516) (tid := 27) (gh := 22) (l := tabs) (callN_ok ext4 tab_all 200) k4 sentsE (args := [.int .i64 n0, .int .i64 n1]) (xs := [.int .i64 n0, .int .i64 n1]) (fun ρ => denL_ints ρ [n0, n1]) (by rw [globals_size]; omega) (fun _ => rfl) tabs_ne hm (tabsE hm hS) (handle_cell (by kernel_rfl) hh hS) ?_
  rw [globals_size]
  exact all_run n0 n1
theorem contract (H : Type) (enc : TypeId × Value → H) (W : World) (base : Nat) (args : Array Value) (ds gs : List (DataW H)) (before : List MemPlace)
    (hval : ∀ (j : Nat) t v, Tryz.f4.params[j]? = some t → args[j]? = some v → Value.okWide Tryz.prog W .any base t v)
    (hW : DataW.Whole enc Tryz.prog Tryz.f4.params.toList Rows.deskKeepsSpec.vars false W args.toList ds gs before) (hL : laidMetH Tryz.prog Rows.deskKeepsRow.laid W) (hS : W.ShapedOpen Tryz.prog) :
    Calls Tryz.prog 4 args W fun e W' => ∃ v, e = .returned v ∧ Rows.deskKeepsSpec.post enc Tryz.prog Tryz.f4 false true false false W args v W' := by
  have hW' := hW
  obtain ⟨p, q, hA0, hV, rfl, hfz, hnd⟩ := hW
  have hA : DataW.TrodAll enc Tryz.prog W 0 (fun _ => true) true Tryz.f4.params.toList args.toList ds p := hA0
  rw [Tryz.params4] at hA hval
  obtain ⟨v0, vs0, d0, ds0, p0, q0, hargs, rfl, rfl, h0, r0⟩ := trodAll_cons hA
  obtain ⟨v1, vs1, d1, ds1, p1, q1, rfl, rfl, rfl, h1, r1⟩ := trodAll_cons r0
  obtain ⟨rfl, rfl, rfl⟩ := trodAll_nil r1
  obtain rfl : args = #[v0, v1] := by cases args; simp_all
  obtain ⟨rfl, rfl⟩ := trodVars_none hV
  obtain ⟨n0, rfl, rfl, rfl, w0⟩ := open_int Tryz.underlying3 (hval 0 3 v0 rfl rfl) h0
  obtain ⟨n1, rfl, rfl, rfl, w1⟩ := open_int Tryz.underlying3 (hval 1 3 v1 rfl rfl) h1
  clear hA0
  simp only [List.append_nil] at hW'
  refine (walk W hL hS n0 n1).mono fun e W' ⟨he, hb⟩ => ?_
  subst he
  exact ⟨_, rfl, post_of_below (pa := []) (pv := []) hW' (fun _ _ _ => trodAll_cons_mk (shut_bool Tryz.underlying4 _) trodAll_mk0) (fun _ _ => trodAll_cons_mk (shut_int Tryz.underlying3 w0) (trodAll_cons_mk (shut_int Tryz.underlying3 w1) (trodAll_mk0))) (fun _ _ => rfl) rfl hb⟩
end Go.Proofs.YtgmndgnhejdnaaaGreatDoor.deskKeeps
