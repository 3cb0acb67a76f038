/- CompErrors, whatever the two numbers. -/
import Derived.Test.YtkjpjpfobolcdaaGreatDoorRErr0
import Derived.Test.YtkjpjpfobolcdaaGreatDoorRErr1
import Derived.Test.YtkjpjpfobolcdaaGreatDoorXMemo3
import Derived.Test.YtkjpjpfobolcdaaGreatDoorRF0
import Derived.Test.YtkjpjpfobolcdaaGreatDoorRF1
import Derived.Test.YtkjpjpfobolcdaaGreatDoorRF2
import Derived.Test.YtkjpjpfobolcdaaGreatDoorTieA
import Derived.Test.YtkjpjpfobolcdaaGreatDoorTieAE
import Derived.Test.YtkjpjpfobolcdaaGreatDoorTieBE
import Derived.Test.YtkjpjpfobolcdaaGreatDoorTieCE
import Derived.Test.YtkjpjpfobolcdaaGreatDoorTieDE
import Derived.Test.YtkjpjpfobolcdaaGreatDoorXRowE
import Derived.Test.YtkjpjpfobolcdaaGreatDoorAxE
import Derived.Test.YtkjpjpfobolcdaaGreatDoorCards
import Derived.Test.YtkjpjpfobolcdaaGreatDoorChecked
import Derived.ProofKit
import Derived.OpenShut
import Derived.Deep.DeepWitnessRowRef
import Derived.LaidMore
import Derived.Lay
import Derived.SevenTiedAt
import Derived.Stop.Joined
namespace Go.Proofs.YtkjpjpfobolcdaaGreatDoor
open Go.AX
set_option maxRecDepth 100000
noncomputable section
theorem err_run (k a : Int) : isTrueR (runFn call4 noCall c3 [.int .i64 k, .int .i64 a] HE) = true := by
  obtain ⟨q, hq, hlt⟩ := numI_lt a (m := 10) (by omega) (by omega)
  have h5 : q = 0 ∨ q = 1 ∨ q = 2 ∨ q = 3 ∨ q = 4 ∨ q = 5 ∨ q = 6 ∨ q = 7 ∨ q = 8 ∨ q = 9 := by omega
  rcases h5 with h | h | h | h | h | h | h | h | h | h
  · exact e_0 k a (by rw [hq, h])
  · exact e_1 k a (by rw [hq, h])
  · exact e_2 k a (by rw [hq, h])
  · exact e_3 k a (by rw [hq, h])
  · exact e_4 k a (by rw [hq, h])
  · exact e_5 k a (by rw [hq, h])
  · exact e_6 k a (by rw [hq, h])
  · exact e_7 k a (by rw [hq, h])
  · exact e_8 k a (by rw [hq, h])
  · exact e_9 k a (by rw [hq, h])
end
end Go.Proofs.YtkjpjpfobolcdaaGreatDoor
/- Compile as a contract. -/
namespace Go.Proofs.YtkjpjpfobolcdaaGreatDoor
open Go.AX Go.RowKit
set_option maxRecDepth 100000
theorem tabF_run : ∀ e, e ∈ tabF → memoRun (callN (tabAt tabQ) X3 200 11) HE e = true :=
  all_cons tf0 (all_cons tf1 (all_cons tf2 (all_cons tf3 (all_cons tf4 (all_cons tf5 (all_cons tf6 (all_cons tf7 (all_cons tf8 (all_cons tf9 (all_nil))))))))))
theorem x4_at (X : Ext) (f : FuncId) (g : CallH → List AV → AH → R (AV × AH)) (h : X4 f = some g) : OneOk Tryz.prog X f g := by
  unfold X4 at h
  rw [bsel_eq] at h
  split at h
  · rename_i e
    obtain rfl : f = 11 := by simpa using e
    refine ext_of ?_ h
    have := memo_ok (X := X) (n := 26) (sg := sgOf) (s := strOf) (l := tabs) (gh := 9) (ev := 37) (pt := 647) (et := 649) (ev' := 252) (rt := 364) (tid := 37) (k := 200) (es := tabF) Tryz.func11 (by kernel_rfl) rfl k11 ext3 tab_all (by kernel_rfl) tabs_lt hand_lt tabs_ne (by rw [globals_size]; exact tabF_run)
    rw [globals_size] at this
    exact this
  · exact x3_at X f g h
theorem ext4 : ExtOk Tryz.prog X4 := fun f g ih h => x4_at X4 f g h ih
end Go.Proofs.YtkjpjpfobolcdaaGreatDoor
/- The rows' variables are laid as the program's text lays them: fact by fact. -/
namespace Go.Proofs.YtkjpjpfobolcdaaGreatDoor
open Go
theorem tieCE : Tryz.prog.laidByTextLater Rows.compErrorsRow.laid kindsE true := Program.laidByTextLater_by_run_h 600 8 tw1 tw2 tw3 tkE tw4 tnE tw5 t1E t2E t3E
theorem compErrors_tied : Rows.compErrorsRow.laidByTextAt .later Tryz.pinned kindsE true := OpenClaim.laidByTextAt_later rfl rfl tieCE noOwnUnsafeC
end Go.Proofs.YtkjpjpfobolcdaaGreatDoor
/- A part of the statement: own, walk, contract, w0, laidWorld. -/
namespace Go.Proofs.YtkjpjpfobolcdaaGreatDoor.compErrors
open Go.ChangeShapes Go.WideShapes Go.ChangeAt Go.RowKit Go.AX
set_option maxRecDepth 100000
theorem own : ownKnob Tryz.prog.godebug = none := by kernel_rfl
theorem walk (W : World) (hL : laidMetH Tryz.prog Rows.compErrorsRow.laid W) (hS : W.ShapedOpen Tryz.prog) (n0 n1 : Int) : Calls Tryz.prog 3 #[.int .i64 n0, .int .i64 n1] W fun e w' => e = .returned (.bool true) ∧ Below W.heap.size W w' := by
  obtain ⟨hm, hh⟩ := laidH_parts (by kernel_rfl) hL
  refine calls_entry (call := call4) (a := c3) (ev := 37) (et := 649) (ev' := 252) (rt := 364) (tid := 37) (gh := 9) (l := tabs) (callN_ok ext4 tab_all 200) k3 sentsE (args := [.int .i64 n0, .int .i64 n1]) (xs := [.int .i64 n0, .int .i64 n1]) (fun ρ => denL_ints ρ [n0, n1]) (by rw [globals_size]; omega) (fun _ => rfl) tabs_ne hm (tabsE hm) (handle_cell (by kernel_rfl) hh hS) ?_
  rw [globals_size]
  exact err_run n0 n1
theorem contract (H : Type) (enc : TypeId × Value → H) (W : World) (base : Nat) (args : Array Value) (ds gs : List (DataW H)) (before : List MemPlace)
    (hval : ∀ (j : Nat) t v, Tryz.f3.params[j]? = some t → args[j]? = some v → Value.okWide Tryz.prog W .any base t v)
    (hW : DataW.Whole enc Tryz.prog Tryz.f3.params.toList Rows.compErrorsSpec.vars false W args.toList ds gs before) (hL : laidMetH Tryz.prog Rows.compErrorsRow.laid W) (hS : W.ShapedOpen Tryz.prog) :
    Calls Tryz.prog 3 args W fun e W' => ∃ v, e = .returned v ∧ Rows.compErrorsSpec.post enc Tryz.prog Tryz.f3 false true false false W args v W' := by
  have hW' := hW
  obtain ⟨p, q, hA0, hV, rfl, hfz, hnd⟩ := hW
  have hA : DataW.TrodAll enc Tryz.prog W 0 (fun _ => true) true Tryz.f3.params.toList args.toList ds p := hA0
  rw [Tryz.params3] at hA hval
  obtain ⟨v0, vs0, d0, ds0, p0, q0, hargs, rfl, rfl, h0, r0⟩ := trodAll_cons hA
  obtain ⟨v1, vs1, d1, ds1, p1, q1, rfl, rfl, rfl, h1, r1⟩ := trodAll_cons r0
  obtain ⟨rfl, rfl, rfl⟩ := trodAll_nil r1
  obtain rfl : args = #[v0, v1] := by cases args; simp_all
  obtain ⟨rfl, rfl⟩ := trodVars_none hV
  obtain ⟨n0, rfl, rfl, rfl, w0⟩ := open_int Tryz.underlying3 (hval 0 3 v0 rfl rfl) h0
  obtain ⟨n1, rfl, rfl, rfl, w1⟩ := open_int Tryz.underlying3 (hval 1 3 v1 rfl rfl) h1
  clear hA0
  simp only [List.append_nil] at hW'
  refine (walk W hL hS n0 n1).mono fun e W' ⟨he, hb⟩ => ?_
  subst he
  exact ⟨_, rfl, post_of_below (pa := []) (pv := []) hW' (fun _ _ _ => trodAll_cons_mk (shut_bool Tryz.underlying4 _) trodAll_mk0) (fun _ _ => trodAll_cons_mk (shut_int Tryz.underlying3 w0) (trodAll_cons_mk (shut_int Tryz.underlying3 w1) (trodAll_mk0))) (fun _ _ => rfl) rfl hb⟩
noncomputable def w0 (os : Os) : World :=
  let h := World.holding Tryz.prog os ⟨#[], #[], []⟩
  { h with heap := h.heap.modify 9 fun
      | .cells _ t frozen => .cells #[.iface 364 (.agg #[.pointer (some ⟨26, 37, none⟩)])] t frozen
      | o => o }
noncomputable def laidWorld (os : Os) : World := (w0 os).layVars Tryz.prog plainE
end Go.Proofs.YtkjpjpfobolcdaaGreatDoor.compErrors
