/- CompLimits, whatever the number. -/
import Derived.Test.YtkjpjpfobolcdaaGreatDoorRLim0L
import Derived.Test.YtkjpjpfobolcdaaGreatDoorRLim1L
import Derived.Test.YtkjpjpfobolcdaaGreatDoorRLim2L
import Derived.Test.YtkjpjpfobolcdaaGreatDoorRLim3L
import Derived.Test.YtkjpjpfobolcdaaGreatDoorRLim4L
import Derived.Test.YtkjpjpfobolcdaaGreatDoorXFirstL
import Derived.Test.YtkjpjpfobolcdaaGreatDoorRK1L
import Derived.Test.YtkjpjpfobolcdaaGreatDoorRK2L
import Derived.Test.YtkjpjpfobolcdaaGreatDoorRK3L
import Derived.Test.YtkjpjpfobolcdaaGreatDoorRK4L
import Derived.Test.YtkjpjpfobolcdaaGreatDoorRK5L
import Derived.Test.YtkjpjpfobolcdaaGreatDoorTieAL
import Derived.Test.YtkjpjpfobolcdaaGreatDoorTieALL
import Derived.Test.YtkjpjpfobolcdaaGreatDoorTieBLL
import Derived.Test.YtkjpjpfobolcdaaGreatDoorTieCLL
import Derived.Test.YtkjpjpfobolcdaaGreatDoorTieDLL
import Derived.Test.YtkjpjpfobolcdaaGreatDoorXRowLL
import Derived.Test.YtkjpjpfobolcdaaGreatDoorAxE
import Derived.Test.YtkjpjpfobolcdaaGreatDoorCards
import Derived.Test.YtkjpjpfobolcdaaGreatDoorChecked
import Derived.ProofKit
import Derived.OpenShut
import Derived.Deep.DeepWitnessRowRef
import Derived.LaidMore
import Derived.Lay
import Derived.SevenTiedAt
import Derived.Stop.Joined
namespace Go.Proofs.YtkjpjpfobolcdaaGreatDoor
open Go.AX
set_option maxRecDepth 100000
noncomputable section
theorem lim_run (k : Int) : isTrueR (runFn call4 noCall c4 [.int .i64 k] HL) = true := by
  obtain ⟨q, hq, hlt⟩ := numI_lt k (m := 5) (by omega) (by omega)
  rw [m_to k _ hq]
  have h5 : q = 0 ∨ q = 1 ∨ q = 2 ∨ q = 3 ∨ q = 4 := by omega
  rcases h5 with h | h | h | h | h
  · rw [h]; exact m_0 k
  · rw [h]; exact m_1 k
  · rw [h]; exact m_2 k
  · rw [h]; exact m_3 k
  · rw [h]; exact m_4 k
end
end Go.Proofs.YtkjpjpfobolcdaaGreatDoor
/- Compile as a contract. -/
namespace Go.Proofs.YtkjpjpfobolcdaaGreatDoor
open Go.AX Go.RowKit
set_option maxRecDepth 100000
theorem all_nil {α : Type} {Q : α → Prop} : ∀ e, e ∈ ([] : List α) → Q e := fun e h => by cases h
theorem all_cons {α : Type} {a : α} {l : List α} {Q : α → Prop} (h : Q a) (h2 : ∀ e, e ∈ l → Q e) : ∀ e, e ∈ a :: l → Q e := fun e he => by
  rcases List.mem_cons.1 he with rfl | he
  · exact h
  · exact h2 e he
theorem tabK_run : ∀ e, e ∈ tabK → memoRun (callN (tabAt tabQ) X2 200 11) HL e = true :=
  all_cons tk1 (all_cons tk2 (all_cons tk3 (all_cons tk4 (all_cons tk5 (all_nil)))))
theorem hand_lt : 9 < Tryz.prog.globals.size := by rw [globals_size]; omega
theorem tabs_ne : ∀ e ∈ tabs, e.g ≠ 9 := by
  intro e he
  unfold tabs at he
  simp only [List.mem_cons, List.not_mem_nil, or_false] at he
  rcases he with rfl | rfl | rfl <;> exact Nat.ne_of_beq_eq_false (by kernel_rfl)
theorem x3_at (X : Ext) (f : FuncId) (g : CallH → List AV → AH → R (AV × AH)) (h : X3 f = some g) : OneOk Tryz.prog X f g := by
  unfold X3 at h
  rw [bsel_eq] at h
  split at h
  · rename_i e
    obtain rfl : f = 11 := by simpa using e
    refine ext_of ?_ h
    have := memo_ok (X := X) (n := 26) (sg := sgL) (s := strOf) (l := tabs) (gh := 9) (ev := 37) (pt := 647) (et := 649) (ev' := 252) (rt := 364) (tid := 37) (k := 200) (es := tabK) Tryz.func11 (by kernel_rfl) rfl k11 ext2 tab_all (by kernel_rfl) tabs_lt hand_lt tabs_ne (by rw [globals_size]; exact tabK_run)
    rw [globals_size] at this
    exact this
  · exact x2_at X f g h
theorem ext4 : ExtOk Tryz.prog X3 := fun f g ih h => x3_at X3 f g h ih
end Go.Proofs.YtkjpjpfobolcdaaGreatDoor
/- The rows' variables are laid as the program's text lays them: fact by fact. -/
namespace Go.Proofs.YtkjpjpfobolcdaaGreatDoor
open Go
theorem tieCL : Tryz.prog.laidByTextLater Rows.compLimitsRow.laid kindsL true := Program.laidByTextLater_by_run_h 600 8 tw1 tw2 tw3 tkL tw4 tnL tw5 t1L t2L t3L
theorem compLimits_tied : Rows.compLimitsRow.laidByTextAt .later Tryz.pinned kindsL true := OpenClaim.laidByTextAt_later rfl rfl tieCL noOwnUnsafeC
end Go.Proofs.YtkjpjpfobolcdaaGreatDoor
/- A part of the statement: own, walk, contract, w0, laidWorld. -/
namespace Go.Proofs.YtkjpjpfobolcdaaGreatDoor.compLimits
open Go.ChangeShapes Go.WideShapes Go.ChangeAt Go.RowKit Go.AX
set_option maxRecDepth 100000
theorem own : ownKnob Tryz.prog.godebug = none := by kernel_rfl
theorem walk (W : World) (hL : laidMetH Tryz.prog Rows.compLimitsRow.laid W) (hS : W.ShapedOpen Tryz.prog) (n0 : Int) : Calls Tryz.prog 4 #[.int .i64 n0] W fun e w' => e = .returned (.bool true) ∧ Below W.heap.size W w' := by
  obtain ⟨hm, hh⟩ := laidH_parts (by kernel_rfl) hL
  refine calls_entry (call := call4) (a := c4) (ev := 37) (et := 649) (ev' := 252) (rt := 364) (tid := 37) (gh := 9) (l := tabs) (callN_ok ext4 tab_all 200) k4 sentsL (args := [.int .i64 n0]) (xs := [.int .i64 n0]) (fun ρ => denL_ints ρ [n0]) (by rw [globals_size]; omega) (fun _ => rfl) tabs_ne hm (tabsL hm) (handle_cell (by kernel_rfl) hh hS) ?_
  rw [globals_size]
  exact lim_run n0
theorem contract (H : Type) (enc : TypeId × Value → H) (W : World) (base : Nat) (args : Array Value) (ds gs : List (DataW H)) (before : List MemPlace)
    (hval : ∀ (j : Nat) t v, Tryz.f4.params[j]? = some t → args[j]? = some v → Value.okWide Tryz.prog W .any base t v)
    (hW : DataW.Whole enc Tryz.prog Tryz.f4.params.toList Rows.compLimitsSpec.vars false W args.toList ds gs before) (hL : laidMetH Tryz.prog Rows.compLimitsRow.laid W) (hS : W.ShapedOpen Tryz.prog) :
    Calls Tryz.prog 4 args W fun e W' => ∃ v, e = .returned v ∧ Rows.compLimitsSpec.post enc Tryz.prog Tryz.f4 false true false false W args v W' := by
  have hW' := hW
  obtain ⟨p, q, hA0, hV, rfl, hfz, hnd⟩ := hW
  have hA : DataW.TrodAll enc Tryz.prog W 0 (fun _ => true) true Tryz.f4.params.toList args.toList ds p := hA0
  rw [Tryz.params4] at hA hval
  obtain ⟨v0, vs0, d0, ds0, p0, q0, hargs, rfl, rfl, h0, r0⟩ := trodAll_cons hA
  obtain ⟨rfl, rfl, rfl⟩ := trodAll_nil r0
  obtain rfl : args = #[v0] := by cases args; simp_all
  obtain ⟨rfl, rfl⟩ := trodVars_none hV
  obtain ⟨n0, rfl, rfl, rfl, w0⟩ := open_int Tryz.underlying3 (hval 0 3 v0 rfl rfl) h0
  clear hA0
  simp only [List.append_nil] at hW'
  refine (walk W hL hS n0).mono fun e W' ⟨he, hb⟩ => ?_
  subst he
  exact ⟨_, rfl, post_of_below (pa := []) (pv := []) hW' (fun _ _ _ => trodAll_cons_mk (shut_bool Tryz.underlying4 _) trodAll_mk0) (fun _ _ => trodAll_cons_mk (shut_int Tryz.underlying3 w0) (trodAll_mk0)) (fun _ _ => rfl) rfl hb⟩
noncomputable def w0 (os : Os) : World :=
  let h := World.holding Tryz.prog os ⟨#[], #[], []⟩
  { h with heap := h.heap.modify 9 fun
      | .cells _ t frozen => .cells #[.iface 364 (.agg #[.pointer (some ⟨26, 37, none⟩)])] t frozen
      | o => o }
noncomputable def laidWorld (os : Os) : World := (w0 os).layVars Tryz.prog plainL
end Go.Proofs.YtkjpjpfobolcdaaGreatDoor.compLimits
