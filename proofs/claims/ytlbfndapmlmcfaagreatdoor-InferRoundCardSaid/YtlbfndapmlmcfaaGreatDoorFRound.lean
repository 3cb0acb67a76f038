/-
  InferRound: whatever the input, the call returns true and its arguments read as they did. Conditions: those of the given row alone: the listed package-level variables start as the program's text lays them (the card ties them).
-/
import Derived.Test.YtlbfndapmlmcfaaGreatDoorRRoundAll
import Derived.Test.YtlbfndapmlmcfaaGreatDoorAxD
import Derived.Test.YtlbfndapmlmcfaaGreatDoorCards
import Derived.Test.YtlbfndapmlmcfaaGreatDoorTie
import Derived.ProofKit
import Derived.OpenShut
import Derived.Deep.DeepWitnessRowRef
import Derived.LaidMore
import Derived.Lay
import Derived.SevenTiedAt
import Derived.Stop.Joined
namespace Go.Proofs.YtlbfndapmlmcfaaGreatDoor.inferRound
open Go.ChangeShapes Go.WideShapes Go.ChangeAt Go.RowKit Go.AX
set_option maxRecDepth 100000
theorem own : ownKnob Tryz.prog.godebug = none := by kernel_rfl
theorem walk (W : World) (hL : laidMetH Tryz.prog Rows.inferRoundRow.laid W) (n0 : Int) (h0 : -9223372036854775808 ≤ n0 ∧ n0 ≤ 9223372036854775807) : Calls Tryz.prog 5 #[.int .i64 n0] W fun e w' => e = .returned (.bool true) ∧ Below W.heap.size W w' := by
  rw [MakeChecks.laidMetH_plain _ _ _ (by kernel_rfl)] at hL
  have htab : ∀ W, laidMet Tryz.prog Rows.inferRoundRow.laid W → ∃ t, W.heap[18]? = some (.cells (Lib.pow10Tab.map fun z => Value.int .u64 z).toArray t (0, 0)) := fun W hl =>
    tab_block (i := 2) (name := "internal/strconv.uint64pow10") hl (by kernel_rfl) (by kernel_rfl) (tt := 196) (by kernel_rfl) Tryz.underlying196 Tryz.underlying157 (by kernel_rfl) (by kernel_rfl) (by rw [Lib.pow10Tab_length]; omega)
  refine calls_true_sym (call := call3) (a := c5) (ev := 42) (et := 248) (tt := 196) (callN_ok ext3 tab_all 100) k5 sentsAre htab (by omega) (by rw [globals_size]; omega) n0 (wrap_i64_fit n0 ⟨h0.1, by omega⟩) ?_ hL
  rw [globals_size]
  have := itoa_le h0.1 h0.2
  exact round_run _ this.1 this.2
theorem contract (H : Type) (enc : TypeId × Value → H) (W : World) (base : Nat) (args : Array Value) (ds gs : List (DataW H)) (before : List MemPlace)
    (hval : ∀ (j : Nat) t v, Tryz.f5.params[j]? = some t → args[j]? = some v → Value.okWide Tryz.prog W .any base t v)
    (hW : DataW.Whole enc Tryz.prog Tryz.f5.params.toList Rows.inferRoundSpec.vars false W args.toList ds gs before) (hL : laidMetH Tryz.prog Rows.inferRoundRow.laid W) :
    Calls Tryz.prog 5 args W fun e W' => ∃ v, e = .returned v ∧ Rows.inferRoundSpec.post enc Tryz.prog Tryz.f5 false true false false W args v W' := by
  have hW' := hW
  obtain ⟨p, q, hA0, hV, rfl, hfz, hnd⟩ := hW
  have hA : DataW.TrodAll enc Tryz.prog W 0 (fun _ => true) true Tryz.f5.params.toList args.toList ds p := hA0
  rw [Tryz.params5] at hA hval
  obtain ⟨v0, vs0, d0, ds0, p0, q0, hargs, rfl, rfl, h0, r0⟩ := trodAll_cons hA
  obtain ⟨rfl, rfl, rfl⟩ := trodAll_nil r0
  obtain rfl : args = #[v0] := by cases args; simp_all
  obtain ⟨rfl, rfl⟩ := trodVars_none hV
  obtain ⟨n0, rfl, rfl, rfl, w0⟩ := open_int Tryz.underlying3 (hval 0 3 v0 rfl rfl) h0
  clear hA0
  simp only [List.append_nil] at hW'
  have hr : -9223372036854775808 ≤ n0 ∧ n0 ≤ 9223372036854775807 := by
    simp only [Lit.wf, Bool.and_eq_true, decide_eq_true_eq] at w0
    have e1 : IntKind.min .i64 = -9223372036854775808 := by decide
    have e2 : IntKind.max .i64 = 9223372036854775807 := by decide
    rw [e1, e2] at w0
    exact w0
  refine (walk W hL n0 hr).mono fun e W' ⟨he, hb⟩ => ?_
  subst he
  exact ⟨_, rfl, post_of_below (pa := []) (pv := []) hW' (fun _ _ _ => trodAll_cons_mk (shut_bool Tryz.underlying4 _) trodAll_mk0) (fun _ _ => trodAll_cons_mk (shut_int Tryz.underlying3 w0) (trodAll_mk0)) (fun _ _ => rfl) rfl hb⟩
noncomputable def laidWorld (os : Os) : World := World.laidAll Tryz.prog os Rows.inferRoundRow.laid
theorem laid_met (os : Os) : laidMetH Tryz.prog Rows.inferRoundRow.laid ((laidWorld os).forCall (fun _ _ => 0) ⟨#[], #[.int .i64 0], []⟩).memory := by
  rw [MakeChecks.laidMetH_plain _ _ _ (by kernel_rfl)]
  exact laidMet_laidAll _ (by kernel_rfl) (by kernel_rfl)
theorem reads (os : Os) {H : Type} (enc : TypeId × Value → H) : ∃ places, DataW.whole enc Tryz.prog ((laidWorld os).forCall (fun _ _ => 0) ⟨#[], #[.int .i64 0], []⟩).memory Tryz.f5.params.toList Rows.inferRoundSpec.vars false #[Value.int .i64 0].toList 8 = some ([.lit (.int .i64 0)], [], places) :=
  ⟨[], by kernel_rfl⟩
theorem lifted (os : Os) (started : os.Started) (H : Type) (enc : TypeId × Value → H) (F : Stop.Interp) :
    ReturnsInHanded {} Tryz.checked os 5 .any ((OpenSpec.ofChange Rows.inferRoundSpec).preRow enc Tryz.prog Tryz.f5 Rows.inferRoundRow.domain false Rows.inferRoundRow.laid) (((OpenSpec.ofChange Rows.inferRoundSpec).at F).post enc Tryz.prog Tryz.f5 false true false false) := by
  obtain ⟨places, hx⟩ := reads os enc
  refine returnsInHanded_of_row (C := Tryz.checked) (s := OpenSpec.ofChange Rows.inferRoundSpec) own started (by kernel_rfl) Tryz.func5
    (witness_row_atRef (enc := enc) (C := Tryz.checked) false (laidWorld os) #[.int .i64 0] (World.laidAll_os _ _ _) (by kernel_rfl) (by kernel_rfl) (by kernel_rfl)
      (OpenSpec.preRow_of_cond 8 hx (by kernel_rfl) (fun k hk => by cases hk) (by kernel_rfl) (laid_met os))) ?_
  intro W base args ds gs before hval hW _ _ _ hL _ _
  exact contract H enc W base args ds gs before hval hW hL
theorem said : Rows.InferRoundSaid :=
  OpenClaim.holds_of_cond 5 Tryz.f5 rfl rfl rfl rfl rfl rfl rfl ⟨rfl, rfl, rfl, rfl, rfl⟩ rfl rfl rfl rfl rfl (by kernel_rfl) Tryz.func5 (by kernel_rfl)
    (of_decide_eq_true (by kernel_rfl)) (by unfold Func.isWrapper; first | (rw [if_pos (by decide +kernel)]; kernel_rfl) | (rw [if_neg (by decide +kernel)]; exact ⟨rfl, rfl⟩))
    (fun os started H enc _ F => by rw [OpenClaim.pre_eq_preRow]; exact lifted os started H enc F)
theorem plain (f : FuncId) (fn : Func) (hf : Tryz.pinned.checked.prog.funcNamed "gristmill/gristmilllaw9.InferRound" = some f) (hfn : Tryz.pinned.checked.prog.funcs[f]? = some fn) :
    true = Tryz.pinned.checked.prog.looks [] ∧ ∀ (j : Nat) t, fn.params[j]? = some t → Tryz.pinned.checked.prog.wantsStandIn t = false := by
  obtain rfl : f = 5 := Option.some.inj ((show Tryz.prog.funcNamed "gristmill/gristmilllaw9.InferRound" = some 5 by kernel_rfl).symm.trans hf) |>.symm
  obtain rfl : fn = Tryz.f5 := (Option.some.inj (Tryz.func5.symm.trans hfn)).symm
  refine ⟨by kernel_rfl, fun j t ht => ?_⟩
  rw [Tryz.params5] at ht
  obtain rfl : t = 3 := by simpa using Array.mem_of_getElem? ht
  exact (show Tryz.prog.wantsStandIn 3 = false by kernel_rfl)
theorem card : Rows.InferRoundCardSaid :=
  Claim7.holds_tied_plain_at .later [] _ _ _ _ said (fun _ h => by cases h) (by kernel_rfl) (fun _ h => by cases h) inferRound_row_tie rfl ⟨rfl, rfl⟩ (by kernel_rfl) rfl plain (by kernel_rfl)
end Go.Proofs.YtlbfndapmlmcfaaGreatDoor.inferRound
namespace Go.Proofs.YtlbfndapmlmcfaaGreatDoor
theorem the_inferRound : Rows.InferRoundCardSaid := inferRound.card
end Go.Proofs.YtlbfndapmlmcfaaGreatDoor
