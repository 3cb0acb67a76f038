/- Closed facts of the row. -/
import Derived.Test.YtgmndgnhejdnaaaGreatDoorCards
import Derived.Test.YtgmndgnhejdnaaaGreatDoorChecked
import Derived.ProofKit
import Derived.OpenShut
import Derived.SevenTiedAt
namespace Go.Proofs.YtgmndgnhejdnaaaGreatDoor.deskKeeps
open Go.ChangeShapes Go.WideShapes Go.ChangeAt Go.RowKit
set_option maxRecDepth 100000
theorem j0 : (Rows.deskKeepsRow.wf (OpenSpec.ofChange (OpenSpec.ofChange Rows.deskKeepsSpec).bare)) = true := by kernel_rfl
theorem r0 : ((List.range' 0 100).all (rowFine (Tryz.pinned.checked.prog))) = true := by kernel_rfl
theorem r1 : ((List.range' 100 100).all (rowFine (Tryz.pinned.checked.prog))) = true := by kernel_rfl
theorem r2 : ((List.range' 200 100).all (rowFine (Tryz.pinned.checked.prog))) = true := by kernel_rfl
theorem r3 : ((List.range' 300 100).all (rowFine (Tryz.pinned.checked.prog))) = true := by kernel_rfl
theorem r4 : ((List.range' 400 100).all (rowFine (Tryz.pinned.checked.prog))) = true := by kernel_rfl
theorem r5 : ((List.range' 500 100).all (rowFine (Tryz.pinned.checked.prog))) = true := by kernel_rfl
theorem r6 : ((List.range' 600 100).all (rowFine (Tryz.pinned.checked.prog))) = true := by kernel_rfl
theorem r7 : ((List.range' 700 70).all (rowFine (Tryz.pinned.checked.prog))) = true := by kernel_rfl
theorem r_chunk {f : Nat → Bool} {a k : Nat} (h : (List.range' a k).all f = true) (i : Nat) (h1 : a ≤ i) (h2 : i < a + k) : f i = true := List.all_eq_true.1 h i (List.mem_range'_1.2 ⟨h1, h2⟩)
theorem r_all {f : Nat → Bool} {n : Nat} (h : ∀ i, i < n → f i = true) : (List.range n).all f = true := List.all_eq_true.2 fun i hi => h i (List.mem_range.1 hi)
theorem r_size : (Tryz.pinned.checked.prog).types.size = 770 := by kernel_rfl
theorem r_row (i : Nat) (h : i < 770) : rowFine (Tryz.pinned.checked.prog) i = true := by
  by_cases h0 : i < 100
  · exact r_chunk r0 i (by omega) (by omega)
  by_cases h1 : i < 200
  · exact r_chunk r1 i (by omega) (by omega)
  by_cases h2 : i < 300
  · exact r_chunk r2 i (by omega) (by omega)
  by_cases h3 : i < 400
  · exact r_chunk r3 i (by omega) (by omega)
  by_cases h4 : i < 500
  · exact r_chunk r4 i (by omega) (by omega)
  by_cases h5 : i < 600
  · exact r_chunk r5 i (by omega) (by omega)
  by_cases h6 : i < 700
  · exact r_chunk r6 i (by omega) (by omega)
  exact r_chunk r7 i (by omega) (by omega)
theorem r_glob : (Tryz.pinned.checked.prog).globals.all (fun g => decide (g.type < (Tryz.pinned.checked.prog).types.size)) = true := by kernel_rfl
theorem r_fun : (Tryz.pinned.checked.prog).funcs.all (fun f => f.params.all fun t => decide (t < (Tryz.pinned.checked.prog).types.size)) = true := by kernel_rfl
theorem j1 : laidOutB (Tryz.pinned.checked.prog) = true := by
  unfold laidOutB
  rw [r_glob, r_fun, Bool.and_true, Bool.and_true]
  exact r_all fun i hi => r_row i (by rw [r_size] at hi; exact hi)
theorem g0 : ((List.range' 0 160).all fun i => !((Tryz.pinned.checked.prog).funcs[i]?).any Func.goes) = true := by kernel_rfl
theorem g1 : ((List.range' 160 160).all fun i => !((Tryz.pinned.checked.prog).funcs[i]?).any Func.goes) = true := by kernel_rfl
theorem g2 : ((List.range' 320 160).all fun i => !((Tryz.pinned.checked.prog).funcs[i]?).any Func.goes) = true := by kernel_rfl
theorem g3 : ((List.range' 480 160).all fun i => !((Tryz.pinned.checked.prog).funcs[i]?).any Func.goes) = true := by kernel_rfl
theorem g4 : ((List.range' 640 52).all fun i => !((Tryz.pinned.checked.prog).funcs[i]?).any Func.goes) = true := by kernel_rfl
theorem g_size : (Tryz.pinned.checked.prog).funcs.size = 692 := by kernel_rfl
theorem g_none (i : Nat) : ((Tryz.pinned.checked.prog).funcs[i]?).any Func.goes = false := by
  by_cases h0 : i < 160
  · have := List.all_eq_true.1 g0 i (List.mem_range'_1.2 ⟨by omega, by omega⟩)
    simpa using this
  by_cases h1 : i < 320
  · have := List.all_eq_true.1 g1 i (List.mem_range'_1.2 ⟨by omega, by omega⟩)
    simpa using this
  by_cases h2 : i < 480
  · have := List.all_eq_true.1 g2 i (List.mem_range'_1.2 ⟨by omega, by omega⟩)
    simpa using this
  by_cases h3 : i < 640
  · have := List.all_eq_true.1 g3 i (List.mem_range'_1.2 ⟨by omega, by omega⟩)
    simpa using this
  by_cases h4 : i < 692
  · have := List.all_eq_true.1 g4 i (List.mem_range'_1.2 ⟨by omega, by omega⟩)
    simpa using this
  rw [Array.getElem?_eq_none (by rw [g_size]; omega)]
  rfl
theorem k_goes : false = Rows.deskKeepsRow.goesBy Tryz.pinned.checked.prog := by
  have h1 : (Tryz.pinned.checked.prog).funcs.any Func.goes = false := by
    rw [← Bool.not_eq_true, Array.any_eq_true]
    rintro ⟨i, hi, h⟩
    have := g_none i
    rw [Array.getElem?_eq_getElem hi] at this
    rw [Option.any_some] at this
    rw [this] at h; cases h
  have h2 : ∀ f, (Tryz.pinned.checked.prog).goes f = false := by
    intro f
    unfold Program.goes
    rw [h1, Bool.and_false, Bool.or_false, ← Bool.not_eq_true, List.any_eq_true]
    rintro ⟨g, _, h⟩
    rw [g_none g] at h; cases h
  unfold OpenClaim.goesBy Program.goesAt Program.goesFrom
  rw [show Rows.deskKeepsRow.start = .entering from rfl]
  cases (Tryz.pinned.checked.prog).funcNamed Rows.deskKeepsRow.func with
  | none => rfl
  | some f => rw [Option.any_some, h2]; rfl
theorem k_wf : Rows.deskKeepsRow.wfByText (OpenSpec.ofChange Rows.deskKeepsSpec) = true := by kernel_rfl
theorem k_main : Tryz.pinned.checked.prog.mainIs = some (Rows.deskKeepsCard.stood.harness.1, Rows.deskKeepsCard.stood.harness.2.toList) := by kernel_rfl
end Go.Proofs.YtgmndgnhejdnaaaGreatDoor.deskKeeps
