/- What the row's condition gives. -/
import Derived.Test.YtgmndgnhejdnaaaGreatDoorXFirstK
import Derived.Test.YtgmndgnhejdnaaaGreatDoorRows
namespace Go.Proofs.YtgmndgnhejdnaaaGreatDoor
open Go.AX Go.RowKit
set_option maxRecDepth 100000
theorem laidH_parts {P : Program} {l : List (String × DataW Unit)} {W : World} (hne : (l.filter fun x => x.2.handleName?.isSome).isEmpty = false) (h : laidMetH P l W) : laidMet P (l.filter fun x => x.2.handleName?.isNone) W ∧ handlesMet P (l.filter fun x => x.2.handleName?.isSome) W := by
  unfold laidMetH at h
  split at h
  · rename_i hq; rw [hq] at hne; cases hne
  · rename_i x xs hq; rw [hq]; exact h
theorem rt_is : (Tryz.prog.cutTypes.find? (·.1 == "internal/reflectlite.rtype")).map (·.2) = some 516 := by kernel_rfl
theorem oneRow : ((List.range 770).filter fun t => Tryz.prog.rowNamed t [101, 114, 114, 111, 114]) = [27] := by kernel_rfl
theorem types_size : Tryz.prog.types.size = 770 := by kernel_rfl
theorem handle_cell {l : List (String × DataW Unit)} {W : World} (hm : (l.filter fun x => x.2.handleName?.isSome) = [("errors.errorType", Rows.laid_errors_errorType)]) (hh : handlesMet Tryz.prog (l.filter fun x => x.2.handleName?.isSome) W) (hS : W.ShapedOpen Tryz.prog) :
    ∃ t, W.heap[22]? = some (.cells #[handV Tryz.prog.globals.size 516 27] t (0, 0)) := by
  rw [hm] at hh
  obtain ⟨name, u, ty, e1, e2, e3, e4, e5⟩ := hh _ (List.mem_singleton.2 rfl)
  have en : name = [101, 114, 114, 111, 114] := (Option.some.inj e1).symm
  subst en
  obtain rfl := Option.some.inj (rt_is.symm.trans e2)
  have hm : ty ∈ (List.range 770).filter fun t => Tryz.prog.rowNamed t [101, 114, 114, 111, 114] := List.mem_filter.2 ⟨List.mem_range.2 (by rw [← types_size]; exact e3), e4⟩
  rw [oneRow] at hm
  obtain rfl := List.mem_singleton.1 hm
  have hh : typeHandle Tryz.prog 27 = .pointer (some ⟨28, 27, none⟩) := by kernel_rfl
  rw [hh] at e5
  obtain ⟨cs, h1, h2, h3⟩ := hS.1 22 #[.nilIface] 427 (by rw [globals_size]; omega) (by kernel_rfl)
  have hg : Tryz.prog.globalNamed "errors.errorType" = some 22 := by kernel_rfl
  unfold World.var? at e5
  rw [hg] at e5
  simp only [Option.bind_some, h1, Option.some.injEq] at e5
  subst e5
  rw [globals_size]
  exact ⟨427, h1⟩
end Go.Proofs.YtgmndgnhejdnaaaGreatDoor
/- What the row lays. -/
namespace Go.Proofs.YtgmndgnhejdnaaaGreatDoor
open Go.AX Go.RowKit
set_option maxRecDepth 100000
def plainE : List (String × DataW Unit) := Rows.deskKeepsRow.laid.filter fun x => x.2.handleName?.isNone
def idxE (g : Nat) : Nat := match g with
  | 0 => 0
  | 1 => 9
  | 2 => 18
  | 4 => 3
  | 5 => 15
  | 6 => 16
  | 7 => 7
  | 8 => 23
  | 10 => 20
  | 11 => 4
  | 12 => 6
  | 13 => 5
  | 14 => 8
  | 15 => 17
  | 16 => 19
  | 17 => 22
  | 18 => 21
  | 23 => 10
  | 24 => 11
  | _ => 0
theorem starNameE : "*" ++ "errors.errorString" = "*errors.errorString" := by decide
theorem sentsE : SentsAre Tryz.prog plainE 28 sgOf 536 idxE txtOf where
  le := by rw [globals_size]; omega
  at_ := fun g hg hq => by
    match g, hg, hq with
    | 0, _, _ => exact ⟨ "gristmill/api.ErrWord", by kernel_rfl, by kernel_rfl⟩
    | 1, _, _ => exact ⟨ "gristmill/api.ErrNumber", by kernel_rfl, by kernel_rfl⟩
    | 2, _, _ => exact ⟨ "gristmill/api.ErrNone", by kernel_rfl, by kernel_rfl⟩
    | 3, _, hq => cases hq
    | 4, _, _ => exact ⟨ "gristmill/api.ErrForm", by kernel_rfl, by kernel_rfl⟩
    | 5, _, _ => exact ⟨ "gristmill/api.ErrType", by kernel_rfl, by kernel_rfl⟩
    | 6, _, _ => exact ⟨ "gristmill/api.ErrMain", by kernel_rfl, by kernel_rfl⟩
    | 7, _, _ => exact ⟨ "gristmill/api.ErrMany", by kernel_rfl, by kernel_rfl⟩
    | 8, _, _ => exact ⟨ "gristmill/api.ErrRange", by kernel_rfl, by kernel_rfl⟩
    | 9, _, hq => cases hq
    | 10, _, _ => exact ⟨ "gristmill/api.ErrShape", by kernel_rfl, by kernel_rfl⟩
    | 11, _, _ => exact ⟨ "gristmill/api.ErrDeep", by kernel_rfl, by kernel_rfl⟩
    | 12, _, _ => exact ⟨ "gristmill/api.ErrOpen", by kernel_rfl, by kernel_rfl⟩
    | 13, _, _ => exact ⟨ "gristmill/api.ErrClose", by kernel_rfl, by kernel_rfl⟩
    | 14, _, _ => exact ⟨ "gristmill/api.ErrName", by kernel_rfl, by kernel_rfl⟩
    | 15, _, _ => exact ⟨ "gristmill/api.ErrTwice", by kernel_rfl, by kernel_rfl⟩
    | 16, _, _ => exact ⟨ "gristmill/api.ErrArity", by kernel_rfl, by kernel_rfl⟩
    | 17, _, _ => exact ⟨ "gristmill/api.ErrBound", by kernel_rfl, by kernel_rfl⟩
    | 18, _, _ => exact ⟨ "gristmill/api.ErrTag", by kernel_rfl, by kernel_rfl⟩
    | 19, _, hq => cases hq
    | 20, _, hq => cases hq
    | 21, _, hq => cases hq
    | 22, _, hq => cases hq
    | 23, _, _ => exact ⟨ "strconv.ErrSyntax", by kernel_rfl, by kernel_rfl⟩
    | 24, _, _ => exact ⟨ "strconv.ErrRange", by kernel_rfl, by kernel_rfl⟩
    | 25, _, hq => cases hq
    | 26, _, hq => cases hq
    | 27, _, hq => cases hq
    | n + 28, h, _ => omega
  inj := fun g g' hg hg' hq hq' h => by
    have key : ∀ a : Fin 28, ∀ b : Fin 28, sgOf a.1 = true → sgOf b.1 = true → idxE a.1 = idxE b.1 → a = b := by decide
    exact congrArg Fin.val (key ⟨g, hg⟩ ⟨g', hg'⟩ hq hq' h)
  ty := ⟨27, 538, 9, _, _, fun g hg hq => by
    match g, hg, hq with
    | 0, _, _ => exact (show (Tryz.prog.globals[0]?).map (·.type) = some 27 by kernel_rfl)
    | 1, _, _ => exact (show (Tryz.prog.globals[1]?).map (·.type) = some 27 by kernel_rfl)
    | 2, _, _ => exact (show (Tryz.prog.globals[2]?).map (·.type) = some 27 by kernel_rfl)
    | 3, _, hq => cases hq
    | 4, _, _ => exact (show (Tryz.prog.globals[4]?).map (·.type) = some 27 by kernel_rfl)
    | 5, _, _ => exact (show (Tryz.prog.globals[5]?).map (·.type) = some 27 by kernel_rfl)
    | 6, _, _ => exact (show (Tryz.prog.globals[6]?).map (·.type) = some 27 by kernel_rfl)
    | 7, _, _ => exact (show (Tryz.prog.globals[7]?).map (·.type) = some 27 by kernel_rfl)
    | 8, _, _ => exact (show (Tryz.prog.globals[8]?).map (·.type) = some 27 by kernel_rfl)
    | 9, _, hq => cases hq
    | 10, _, _ => exact (show (Tryz.prog.globals[10]?).map (·.type) = some 27 by kernel_rfl)
    | 11, _, _ => exact (show (Tryz.prog.globals[11]?).map (·.type) = some 27 by kernel_rfl)
    | 12, _, _ => exact (show (Tryz.prog.globals[12]?).map (·.type) = some 27 by kernel_rfl)
    | 13, _, _ => exact (show (Tryz.prog.globals[13]?).map (·.type) = some 27 by kernel_rfl)
    | 14, _, _ => exact (show (Tryz.prog.globals[14]?).map (·.type) = some 27 by kernel_rfl)
    | 15, _, _ => exact (show (Tryz.prog.globals[15]?).map (·.type) = some 27 by kernel_rfl)
    | 16, _, _ => exact (show (Tryz.prog.globals[16]?).map (·.type) = some 27 by kernel_rfl)
    | 17, _, _ => exact (show (Tryz.prog.globals[17]?).map (·.type) = some 27 by kernel_rfl)
    | 18, _, _ => exact (show (Tryz.prog.globals[18]?).map (·.type) = some 27 by kernel_rfl)
    | 19, _, hq => cases hq
    | 20, _, hq => cases hq
    | 21, _, hq => cases hq
    | 22, _, hq => cases hq
    | 23, _, _ => exact (show (Tryz.prog.globals[23]?).map (·.type) = some 27 by kernel_rfl)
    | 24, _, _ => exact (show (Tryz.prog.globals[24]?).map (·.type) = some 27 by kernel_rfl)
    | 25, _, hq => cases hq
    | 26, _, hq => cases hq
    | 27, _, hq => cases hq
    | n + 28, h, _ => omega, Tryz.underlying27, fun u h => typeName_ptr_named (nm := "errors.errorString") (by rw [starNameE]; kernel_rfl) (by kernel_rfl) (by decide) u (by rw [starNameE]; exact h), Tryz.underlying536, Tryz.underlying538, rfl, rfl, Tryz.underlying9, by kernel_rfl, by kernel_rfl⟩
theorem tabsE {W : World} (hl : laidMet Tryz.prog plainE W) (hS : W.ShapedOpen Tryz.prog) : TabsOk Tryz.prog W 28 sgOf tabs := by
  intro e he
  unfold tabs at he
  simp only [List.mem_cons, List.not_mem_nil, or_false] at he
  rcases he with rfl | rfl | rfl | rfl
  · exact ⟨by rw [globals_size]; exact Nat.le_of_ble_eq_true (by kernel_rfl), fun _ => rfl, un_block (t := 3) (zero := #[.int .i64 0]) rfl hS (by rw [globals_size]; exact Nat.le_of_ble_eq_true (by kernel_rfl)) (by kernel_rfl) rfl (by kernel_rfl) (by kernel_rfl) Tryz.underlying3⟩
  · refine ⟨by rw [globals_size]; exact Nat.le_of_ble_eq_true (by kernel_rfl), fun _ => rfl, ?_⟩
    obtain ⟨t, h⟩ := tab_block (zs := tab21.zs) (k := tab21.k) (i := 12) (name := "internal/strconv.uint64pow10") (tt := 413) (te := 94) (n := 20) hl (by kernel_rfl) (by kernel_rfl) (by kernel_rfl) Tryz.underlying413 Tryz.underlying94 (by kernel_rfl) (by kernel_rfl) (Nat.le_of_ble_eq_true (by kernel_rfl))
    exact ⟨t, _, h, by unfold Tab.valsIn; rw [if_neg (show ¬ tab21.un = true from Bool.false_ne_true)]; rfl⟩
  · refine ⟨by rw [globals_size]; exact Nat.le_of_ble_eq_true (by kernel_rfl), fun _ => rfl, ?_⟩
    obtain ⟨t, h⟩ := tab_block (zs := tab26.zs) (k := tab26.k) (i := 14) (name := "math/bits.deBruijn64tab") (tt := 457) (te := 5) (n := 64) hl (by kernel_rfl) (by kernel_rfl) (by kernel_rfl) Tryz.underlying457 Tryz.underlying5 (by kernel_rfl) (by kernel_rfl) (Nat.le_of_ble_eq_true (by kernel_rfl))
    exact ⟨t, _, h, by unfold Tab.valsIn; rw [if_neg (show ¬ tab26.un = true from Bool.false_ne_true)]; rfl⟩
  · refine ⟨by rw [globals_size]; exact Nat.le_of_ble_eq_true (by kernel_rfl), fun _ => rfl, ?_⟩
    obtain ⟨t, h⟩ := tab_block (zs := tab27.zs) (k := tab27.k) (i := 13) (name := "math/bits.deBruijn32tab") (tt := 605) (te := 5) (n := 32) hl (by kernel_rfl) (by kernel_rfl) (by kernel_rfl) Tryz.underlying605 Tryz.underlying5 (by kernel_rfl) (by kernel_rfl) (Nat.le_of_ble_eq_true (by kernel_rfl))
    exact ⟨t, _, h, by unfold Tab.valsIn; rw [if_neg (show ¬ tab27.un = true from Bool.false_ne_true)]; rfl⟩
end Go.Proofs.YtgmndgnhejdnaaaGreatDoor
