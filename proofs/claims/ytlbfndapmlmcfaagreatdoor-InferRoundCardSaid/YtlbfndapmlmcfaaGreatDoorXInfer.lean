/- The sentinels of this seat; the functions taken by a contract. -/
import Derived.Test.YtlbfndapmlmcfaaGreatDoorAxD
import Derived.Test.YtlbfndapmlmcfaaGreatDoorKAll
import Derived.Test.YtlbfndapmlmcfaaGreatDoorF47Walk
import Derived.Test.YtlbfndapmlmcfaaGreatDoorCards
namespace Go.Proofs.YtlbfndapmlmcfaaGreatDoor
open Go.AX
set_option maxRecDepth 100000
noncomputable section
theorem starName : "*" ++ "errors.errorString" = "*errors.errorString" := by decide
def txtOf (g : Nat) : List UInt8 := match g with
  | 0 => [105, 116, 32, 104, 97, 115, 32, 110, 111, 32, 116, 121, 112, 101]
  | 1 => [110, 111, 32, 109, 97, 105, 110, 32, 119, 105, 116, 104, 111, 117, 116, 32, 112, 97, 114, 97, 109, 101, 116, 101, 114, 115]
  | 2 => [116, 111, 111, 32, 109, 97, 110, 121]
  | 3 => [116, 104, 101, 114, 101, 32, 105, 115, 32, 111, 110, 101]
  | 4 => [116, 104, 101, 114, 101, 32, 105, 115, 32, 110, 111, 110, 101]
  | 5 => [110, 111, 116, 32, 97, 32, 110, 97, 109, 101]
  | 6 => [110, 111, 116, 32, 97, 115, 32, 109, 97, 110, 121, 32, 97, 115, 32, 105, 116, 32, 116, 97, 107, 101, 115]
  | 7 => [105, 116, 32, 101, 110, 100, 115, 32, 116, 111, 111, 32, 101, 97, 114, 108, 121]
  | 8 => [110, 111, 116, 32, 97, 115, 32, 105, 116, 32, 104, 97, 115, 32, 116, 111, 32, 98, 101]
  | 9 => [97, 32, 110, 117, 109, 98, 101, 114, 32, 111, 117, 116, 32, 111, 102, 32, 105, 116, 115, 32, 114, 97, 110, 103, 101]
  | 10 => [116, 111, 111, 32, 100, 101, 101, 112]
  | 11 => [97, 32, 98, 114, 97, 99, 107, 101, 116, 32, 116, 104, 97, 116, 32, 105, 115, 32, 110, 111, 116, 32, 99, 108, 111, 115, 101, 100]
  | 12 => [97, 32, 98, 114, 97, 99, 107, 101, 116, 32, 116, 104, 97, 116, 32, 119, 97, 115, 32, 110, 111, 116, 32, 111, 112, 101, 110, 101, 100]
  | 13 => [110, 111, 32, 115, 117, 99, 104, 32, 102, 111, 114, 109]
  | 14 => [110, 111, 116, 32, 98, 111, 117, 110, 100, 44, 32, 111, 114, 32, 98, 111, 117, 110, 100, 32, 116, 119, 105, 99, 101]
  | 15 => [110, 111, 116, 32, 111, 102, 32, 116, 104, 97, 116, 32, 116, 97, 103]
  | 16 => [110, 111, 32, 115, 117, 99, 104, 32, 119, 111, 114, 100]
  | 17 => [110, 111, 116, 32, 97, 32, 110, 117, 109, 98, 101, 114]
  | _ => []
def idxOf (g : Nat) : Nat := match g with
  | 0 => 16
  | 1 => 15
  | 2 => 6
  | 3 => 12
  | 4 => 13
  | 5 => 11
  | 6 => 14
  | 7 => 3
  | 8 => 4
  | 9 => 5
  | 10 => 7
  | 11 => 8
  | 12 => 9
  | 13 => 10
  | 14 => 17
  | 15 => 18
  | 16 => 19
  | 17 => 20
  | _ => 0
def strOf (g : Nat) : Nat × Nat := ((txtOf g).length, encL (txtOf g) 0)
def H0 : AH := h00 42 234 248 22 18 strOf
theorem globals_size : Tryz.prog.globals.size = 22 := by kernel_rfl
theorem sentsAre : SentsAre Tryz.prog Rows.inferWrongRow.laid 18 234 idxOf txtOf where
  le := by rw [globals_size]; omega
  at_ := fun g hg => by
    match g, hg with
    | 0, _ => exact ⟨ "gristmill/api.ErrType", by kernel_rfl, by kernel_rfl⟩
    | 1, _ => exact ⟨ "gristmill/api.ErrMain", by kernel_rfl, by kernel_rfl⟩
    | 2, _ => exact ⟨ "gristmill/api.ErrMany", by kernel_rfl, by kernel_rfl⟩
    | 3, _ => exact ⟨ "gristmill/api.ErrTwice", by kernel_rfl, by kernel_rfl⟩
    | 4, _ => exact ⟨ "gristmill/api.ErrNone", by kernel_rfl, by kernel_rfl⟩
    | 5, _ => exact ⟨ "gristmill/api.ErrName", by kernel_rfl, by kernel_rfl⟩
    | 6, _ => exact ⟨ "gristmill/api.ErrArity", by kernel_rfl, by kernel_rfl⟩
    | 7, _ => exact ⟨ "gristmill/api.ErrEnd", by kernel_rfl, by kernel_rfl⟩
    | 8, _ => exact ⟨ "gristmill/api.ErrShape", by kernel_rfl, by kernel_rfl⟩
    | 9, _ => exact ⟨ "gristmill/api.ErrRange", by kernel_rfl, by kernel_rfl⟩
    | 10, _ => exact ⟨ "gristmill/api.ErrDeep", by kernel_rfl, by kernel_rfl⟩
    | 11, _ => exact ⟨ "gristmill/api.ErrOpen", by kernel_rfl, by kernel_rfl⟩
    | 12, _ => exact ⟨ "gristmill/api.ErrClose", by kernel_rfl, by kernel_rfl⟩
    | 13, _ => exact ⟨ "gristmill/api.ErrForm", by kernel_rfl, by kernel_rfl⟩
    | 14, _ => exact ⟨ "gristmill/api.ErrBound", by kernel_rfl, by kernel_rfl⟩
    | 15, _ => exact ⟨ "gristmill/api.ErrTag", by kernel_rfl, by kernel_rfl⟩
    | 16, _ => exact ⟨ "gristmill/api.ErrWord", by kernel_rfl, by kernel_rfl⟩
    | 17, _ => exact ⟨ "gristmill/api.ErrNumber", by kernel_rfl, by kernel_rfl⟩
    | n + 18, h => omega
  inj := fun g g' hg hg' h => by
    have key : ∀ a : Fin 18, ∀ b : Fin 18, idxOf a.1 = idxOf b.1 → a = b := by decide
    exact congrArg Fin.val (key ⟨g, hg⟩ ⟨g', hg'⟩ h)
  ty := ⟨42, 248, 9, _, _, fun g hg => by
    match g, hg with
    | 0, _ => exact (show (Tryz.prog.globals[0]?).map (·.type) = some 42 by kernel_rfl)
    | 1, _ => exact (show (Tryz.prog.globals[1]?).map (·.type) = some 42 by kernel_rfl)
    | 2, _ => exact (show (Tryz.prog.globals[2]?).map (·.type) = some 42 by kernel_rfl)
    | 3, _ => exact (show (Tryz.prog.globals[3]?).map (·.type) = some 42 by kernel_rfl)
    | 4, _ => exact (show (Tryz.prog.globals[4]?).map (·.type) = some 42 by kernel_rfl)
    | 5, _ => exact (show (Tryz.prog.globals[5]?).map (·.type) = some 42 by kernel_rfl)
    | 6, _ => exact (show (Tryz.prog.globals[6]?).map (·.type) = some 42 by kernel_rfl)
    | 7, _ => exact (show (Tryz.prog.globals[7]?).map (·.type) = some 42 by kernel_rfl)
    | 8, _ => exact (show (Tryz.prog.globals[8]?).map (·.type) = some 42 by kernel_rfl)
    | 9, _ => exact (show (Tryz.prog.globals[9]?).map (·.type) = some 42 by kernel_rfl)
    | 10, _ => exact (show (Tryz.prog.globals[10]?).map (·.type) = some 42 by kernel_rfl)
    | 11, _ => exact (show (Tryz.prog.globals[11]?).map (·.type) = some 42 by kernel_rfl)
    | 12, _ => exact (show (Tryz.prog.globals[12]?).map (·.type) = some 42 by kernel_rfl)
    | 13, _ => exact (show (Tryz.prog.globals[13]?).map (·.type) = some 42 by kernel_rfl)
    | 14, _ => exact (show (Tryz.prog.globals[14]?).map (·.type) = some 42 by kernel_rfl)
    | 15, _ => exact (show (Tryz.prog.globals[15]?).map (·.type) = some 42 by kernel_rfl)
    | 16, _ => exact (show (Tryz.prog.globals[16]?).map (·.type) = some 42 by kernel_rfl)
    | 17, _ => exact (show (Tryz.prog.globals[17]?).map (·.type) = some 42 by kernel_rfl)
    | n + 18, h => omega, Tryz.underlying42, fun u h => typeName_ptr_named (nm := "errors.errorString") (by rw [starName]; kernel_rfl) (by kernel_rfl) (by decide) u (by rw [starName]; exact h), Tryz.underlying234, Tryz.underlying248, rfl, rfl, Tryz.underlying9, by kernel_rfl, by kernel_rfl⟩
def tabQ : Q AFn := tabOf tabL
theorem tab_all : ∀ f a, tabAt tabQ f = some a → FnOk Tryz.prog f a := tab_ok tabL_ok
def X1 : Ext := fun f => bsel (Nat.beq f 123) (some idExt) (bsel (Nat.beq f 47) (some readyA) (bsel (Nat.beq f 7) (some numX) none))
def X2 : Ext := fun f => bsel (Nat.beq f 6) (some (closedX 42 234 248 22 18 strOf)) (X1 f)
theorem ready_ok (X : Ext) : OneOk Tryz.prog X 47 readyA := oneOk_calls Tryz.func47 (by kernel_rfl) rfl fun ih _ args h v h' hr => by
  have hr' := hr
  unfold readyA at hr'
  split at hr'
  · rename_i i b1 o1 b2 o2
    clear hr'
    refine ⟨?_, fun ρ w xs m _ hx => ?_⟩
    · rw [readyA_same hr]; exact Nat.le_refl _
    · obtain ⟨rfl, hc⟩ := ready_walk m hx hr
      refine Calls.mono hc fun e w' ⟨hb, r, he, hv⟩ => ?_
      obtain ⟨m', hs⟩ := m.grown hb.os hb.tape hb.output hb.size hb.block
      exact ⟨ρ, .bool r, he, hs, m', by rw [hv]; exact den_bool ρ r⟩
  · cases hr'
theorem ext_of {P : Program} {X : Ext} {f : FuncId} {g g' : CallH → List AV → AH → R (AV × AH)} (h : OneOk P X f g) (e : some g = some g') : OneOk P X f g' := by cases e; exact h
theorem x1_at (X : Ext) (f : FuncId) (g : CallH → List AV → AH → R (AV × AH)) (h : X1 f = some g) : OneOk Tryz.prog X f g := by
  unfold X1 at h
  rw [bsel_eq] at h
  split at h
  · rename_i e
    obtain rfl : f = 123 := by simpa using e
    exact ext_of (fun ih _ args h v h' hr => idExt_ok noEscape_run ih args h v h' hr) h
  · rw [bsel_eq] at h
    split at h
    · rename_i e
      obtain rfl : f = 47 := by simpa using e
      exact ext_of (ready_ok X) h
    · rw [bsel_eq] at h
      split at h
      · rename_i e
        obtain rfl : f = 7 := by simpa using e
        exact ext_of (num_ok Tryz.func7 (by kernel_rfl) rfl k7) h
      · cases h
theorem ext1 : ExtOk Tryz.prog X1 := fun f g ih h => x1_at X1 f g h ih
theorem first_true : isTrueR (callN (tabAt tabQ) X1 60 6 [] H0) = true := by kernel_rfl
theorem ext2 : ExtOk Tryz.prog X2 := fun f g ih h => by
  unfold X2 at h
  rw [bsel_eq] at h
  split at h
  · rename_i e
    obtain rfl : f = 6 := by simpa using e
    refine ext_of ?_ h ih
    have := closed_ok (X := X2) (n := 18) (s := strOf) Tryz.func6 (by kernel_rfl) rfl ext1 tab_all (by kernel_rfl) (ev := 42) (pt := 234) (et := 248) (k := 60) (by rw [globals_size]; exact first_true)
    rw [globals_size] at this
    exact this
  · exact x1_at X2 f g h ih
end
end Go.Proofs.YtlbfndapmlmcfaaGreatDoor
