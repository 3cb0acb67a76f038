/- Check as a contract. -/
import Derived.Test.YtkjpjpfobolcdaaGreatDoorXFirst
import Derived.Test.YtkjpjpfobolcdaaGreatDoorRC0
import Derived.Test.YtkjpjpfobolcdaaGreatDoorRC1
import Derived.Test.YtkjpjpfobolcdaaGreatDoorRC2
import Derived.Test.YtkjpjpfobolcdaaGreatDoorRC3
import Derived.Test.YtkjpjpfobolcdaaGreatDoorRC4
import Derived.Test.YtkjpjpfobolcdaaGreatDoorRC5
import Derived.Test.YtkjpjpfobolcdaaGreatDoorRC6
import Derived.Test.YtkjpjpfobolcdaaGreatDoorRC7
import Derived.Test.YtkjpjpfobolcdaaGreatDoorRC8
import Derived.Test.YtkjpjpfobolcdaaGreatDoorRC9
namespace Go.Proofs.YtkjpjpfobolcdaaGreatDoor
open Go.AX Go.RowKit
set_option maxRecDepth 100000
theorem mem_split {α : Type} {e : α} {l m : List α} {Q : α → Prop} (h1 : ∀ e, e ∈ l → Q e) (h2 : ∀ e, e ∈ m → Q e) : e ∈ l ++ m → Q e := fun h => (List.mem_append.1 h).elim (h1 e) (h2 e)
theorem all_nil {α : Type} {Q : α → Prop} : ∀ e, e ∈ ([] : List α) → Q e := fun e h => by cases h
theorem all_cons {α : Type} {a : α} {l : List α} {Q : α → Prop} (h : Q a) (h2 : ∀ e, e ∈ l → Q e) : ∀ e, e ∈ a :: l → Q e := fun e he => by
  rcases List.mem_cons.1 he with rfl | he
  · exact h
  · exact h2 e he
theorem tabC_run : ∀ e, e ∈ tabC → memoRun (callN (tabAt tabQ) X2 200 10) HE e = true :=
  all_cons tc0_0 (all_cons tc0_1 (all_cons tc0_2 (all_cons tc0_3 (all_cons tc0_4 (all_cons tc0_5 (all_cons tc0_6 (all_cons tc0_7 (all_cons tc1_0 (all_cons tc1_1 (all_cons tc1_2 (all_cons tc1_3 (all_cons tc1_4 (all_cons tc1_5 (all_cons tc1_6 (all_cons tc1_7 (all_cons tc2_0 (all_cons tc2_1 (all_cons tc2_2 (all_cons tc2_3 (all_cons tc2_4 (all_cons tc2_5 (all_cons tc2_6 (all_cons tc2_7 (all_cons tc3_0 (all_cons tc3_1 (all_cons tc3_2 (all_cons tc3_3 (all_cons tc3_4 (all_cons tc3_5 (all_cons tc3_6 (all_cons tc3_7 (all_cons tc4_0 (all_cons tc4_1 (all_cons tc4_2 (all_cons tc4_3 (all_cons tc4_4 (all_cons tc4_5 (all_cons tc4_6 (all_cons tc4_7 (all_cons tc5_0 (all_cons tc5_1 (all_cons tc5_2 (all_cons tc5_3 (all_cons tc5_4 (all_cons tc5_5 (all_cons tc5_6 (all_cons tc5_7 (all_cons tc6_0 (all_cons tc6_1 (all_cons tc6_2 (all_cons tc6_3 (all_cons tc6_4 (all_cons tc6_5 (all_cons tc6_6 (all_cons tc6_7 (all_cons tc7_0 (all_cons tc7_1 (all_cons tc7_2 (all_cons tc7_3 (all_cons tc7_4 (all_cons tc7_5 (all_cons tc7_6 (all_cons tc7_7 (all_cons tc8_0 (all_cons tc8_1 (all_cons tc8_2 (all_cons tc8_3 (all_cons tc8_4 (all_cons tc8_5 (all_cons tc8_6 (all_cons tc8_7 (all_cons tc9_0 (all_cons tc9_1 (all_cons tc9_2 (all_cons tc9_3 (all_cons tc9_4 (all_cons tc9_5 (all_cons tc9_6 (all_cons tc9_7 (all_cons tg0 (all_cons tg1 (all_cons tg2 (all_cons tg3 (all_cons tg4 (all_cons tg5 (all_cons tg6 (all_cons tg7 (all_cons tg8 (all_cons tg9 (all_nil))))))))))))))))))))))))))))))))))))))))))))))))))))))))))))))))))))))))))))))))))))))))))
theorem hand_lt : 9 < Tryz.prog.globals.size := by rw [globals_size]; omega
theorem tabs_ne : ∀ e ∈ tabs, e.g ≠ 9 := by
  intro e he
  unfold tabs at he
  simp only [List.mem_cons, List.not_mem_nil, or_false] at he
  rcases he with rfl | rfl | rfl <;> exact Nat.ne_of_beq_eq_false (by kernel_rfl)
theorem x3_at (X : Ext) (f : FuncId) (g : CallH → List AV → AH → R (AV × AH)) (h : X3 f = some g) : OneOk Tryz.prog X f g := by
  unfold X3 at h
  rw [bsel_eq] at h
  split at h
  · rename_i e
    obtain rfl : f = 10 := by simpa using e
    refine ext_of ?_ h
    have := memo_ok (X := X) (n := 26) (sg := sgOf) (s := strOf) (l := tabs) (gh := 9) (ev := 37) (pt := 647) (et := 649) (ev' := 252) (rt := 364) (tid := 37) (k := 200) (es := tabC) Tryz.func10 (by kernel_rfl) rfl k10 ext2 tab_all (by kernel_rfl) tabs_lt hand_lt tabs_ne (by rw [globals_size]; exact tabC_run)
    rw [globals_size] at this
    exact this
  · exact x2_at X f g h
theorem ext3 : ExtOk Tryz.prog X3 := fun f g ih h => x3_at X3 f g h ih
end Go.Proofs.YtkjpjpfobolcdaaGreatDoor
