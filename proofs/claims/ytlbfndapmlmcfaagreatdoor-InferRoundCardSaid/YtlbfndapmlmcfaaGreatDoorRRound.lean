/- A statement whose number is only handed about, and written in decimal: the contracts. -/
import Derived.Test.YtlbfndapmlmcfaaGreatDoorRBase
import Derived.Test.YtlbfndapmlmcfaaGreatDoorAxD
import Derived.Test.YtlbfndapmlmcfaaGreatDoorTryzShelf
namespace Go.Proofs.YtlbfndapmlmcfaaGreatDoor
open Go.AX Go.RowKit
set_option maxRecDepth 100000
theorem fmt_walk (n : Int) (w : World) (h0 : -9223372036854775808 ≤ n) (h1 : n ≤ 9223372036854775807) (h : ∃ t z, w.heap[18]? = some (.cells (Lib.pow10Tab.map fun z => Value.int .u64 z).toArray t z)) :
    Calls Tryz.prog 161 #[.int .i64 n, .int .i64 10] w fun e w' => e = .returned (.string ⟨(Lib.itoa n).toArray⟩) ∧ Below w.heap.size w w' := by
  obtain ⟨t, z, h⟩ := h
  have ht : Lib.TabIs Tryz.prog w "internal/strconv.uint64pow10" .u64 Lib.pow10Tab := by
    unfold Lib.TabIs World.var?
    rw [show Tryz.prog.globalNamed "internal/strconv.uint64pow10" = some 18 by kernel_rfl]
    simp only [Option.bind_some, h]
  refine Calls.mono (Tryz.strconv_FormatInt_10 n h0 h1 w ht) fun e w' ⟨he, k, os, hw⟩ => ⟨he, ?_⟩
  subst hw
  refine ⟨rfl, rfl, rfl, ?_, fun j hj => ?_⟩
  · show w.heap.size ≤ (w.heap ++ os).size
    rw [Array.size_append]; omega
  · show (w.heap ++ os)[j]? = w.heap[j]?
    rw [Array.getElem?_append_left hj]
noncomputable section
def X3 : Ext := fun f => bsel (Nat.beq f 161) (some (fmtX 18 196 Lib.pow10Tab c161)) (X2 f)
theorem ext3 : ExtOk Tryz.prog X3 := fun f g ih h => by
  unfold X3 at h
  rw [bsel_eq] at h
  split at h
  · rename_i e
    obtain rfl : f = 161 := by simpa using e
    exact ext_of (fmt_ok (X := X3) (by rw [Lib.pow10Tab_length]; omega) (by rw [globals_size]; omega) Tryz.func161 (by kernel_rfl) rfl k161 fun n w h0 h1 h => fmt_walk n w h0 h1 h) h ih
  · exact fun hc => ext2 f g ih h ⟨hc.now, hc.mono⟩
def call3 : CallH := callN (tabAt tabQ) X3 100
def H2 : AH := h02 42 234 248 22 18 strOf 18 196 Lib.pow10Tab
end
end Go.Proofs.YtlbfndapmlmcfaaGreatDoor
