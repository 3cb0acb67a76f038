/- A part of the statement: reads, lifted. -/
import Derived.Test.YtgmndgnhejdnaaaGreatDoorFin1K
import Derived.Test.YtgmndgnhejdnaaaGreatDoorFin3K
namespace Go.Proofs.YtgmndgnhejdnaaaGreatDoor.deskKeeps
open Go.ChangeShapes Go.WideShapes Go.ChangeAt Go.RowKit Go.AX
set_option maxRecDepth 100000
theorem reads (os : Os) {H : Type} (enc : TypeId × Value → H) : ∃ places, DataW.whole enc Tryz.prog ((laidWorld os).forCall (fun _ _ => 0) ⟨#[], #[.int .i64 0, .int .i64 0], []⟩).memory Tryz.f4.params.toList Rows.deskKeepsSpec.vars false #[Value.int .i64 0, Value.int .i64 0].toList 8 = some ([.lit (.int .i64 0), .lit (.int .i64 0)], [], places) :=
  ⟨[], by kernel_rfl⟩
theorem lifted (os : Os) (started : os.Started) (H : Type) (enc : TypeId × Value → H) (F : Stop.Interp) :
    ReturnsInHanded {} Tryz.checked os 4 .any ((OpenSpec.ofChange Rows.deskKeepsSpec).preRow enc Tryz.prog Tryz.f4 Rows.deskKeepsRow.domain false Rows.deskKeepsRow.laid) (((OpenSpec.ofChange Rows.deskKeepsSpec).at F).post enc Tryz.prog Tryz.f4 false true false false) := by
  obtain ⟨places, hx⟩ := reads os enc
  refine returnsInHanded_of_row (C := Tryz.checked) (s := OpenSpec.ofChange Rows.deskKeepsSpec) own started (by kernel_rfl) Tryz.func4
    (witness_row_atRef (enc := enc) (C := Tryz.checked) false (laidWorld os) #[.int .i64 0, .int .i64 0] (World.layVars_os _ _ _) (by kernel_rfl) (by kernel_rfl) (by kernel_rfl)
      (OpenSpec.preRow_of_cond 8 hx (by kernel_rfl) (fun k hk => by cases hk) (by kernel_rfl) (laid_met os))) ?_
  intro W base args ds gs before hval hW _ _ _ hL hS _
  exact contract H enc W base args ds gs before hval hW hL hS
end Go.Proofs.YtgmndgnhejdnaaaGreatDoor.deskKeeps
