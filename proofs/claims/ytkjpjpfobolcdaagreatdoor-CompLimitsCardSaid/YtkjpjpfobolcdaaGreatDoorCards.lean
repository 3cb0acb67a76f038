/-
  DERIVED. GIVEN WITH THE SEED: THE CARDS: each row of YtkjpjpfobolcdaaGreatDoorRows.lean that lists a variable, with what it lists TIED to the program's text (the seventh form; the later family's looks); each row that meets fmt, with fmt's text TOLD by the authors' own Lean function (tested against real Go, not proved from fmt's source: count such statements apart). THE CARD IS WHAT COUNTS. Prove the row's statement (the work); the ties are given (YtkjpjpfobolcdaaGreatDoorTie.lean); close each card by the builder's one call (the guide's Derived/Test/ToyasCard.lean, 'card_holds'). Laid BY PROGRAM, IN A SANDBOX (cutbox-door.mjs). By AI agents, Wed Nov 11 2026. No macro, syntax, notation, axiom, sorry.
-/
import Derived.Test.YtkjpjpfobolcdaaGreatDoorRows
import GoSem.ClaimSeven
namespace Go.Proofs.YtkjpjpfobolcdaaGreatDoor
namespace Rows

/-- THE TIED CARD OF 'gristmilllaw26.CompErrors'. -/
def compErrorsCard : Claim7 := { stood := { row := compErrorsRow, standIns := [], harness := (true, "640b8a2318570e3f8889910a1303e1a9a135369700fe64f097885ca8d7b4b17e"), looks := true }, kinds := [], alts := [], laidByText := true, laidKinds := [.sentinel, .sentinel, .sentinel, .sentinel, .sentinel, .sentinel, .sentinel, .sentinel, .sentinel, .data, .data, .data, .handle, .sentinel, .sentinel, .sentinel, .sentinel, .sentinel, .sentinel, .sentinel, .sentinel, .sentinel, .sentinel, .sentinel], laidTests := true, laidLooks := .later }
def CompErrorsCardSaid : Prop := Claim7.holds Tryz.pinned (.plain (OpenSpec.ofChange compErrorsSpec)) compErrorsCard

/-- THE TIED CARD OF 'gristmilllaw26.CompLimits'. -/
def compLimitsCard : Claim7 := { stood := { row := compLimitsRow, standIns := [], harness := (true, "640b8a2318570e3f8889910a1303e1a9a135369700fe64f097885ca8d7b4b17e"), looks := true }, kinds := [], alts := [], laidByText := true, laidKinds := [.sentinel, .sentinel, .sentinel, .sentinel, .sentinel, .sentinel, .sentinel, .sentinel, .sentinel, .data, .data, .data, .handle, .sentinel, .sentinel, .sentinel, .sentinel, .sentinel, .sentinel, .sentinel, .sentinel, .sentinel, .sentinel], laidTests := true, laidLooks := .later }
def CompLimitsCardSaid : Prop := Claim7.holds Tryz.pinned (.plain (OpenSpec.ofChange compLimitsSpec)) compLimitsCard

/-- THE SECOND FORM's CARD OF 'gristmilllaw26.CompErrors'. -/
def compErrorsUptoCard : Claim7 := { stood := { row := compErrorsUptoRow, standIns := [], harness := (true, "640b8a2318570e3f8889910a1303e1a9a135369700fe64f097885ca8d7b4b17e"), looks := true }, kinds := [], alts := [], laidByText := true, laidKinds := [.sentinel, .sentinel, .sentinel, .sentinel, .sentinel, .sentinel, .sentinel, .sentinel, .sentinel, .data, .data, .data, .handle, .sentinel, .sentinel, .sentinel, .sentinel, .sentinel, .sentinel, .sentinel, .sentinel, .sentinel, .sentinel, .sentinel], laidTests := true, laidLooks := .later }
def CompErrorsUptoCardSaid : Prop := Claim7.holds Tryz.pinned (.plain (OpenSpec.upto compErrorsSpec)) compErrorsUptoCard

/-- THE SECOND FORM's CARD OF 'gristmilllaw26.CompLimits'. -/
def compLimitsUptoCard : Claim7 := { stood := { row := compLimitsUptoRow, standIns := [], harness := (true, "640b8a2318570e3f8889910a1303e1a9a135369700fe64f097885ca8d7b4b17e"), looks := true }, kinds := [], alts := [], laidByText := true, laidKinds := [.sentinel, .sentinel, .sentinel, .sentinel, .sentinel, .sentinel, .sentinel, .sentinel, .sentinel, .data, .data, .data, .handle, .sentinel, .sentinel, .sentinel, .sentinel, .sentinel, .sentinel, .sentinel, .sentinel, .sentinel, .sentinel], laidTests := true, laidLooks := .later }
def CompLimitsUptoCardSaid : Prop := Claim7.holds Tryz.pinned (.plain (OpenSpec.upto compLimitsSpec)) compLimitsUptoCard
end Rows
end Go.Proofs.YtkjpjpfobolcdaaGreatDoor
