/-
  DERIVED. GIVEN WITH THE SEED: THE CARDS: each row of YtlbfndapmlmcfaaGreatDoorRows.lean that lists a variable, with what it lists TIED to the program's text (the seventh form; the later family's looks); each row that meets fmt, with fmt's text TOLD by the authors' own Lean function (tested against real Go, not proved from fmt's source: count such statements apart). THE CARD IS WHAT COUNTS. Prove the row's statement (the work); the ties are given (YtlbfndapmlmcfaaGreatDoorTie.lean); close each card by the builder's one call (the guide's Derived/Test/ToyasCard.lean, 'card_holds'). Laid BY PROGRAM, IN A SANDBOX (cutbox-door.mjs). By AI agents, Wed Nov 11 2026. No macro, syntax, notation, axiom, sorry.
-/
import Derived.Test.YtlbfndapmlmcfaaGreatDoorRows
import GoSem.ClaimSeven
namespace Go.Proofs.YtlbfndapmlmcfaaGreatDoor
namespace Rows

/-- THE TIED CARD OF 'gristmilllaw9.InferWrong'. -/
def inferWrongCard : Claim7 := { stood := { row := inferWrongRow, standIns := [], harness := (true, "2da7bda862f89cdb5feb2fe295b08a7900164d9b924956dc2ecbba2f3f6aa396"), looks := true }, kinds := [], alts := [], laidByText := true, laidKinds := [.data, .data, .data, .sentinel, .sentinel, .sentinel, .sentinel, .sentinel, .sentinel, .sentinel, .sentinel, .sentinel, .sentinel, .sentinel, .sentinel, .sentinel, .sentinel, .sentinel, .sentinel, .sentinel, .sentinel], laidTests := true, laidLooks := .later }
def InferWrongCardSaid : Prop := Claim7.holds Tryz.pinned (.plain (OpenSpec.ofChange inferWrongSpec)) inferWrongCard

/-- THE TIED CARD OF 'gristmilllaw9.InferGeneral'. -/
def inferGeneralCard : Claim7 := { stood := { row := inferGeneralRow, standIns := [], harness := (true, "2da7bda862f89cdb5feb2fe295b08a7900164d9b924956dc2ecbba2f3f6aa396"), looks := true }, kinds := [], alts := [], laidByText := true, laidKinds := [.data, .data, .data, .sentinel, .sentinel, .sentinel, .sentinel, .sentinel, .sentinel, .sentinel, .sentinel, .sentinel, .sentinel, .sentinel, .sentinel, .sentinel, .sentinel, .sentinel, .sentinel, .sentinel, .sentinel], laidTests := true, laidLooks := .later }
def InferGeneralCardSaid : Prop := Claim7.holds Tryz.pinned (.plain (OpenSpec.ofChange inferGeneralSpec)) inferGeneralCard

/-- THE TIED CARD OF 'gristmilllaw9.InferRound'. -/
def inferRoundCard : Claim7 := { stood := { row := inferRoundRow, standIns := [], harness := (true, "2da7bda862f89cdb5feb2fe295b08a7900164d9b924956dc2ecbba2f3f6aa396"), looks := true }, kinds := [], alts := [], laidByText := true, laidKinds := [.data, .data, .data, .sentinel, .sentinel, .sentinel, .sentinel, .sentinel, .sentinel, .sentinel, .sentinel, .sentinel, .sentinel, .sentinel, .sentinel, .sentinel, .sentinel, .sentinel, .sentinel, .sentinel, .sentinel], laidTests := true, laidLooks := .later }
def InferRoundCardSaid : Prop := Claim7.holds Tryz.pinned (.plain (OpenSpec.ofChange inferRoundSpec)) inferRoundCard

/-- THE SECOND FORM's CARD OF 'gristmilllaw9.InferWrong'. -/
def inferWrongUptoCard : Claim7 := { stood := { row := inferWrongUptoRow, standIns := [], harness := (true, "2da7bda862f89cdb5feb2fe295b08a7900164d9b924956dc2ecbba2f3f6aa396"), looks := true }, kinds := [], alts := [], laidByText := true, laidKinds := [.data, .data, .data, .sentinel, .sentinel, .sentinel, .sentinel, .sentinel, .sentinel, .sentinel, .sentinel, .sentinel, .sentinel, .sentinel, .sentinel, .sentinel, .sentinel, .sentinel, .sentinel, .sentinel, .sentinel], laidTests := true, laidLooks := .later }
def InferWrongUptoCardSaid : Prop := Claim7.holds Tryz.pinned (.plain (OpenSpec.upto inferWrongSpec)) inferWrongUptoCard

/-- THE SECOND FORM's CARD OF 'gristmilllaw9.InferGeneral'. -/
def inferGeneralUptoCard : Claim7 := { stood := { row := inferGeneralUptoRow, standIns := [], harness := (true, "2da7bda862f89cdb5feb2fe295b08a7900164d9b924956dc2ecbba2f3f6aa396"), looks := true }, kinds := [], alts := [], laidByText := true, laidKinds := [.data, .data, .data, .sentinel, .sentinel, .sentinel, .sentinel, .sentinel, .sentinel, .sentinel, .sentinel, .sentinel, .sentinel, .sentinel, .sentinel, .sentinel, .sentinel, .sentinel, .sentinel, .sentinel, .sentinel], laidTests := true, laidLooks := .later }
def InferGeneralUptoCardSaid : Prop := Claim7.holds Tryz.pinned (.plain (OpenSpec.upto inferGeneralSpec)) inferGeneralUptoCard

/-- THE SECOND FORM's CARD OF 'gristmilllaw9.InferRound'. -/
def inferRoundUptoCard : Claim7 := { stood := { row := inferRoundUptoRow, standIns := [], harness := (true, "2da7bda862f89cdb5feb2fe295b08a7900164d9b924956dc2ecbba2f3f6aa396"), looks := true }, kinds := [], alts := [], laidByText := true, laidKinds := [.data, .data, .data, .sentinel, .sentinel, .sentinel, .sentinel, .sentinel, .sentinel, .sentinel, .sentinel, .sentinel, .sentinel, .sentinel, .sentinel, .sentinel, .sentinel, .sentinel, .sentinel, .sentinel, .sentinel], laidTests := true, laidLooks := .later }
def InferRoundUptoCardSaid : Prop := Claim7.holds Tryz.pinned (.plain (OpenSpec.upto inferRoundSpec)) inferRoundUptoCard
end Rows
end Go.Proofs.YtlbfndapmlmcfaaGreatDoor
