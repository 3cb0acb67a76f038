/-
  DERIVED. GIVEN WITH THE SEED: THE CARDS: each row of YtgmndgnhejdnaaaGreatDoorRows.lean that lists a variable, with what it lists TIED to the program's text (the seventh form; the later family's looks); each row that meets fmt, with fmt's text TOLD by the authors' own Lean function (tested against real Go, not proved from fmt's source: count such statements apart). THE CARD IS WHAT COUNTS. Prove the row's statement (the work); the ties are given (YtgmndgnhejdnaaaGreatDoorTie.lean); close each card by the builder's one call (the guide's Derived/Test/ToyasCard.lean, 'card_holds'). Laid BY PROGRAM, IN A SANDBOX (cutbox-door.mjs). By AI agents, Wed Nov 11 2026. No macro, syntax, notation, axiom, sorry.
-/
import Derived.Test.YtgmndgnhejdnaaaGreatDoorRows
import GoSem.ClaimSeven
namespace Go.Proofs.YtgmndgnhejdnaaaGreatDoor
namespace Rows

/-- THE TIED CARD OF 'gristmilllaw27.DeskErrors'. -/
def deskErrorsCard : Claim7 := { stood := { row := deskErrorsRow, standIns := [], harness := (true, "d0e07ac42d3c71a344d57440e5697c6c0fbf6fdaa142c2577476abd459079e21"), looks := true }, kinds := [], alts := [], laidByText := true, laidKinds := [.sentinel, .pinned, .data, .sentinel, .sentinel, .sentinel, .sentinel, .sentinel, .sentinel, .sentinel, .sentinel, .sentinel, .data, .data, .data, .handle, .sentinel, .sentinel, .sentinel, .sentinel, .sentinel, .sentinel, .sentinel, .sentinel, .sentinel, .sentinel], laidTests := true, laidLooks := .later }
def DeskErrorsCardSaid : Prop := Claim7.holds Tryz.pinned (.plain (OpenSpec.ofChange deskErrorsSpec)) deskErrorsCard

/-- THE TIED CARD OF 'gristmilllaw27.DeskKeeps'. -/
def deskKeepsCard : Claim7 := { stood := { row := deskKeepsRow, standIns := [], harness := (true, "d0e07ac42d3c71a344d57440e5697c6c0fbf6fdaa142c2577476abd459079e21"), looks := true }, kinds := [], alts := [], laidByText := true, laidKinds := [.sentinel, .pinned, .data, .sentinel, .sentinel, .sentinel, .sentinel, .sentinel, .sentinel, .sentinel, .sentinel, .sentinel, .data, .data, .data, .handle, .sentinel, .sentinel, .sentinel, .sentinel, .sentinel, .sentinel, .sentinel, .sentinel, .sentinel], laidTests := true, laidLooks := .later }
def DeskKeepsCardSaid : Prop := Claim7.holds Tryz.pinned (.plain (OpenSpec.ofChange deskKeepsSpec)) deskKeepsCard

/-- THE SECOND FORM's CARD OF 'gristmilllaw27.DeskErrors'. -/
def deskErrorsUptoCard : Claim7 := { stood := { row := deskErrorsUptoRow, standIns := [], harness := (true, "d0e07ac42d3c71a344d57440e5697c6c0fbf6fdaa142c2577476abd459079e21"), looks := true }, kinds := [], alts := [], laidByText := true, laidKinds := [.sentinel, .pinned, .data, .sentinel, .sentinel, .sentinel, .sentinel, .sentinel, .sentinel, .sentinel, .sentinel, .sentinel, .data, .data, .data, .handle, .sentinel, .sentinel, .sentinel, .sentinel, .sentinel, .sentinel, .sentinel, .sentinel, .sentinel, .sentinel], laidTests := true, laidLooks := .later }
def DeskErrorsUptoCardSaid : Prop := Claim7.holds Tryz.pinned (.plain (OpenSpec.upto deskErrorsSpec)) deskErrorsUptoCard

/-- THE SECOND FORM's CARD OF 'gristmilllaw27.DeskKeeps'. -/
def deskKeepsUptoCard : Claim7 := { stood := { row := deskKeepsUptoRow, standIns := [], harness := (true, "d0e07ac42d3c71a344d57440e5697c6c0fbf6fdaa142c2577476abd459079e21"), looks := true }, kinds := [], alts := [], laidByText := true, laidKinds := [.sentinel, .pinned, .data, .sentinel, .sentinel, .sentinel, .sentinel, .sentinel, .sentinel, .sentinel, .sentinel, .sentinel, .data, .data, .data, .handle, .sentinel, .sentinel, .sentinel, .sentinel, .sentinel, .sentinel, .sentinel, .sentinel, .sentinel], laidTests := true, laidLooks := .later }
def DeskKeepsUptoCardSaid : Prop := Claim7.holds Tryz.pinned (.plain (OpenSpec.upto deskKeepsSpec)) deskKeepsUptoCard
end Rows
end Go.Proofs.YtgmndgnhejdnaaaGreatDoor
