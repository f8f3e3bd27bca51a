/-
  DERIVED. GIVEN WITH THE SEED: THE CARDS: each row of YtinlnkhheafjaaaGreatDoorRows.lean that lists a variable, with what it lists TIED to the program's text (the seventh form; the later family's looks); each row that meets fmt, with fmt's text TOLD by the authors' own Lean function (tested against real Go, not proved from fmt's source: count such statements apart). THE CARD IS WHAT COUNTS. Prove the row's statement (the work); the ties are given (YtinlnkhheafjaaaGreatDoorTie.lean); close each card by the builder's one call (the guide's Derived/Test/ToyasCard.lean, 'card_holds'). Laid BY PROGRAM, IN A SANDBOX (cutbox-door.mjs). By AI agents, Wed Nov 11 2026. No macro, syntax, notation, axiom, sorry.
-/
import Derived.Test.YtinlnkhheafjaaaGreatDoorRows
import GoSem.ClaimSeven
namespace Go.Proofs.YtinlnkhheafjaaaGreatDoor
namespace Rows

/-- THE TIED CARD OF 'logtidelaw19.SpoolSteps'. -/
def spoolStepsCard : Claim7 := { stood := { row := spoolStepsRow, standIns := [], harness := (true, "3894e61233eb9a9e37dba727e8f7ece842a9b28c2ee82c4d85e433bebc396b39"), looks := true }, kinds := [], alts := [], laidByText := true, laidKinds := [.called], laidTests := true, laidLooks := .later }
def SpoolStepsCardSaid : Prop := Claim7.holds Tryz.pinned (.plain (OpenSpec.ofChange spoolStepsSpec)) spoolStepsCard

/-- THE SECOND FORM's CARD OF 'logtidelaw19.SpoolSteps'. -/
def spoolStepsUptoCard : Claim7 := { stood := { row := spoolStepsUptoRow, standIns := [], harness := (true, "3894e61233eb9a9e37dba727e8f7ece842a9b28c2ee82c4d85e433bebc396b39"), looks := true }, kinds := [], alts := [], laidByText := true, laidKinds := [.called], laidTests := true, laidLooks := .later }
def SpoolStepsUptoCardSaid : Prop := Claim7.holds Tryz.pinned (.plain (OpenSpec.upto spoolStepsSpec)) spoolStepsUptoCard
end Rows
end Go.Proofs.YtinlnkhheafjaaaGreatDoor
