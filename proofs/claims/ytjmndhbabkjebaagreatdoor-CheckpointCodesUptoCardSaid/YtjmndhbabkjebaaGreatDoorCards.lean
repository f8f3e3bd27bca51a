/-
  DERIVED. GIVEN WITH THE SEED: THE CARDS: each row of YtjmndhbabkjebaaGreatDoorRows.lean that lists a variable, with what it lists TIED to the program's text (the seventh form; the later family's looks); each row that meets fmt, with fmt's text TOLD by the authors' own Lean function (tested against real Go, not proved from fmt's source: count such statements apart). THE CARD IS WHAT COUNTS. Prove the row's statement (the work); the ties are given (YtjmndhbabkjebaaGreatDoorTie.lean); close each card by the builder's one call (the guide's Derived/Test/ToyasCard.lean, 'card_holds'). Laid BY PROGRAM, IN A SANDBOX (cutbox-door.mjs). By AI agents, Wed Nov 11 2026. No macro, syntax, notation, axiom, sorry.
-/
import Derived.Test.YtjmndhbabkjebaaGreatDoorRows
import GoSem.ClaimSeven
namespace Go.Proofs.YtjmndhbabkjebaaGreatDoor
namespace Rows

/-- THE TIED CARD OF 'logtidelaw20.CheckpointCodes'. -/
def checkpointCodesCard : Claim7 := { stood := { row := checkpointCodesRow, standIns := [], harness := (true, "ca74d23106f13e2e17b1299422dc51ea1abc286d6b79271241f2a3188a9eda42"), looks := false }, kinds := [], alts := [], laidByText := true, laidKinds := [.called], laidTests := true, laidLooks := .later }
def CheckpointCodesCardSaid : Prop := Claim7.holds Tryz.pinned (.plain (OpenSpec.ofChange checkpointCodesSpec)) checkpointCodesCard

/-- THE TIED CARD OF 'logtidelaw20.CheckpointDisks'. -/
def checkpointDisksCard : Claim7 := { stood := { row := checkpointDisksRow, standIns := [], harness := (true, "ca74d23106f13e2e17b1299422dc51ea1abc286d6b79271241f2a3188a9eda42"), looks := false }, kinds := [], alts := [], laidByText := true, laidKinds := [.called], laidTests := true, laidLooks := .later }
def CheckpointDisksCardSaid : Prop := Claim7.holds Tryz.pinned (.plain (OpenSpec.ofChange checkpointDisksSpec)) checkpointDisksCard

/-- THE SECOND FORM's CARD OF 'logtidelaw20.CheckpointCodes'. -/
def checkpointCodesUptoCard : Claim7 := { stood := { row := checkpointCodesUptoRow, standIns := [], harness := (true, "ca74d23106f13e2e17b1299422dc51ea1abc286d6b79271241f2a3188a9eda42"), looks := false }, kinds := [], alts := [], laidByText := true, laidKinds := [.called], laidTests := true, laidLooks := .later }
def CheckpointCodesUptoCardSaid : Prop := Claim7.holds Tryz.pinned (.plain (OpenSpec.upto checkpointCodesSpec)) checkpointCodesUptoCard

/-- THE SECOND FORM's CARD OF 'logtidelaw20.CheckpointDisks'. -/
def checkpointDisksUptoCard : Claim7 := { stood := { row := checkpointDisksUptoRow, standIns := [], harness := (true, "ca74d23106f13e2e17b1299422dc51ea1abc286d6b79271241f2a3188a9eda42"), looks := false }, kinds := [], alts := [], laidByText := true, laidKinds := [.called], laidTests := true, laidLooks := .later }
def CheckpointDisksUptoCardSaid : Prop := Claim7.holds Tryz.pinned (.plain (OpenSpec.upto checkpointDisksSpec)) checkpointDisksUptoCard
end Rows
end Go.Proofs.YtjmndhbabkjebaaGreatDoor
