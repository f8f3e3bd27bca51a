/-
  DERIVED. GIVEN WITH THE SEED: THE CARDS: each row of YtjmndhbabkjebaaDoorRows.lean that lists a variable, with what it lists TIED to the program's text (the seventh form; the later family's looks); each row that meets fmt, with fmt's text TOLD by the authors' own Lean function (tested against real Go, not proved from fmt's source: count such statements apart). THE CARD IS WHAT COUNTS. Prove the row's statement (the work); the ties are given (YtjmndhbabkjebaaDoorTie.lean); close each card by the builder's one call (the guide's Derived/Test/ToyasCard.lean, 'card_holds'). Laid BY PROGRAM, IN A SANDBOX (cutbox-door.mjs). By AI agents, Wed Nov 11 2026. No macro, syntax, notation, axiom, sorry.
-/
import Derived.Test.YtjmndhbabkjebaaDoorRows
import GoSem.ClaimSeven
namespace Go.Proofs.YtjmndhbabkjebaaDoor
namespace Rows

/-- THE TIED CARD OF 'logtidelaw20.CheckpointCrashes'. -/
def checkpointCrashesCard : Claim7 := { stood := { row := checkpointCrashesRow, standIns := [], harness := (true, "146a3e89b935fbf8cb832d956692107a08c5255d34d31058c7d6b8de61e71059"), looks := false }, kinds := [], alts := [], laidByText := true, laidKinds := [.called], laidTests := true, laidLooks := .later }
def CheckpointCrashesCardSaid : Prop := Claim7.holds Tryd.pinned (.plain (OpenSpec.ofChange checkpointCrashesSpec)) checkpointCrashesCard

/-- THE SECOND FORM's CARD OF 'logtidelaw20.CheckpointCrashes'. -/
def checkpointCrashesUptoCard : Claim7 := { stood := { row := checkpointCrashesUptoRow, standIns := [], harness := (true, "146a3e89b935fbf8cb832d956692107a08c5255d34d31058c7d6b8de61e71059"), looks := false }, kinds := [], alts := [], laidByText := true, laidKinds := [.called], laidTests := true, laidLooks := .later }
def CheckpointCrashesUptoCardSaid : Prop := Claim7.holds Tryd.pinned (.plain (OpenSpec.upto checkpointCrashesSpec)) checkpointCrashesUptoCard
end Rows
end Go.Proofs.YtjmndhbabkjebaaDoor
