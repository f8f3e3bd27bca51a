/-
  DERIVED. GIVEN WITH THE SEED: THE CARDS: each row of YtkcdpfogoepamaaGreatDoorRows.lean that lists a variable, with what it lists TIED to the program's text (the seventh form; the later family's looks); each row that meets fmt, with fmt's text TOLD by the authors' own Lean function (tested against real Go, not proved from fmt's source: count such statements apart). THE CARD IS WHAT COUNTS. Prove the row's statement (the work); the ties are given (YtkcdpfogoepamaaGreatDoorTie.lean); close each card by the builder's one call (the guide's Derived/Test/ToyasCard.lean, 'card_holds'). Laid BY PROGRAM, IN A SANDBOX (cutbox-door.mjs). By AI agents, Wed Nov 11 2026. No macro, syntax, notation, axiom, sorry.
-/
import Derived.Test.YtkcdpfogoepamaaGreatDoorRows
import GoSem.ClaimSeven
namespace Go.Proofs.YtkcdpfogoepamaaGreatDoor
namespace Rows

/-- THE TIED CARD OF 'logtidelaw29.JournalReplay'. -/
def journalReplayCard : Claim7 := { stood := { row := journalReplayRow, standIns := [], harness := (true, "9bb794336ae335d216784f53727e4513e786be184fc215a2afd7c0d289dd8a6e"), looks := false }, kinds := [], alts := [], laidByText := true, laidKinds := [.called], laidTests := true, laidLooks := .later }
def JournalReplayCardSaid : Prop := Claim7.holds Tryz.pinned (.plain (OpenSpec.ofChange journalReplaySpec)) journalReplayCard

/-- THE SECOND FORM's CARD OF 'logtidelaw29.JournalReplay'. -/
def journalReplayUptoCard : Claim7 := { stood := { row := journalReplayUptoRow, standIns := [], harness := (true, "9bb794336ae335d216784f53727e4513e786be184fc215a2afd7c0d289dd8a6e"), looks := false }, kinds := [], alts := [], laidByText := true, laidKinds := [.called], laidTests := true, laidLooks := .later }
def JournalReplayUptoCardSaid : Prop := Claim7.holds Tryz.pinned (.plain (OpenSpec.upto journalReplaySpec)) journalReplayUptoCard
end Rows
end Go.Proofs.YtkcdpfogoepamaaGreatDoor
