/-
  DERIVED. GIVEN WITH THE SEED: THE CARDS: each row of YthaajlepgblimaaGreatDoorRows.lean that lists a variable, with what it lists TIED to the program's text (the seventh form; the later family's looks); each row that meets fmt, with fmt's text TOLD by the authors' own Lean function (tested against real Go, not proved from fmt's source: count such statements apart). THE CARD IS WHAT COUNTS. Prove the row's statement (the work); the ties are given (YthaajlepgblimaaGreatDoorTie.lean); close each card by the builder's one call (the guide's Derived/Test/ToyasCard.lean, 'card_holds'). Laid BY PROGRAM, IN A SANDBOX (cutbox-door.mjs). By AI agents, Wed Nov 11 2026. No macro, syntax, notation, axiom, sorry.
-/
import Derived.Test.YthaajlepgblimaaGreatDoorRows
import GoSem.ClaimSeven
namespace Go.Proofs.YthaajlepgblimaaGreatDoor
namespace Rows

/-- THE TIED CARD OF 'logtidelaw29.JournalBatch'. -/
def journalBatchCard : Claim7 := { stood := { row := journalBatchRow, standIns := [], harness := (true, "122c3139be13758cd7ce74019a0e1fc59eac6549f0eeb33526c23e8c89a5fac7"), looks := false }, kinds := [], alts := [], laidByText := true, laidKinds := [.called], laidTests := true, laidLooks := .later }
def JournalBatchCardSaid : Prop := Claim7.holds Tryz.pinned (.plain (OpenSpec.ofChange journalBatchSpec)) journalBatchCard

/-- THE TIED CARD OF 'logtidelaw29.JournalReplay'. -/
def journalReplayCard : Claim7 := { stood := { row := journalReplayRow, standIns := [], harness := (true, "122c3139be13758cd7ce74019a0e1fc59eac6549f0eeb33526c23e8c89a5fac7"), looks := false }, kinds := [], alts := [], laidByText := true, laidKinds := [.called], laidTests := true, laidLooks := .later }
def JournalReplayCardSaid : Prop := Claim7.holds Tryz.pinned (.plain (OpenSpec.ofChange journalReplaySpec)) journalReplayCard

/-- THE TIED CARD OF 'logtidelaw29.JournalReplayIsApply'. -/
def journalReplayIsApplyCard : Claim7 := { stood := { row := journalReplayIsApplyRow, standIns := [], harness := (true, "122c3139be13758cd7ce74019a0e1fc59eac6549f0eeb33526c23e8c89a5fac7"), looks := false }, kinds := [], alts := [], laidByText := true, laidKinds := [.called], laidTests := true, laidLooks := .later }
def JournalReplayIsApplyCardSaid : Prop := Claim7.holds Tryz.pinned (.plain (OpenSpec.ofChange journalReplayIsApplySpec)) journalReplayIsApplyCard

/-- THE SECOND FORM's CARD OF 'logtidelaw29.JournalBatch'. -/
def journalBatchUptoCard : Claim7 := { stood := { row := journalBatchUptoRow, standIns := [], harness := (true, "122c3139be13758cd7ce74019a0e1fc59eac6549f0eeb33526c23e8c89a5fac7"), looks := false }, kinds := [], alts := [], laidByText := true, laidKinds := [.called], laidTests := true, laidLooks := .later }
def JournalBatchUptoCardSaid : Prop := Claim7.holds Tryz.pinned (.plain (OpenSpec.upto journalBatchSpec)) journalBatchUptoCard

/-- THE SECOND FORM's CARD OF 'logtidelaw29.JournalReplay'. -/
def journalReplayUptoCard : Claim7 := { stood := { row := journalReplayUptoRow, standIns := [], harness := (true, "122c3139be13758cd7ce74019a0e1fc59eac6549f0eeb33526c23e8c89a5fac7"), looks := false }, kinds := [], alts := [], laidByText := true, laidKinds := [.called], laidTests := true, laidLooks := .later }
def JournalReplayUptoCardSaid : Prop := Claim7.holds Tryz.pinned (.plain (OpenSpec.upto journalReplaySpec)) journalReplayUptoCard

/-- THE SECOND FORM's CARD OF 'logtidelaw29.JournalReplayIsApply'. -/
def journalReplayIsApplyUptoCard : Claim7 := { stood := { row := journalReplayIsApplyUptoRow, standIns := [], harness := (true, "122c3139be13758cd7ce74019a0e1fc59eac6549f0eeb33526c23e8c89a5fac7"), looks := false }, kinds := [], alts := [], laidByText := true, laidKinds := [.called], laidTests := true, laidLooks := .later }
def JournalReplayIsApplyUptoCardSaid : Prop := Claim7.holds Tryz.pinned (.plain (OpenSpec.upto journalReplayIsApplySpec)) journalReplayIsApplyUptoCard
end Rows
end Go.Proofs.YthaajlepgblimaaGreatDoor
