/-
  DERIVED. GIVEN WITH THE SEED: THE CARDS: each row of YtkpnnfhodlanjaaGreatDoorRows.lean that lists a variable, with what it lists TIED to the program's text (the seventh form; the later family's looks); each row that meets fmt, with fmt's text TOLD by the authors' own Lean function (tested against real Go, not proved from fmt's source: count such statements apart). THE CARD IS WHAT COUNTS. Prove the row's statement (the work); the ties are given (YtkpnnfhodlanjaaGreatDoorTie.lean); close each card by the builder's one call (the guide's Derived/Test/ToyasCard.lean, 'card_holds'). Laid BY PROGRAM, IN A SANDBOX (cutbox-door.mjs). By AI agents, Wed Nov 11 2026. No macro, syntax, notation, axiom, sorry.
-/
import Derived.Test.YtkpnnfhodlanjaaGreatDoorRows
import GoSem.ClaimSeven
namespace Go.Proofs.YtkpnnfhodlanjaaGreatDoor
namespace Rows

/-- THE TIED CARD OF 'logtidelaw38.JoinExchange'. -/
def joinExchangeCard : Claim7 := { stood := { row := joinExchangeRow, standIns := [], harness := (true, "a0b821b825c4461c4da0f62b05a208d85aca3164a70aeb21e978782012ff780b"), looks := false }, kinds := [], alts := [], laidByText := true, laidKinds := [.data, .data, .data], laidTests := true, laidLooks := .later }
def JoinExchangeCardSaid : Prop := Claim7.holds Tryz.pinned (.plain (OpenSpec.ofChange joinExchangeSpec)) joinExchangeCard

/-- THE TIED CARD OF 'logtidelaw38.JoinWindow'. -/
def joinWindowCard : Claim7 := { stood := { row := joinWindowRow, standIns := [], harness := (true, "a0b821b825c4461c4da0f62b05a208d85aca3164a70aeb21e978782012ff780b"), looks := false }, kinds := [], alts := [], laidByText := true, laidKinds := [.data, .data, .data], laidTests := true, laidLooks := .later }
def JoinWindowCardSaid : Prop := Claim7.holds Tryz.pinned (.plain (OpenSpec.ofChange joinWindowSpec)) joinWindowCard

/-- THE TIED CARD OF 'logtidelaw38.JoinParts'. -/
def joinPartsCard : Claim7 := { stood := { row := joinPartsRow, standIns := [], harness := (true, "a0b821b825c4461c4da0f62b05a208d85aca3164a70aeb21e978782012ff780b"), looks := false }, kinds := [], alts := [], laidByText := true, laidKinds := [.data, .data, .data], laidTests := true, laidLooks := .later }
def JoinPartsCardSaid : Prop := Claim7.holds Tryz.pinned (.plain (OpenSpec.ofChange joinPartsSpec)) joinPartsCard

/-- THE SECOND FORM's CARD OF 'logtidelaw38.JoinExchange'. -/
def joinExchangeUptoCard : Claim7 := { stood := { row := joinExchangeUptoRow, standIns := [], harness := (true, "a0b821b825c4461c4da0f62b05a208d85aca3164a70aeb21e978782012ff780b"), looks := false }, kinds := [], alts := [], laidByText := true, laidKinds := [.data, .data, .data], laidTests := true, laidLooks := .later }
def JoinExchangeUptoCardSaid : Prop := Claim7.holds Tryz.pinned (.plain (OpenSpec.upto joinExchangeSpec)) joinExchangeUptoCard

/-- THE SECOND FORM's CARD OF 'logtidelaw38.JoinWindow'. -/
def joinWindowUptoCard : Claim7 := { stood := { row := joinWindowUptoRow, standIns := [], harness := (true, "a0b821b825c4461c4da0f62b05a208d85aca3164a70aeb21e978782012ff780b"), looks := false }, kinds := [], alts := [], laidByText := true, laidKinds := [.data, .data, .data], laidTests := true, laidLooks := .later }
def JoinWindowUptoCardSaid : Prop := Claim7.holds Tryz.pinned (.plain (OpenSpec.upto joinWindowSpec)) joinWindowUptoCard

/-- THE SECOND FORM's CARD OF 'logtidelaw38.JoinParts'. -/
def joinPartsUptoCard : Claim7 := { stood := { row := joinPartsUptoRow, standIns := [], harness := (true, "a0b821b825c4461c4da0f62b05a208d85aca3164a70aeb21e978782012ff780b"), looks := false }, kinds := [], alts := [], laidByText := true, laidKinds := [.data, .data, .data], laidTests := true, laidLooks := .later }
def JoinPartsUptoCardSaid : Prop := Claim7.holds Tryz.pinned (.plain (OpenSpec.upto joinPartsSpec)) joinPartsUptoCard
end Rows
end Go.Proofs.YtkpnnfhodlanjaaGreatDoor
