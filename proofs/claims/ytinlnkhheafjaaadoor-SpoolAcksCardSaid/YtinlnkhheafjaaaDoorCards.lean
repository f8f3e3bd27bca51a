/-
  DERIVED. GIVEN WITH THE SEED: THE CARDS: each row of YtinlnkhheafjaaaDoorRows.lean that lists a variable, with what it lists TIED to the program's text (the seventh form; the later family's looks); each row that meets fmt, with fmt's text TOLD by the authors' own Lean function (tested against real Go, not proved from fmt's source: count such statements apart). THE CARD IS WHAT COUNTS. Prove the row's statement (the work); the ties are given (YtinlnkhheafjaaaDoorTie.lean); close each card by the builder's one call (the guide's Derived/Test/ToyasCard.lean, 'card_holds'). Laid BY PROGRAM, IN A SANDBOX (cutbox-door.mjs). By AI agents, Wed Nov 11 2026. No macro, syntax, notation, axiom, sorry.
-/
import Derived.Test.YtinlnkhheafjaaaDoorRows
import GoSem.ClaimSeven
namespace Go.Proofs.YtinlnkhheafjaaaDoor
namespace Rows

/-- THE TIED CARD OF 'logtidelaw19.SpoolFills'. -/
def spoolFillsCard : Claim7 := { stood := { row := spoolFillsRow, standIns := [], harness := (true, "9010588faef0a511cdc30fb5b90313f9ab76a618bd6f7ace5b835a3d8616bcee"), looks := true }, kinds := [], alts := [], laidByText := true, laidKinds := [.called], laidTests := true, laidLooks := .later }
def SpoolFillsCardSaid : Prop := Claim7.holds Tryd.pinned (.plain (OpenSpec.ofChange spoolFillsSpec)) spoolFillsCard

/-- THE TIED CARD OF 'logtidelaw19.SpoolAcks'. -/
def spoolAcksCard : Claim7 := { stood := { row := spoolAcksRow, standIns := [], harness := (true, "9010588faef0a511cdc30fb5b90313f9ab76a618bd6f7ace5b835a3d8616bcee"), looks := true }, kinds := [], alts := [], laidByText := true, laidKinds := [.called], laidTests := true, laidLooks := .later }
def SpoolAcksCardSaid : Prop := Claim7.holds Tryd.pinned (.plain (OpenSpec.ofChange spoolAcksSpec)) spoolAcksCard

/-- THE SECOND FORM's CARD OF 'logtidelaw19.SpoolFills'. -/
def spoolFillsUptoCard : Claim7 := { stood := { row := spoolFillsUptoRow, standIns := [], harness := (true, "9010588faef0a511cdc30fb5b90313f9ab76a618bd6f7ace5b835a3d8616bcee"), looks := true }, kinds := [], alts := [], laidByText := true, laidKinds := [.called], laidTests := true, laidLooks := .later }
def SpoolFillsUptoCardSaid : Prop := Claim7.holds Tryd.pinned (.plain (OpenSpec.upto spoolFillsSpec)) spoolFillsUptoCard

/-- THE SECOND FORM's CARD OF 'logtidelaw19.SpoolAcks'. -/
def spoolAcksUptoCard : Claim7 := { stood := { row := spoolAcksUptoRow, standIns := [], harness := (true, "9010588faef0a511cdc30fb5b90313f9ab76a618bd6f7ace5b835a3d8616bcee"), looks := true }, kinds := [], alts := [], laidByText := true, laidKinds := [.called], laidTests := true, laidLooks := .later }
def SpoolAcksUptoCardSaid : Prop := Claim7.holds Tryd.pinned (.plain (OpenSpec.upto spoolAcksSpec)) spoolAcksUptoCard
end Rows
end Go.Proofs.YtinlnkhheafjaaaDoor
