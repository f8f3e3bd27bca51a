/-
  DERIVED. GIVEN WITH THE SEED: THE CARDS: each row of YthaajlepgblimaaDoorRows.lean that lists a variable, with what it lists TIED to the program's text (the seventh form; the later family's looks); each row that meets fmt, with fmt's text TOLD by the authors' own Lean function (tested against real Go, not proved from fmt's source: count such statements apart). THE CARD IS WHAT COUNTS. Prove the row's statement (the work); the ties are given (YthaajlepgblimaaDoorTie.lean); close each card by the builder's one call (the guide's Derived/Test/ToyasCard.lean, 'card_holds'). Laid BY PROGRAM, IN A SANDBOX (cutbox-door.mjs). By AI agents, Wed Nov 11 2026. No macro, syntax, notation, axiom, sorry.
-/
import Derived.Test.YthaajlepgblimaaDoorRows
import GoSem.ClaimSeven
namespace Go.Proofs.YthaajlepgblimaaDoor
namespace Rows

/-- THE TIED CARD OF 'logtidelaw28.IngestCheck'. -/
def ingestCheckCard : Claim7 := { stood := { row := ingestCheckRow, standIns := [], harness := (true, "1bb97700078234381e2a1e3229c6c11bf5006a28d81a67a31d1e118bed8a144a"), looks := false }, kinds := [], alts := [], laidByText := true, laidKinds := [.called], laidTests := true, laidLooks := .later }
def IngestCheckCardSaid : Prop := Claim7.holds Tryd.pinned (.plain (OpenSpec.ofChange ingestCheckSpec)) ingestCheckCard

/-- THE TIED CARD OF 'logtidelaw28.IngestApply'. -/
def ingestApplyCard : Claim7 := { stood := { row := ingestApplyRow, standIns := [], harness := (true, "1bb97700078234381e2a1e3229c6c11bf5006a28d81a67a31d1e118bed8a144a"), looks := false }, kinds := [], alts := [], laidByText := true, laidKinds := [.called], laidTests := true, laidLooks := .later }
def IngestApplyCardSaid : Prop := Claim7.holds Tryd.pinned (.plain (OpenSpec.ofChange ingestApplySpec)) ingestApplyCard

/-- THE SECOND FORM's CARD OF 'logtidelaw28.IngestCheck'. -/
def ingestCheckUptoCard : Claim7 := { stood := { row := ingestCheckUptoRow, standIns := [], harness := (true, "1bb97700078234381e2a1e3229c6c11bf5006a28d81a67a31d1e118bed8a144a"), looks := false }, kinds := [], alts := [], laidByText := true, laidKinds := [.called], laidTests := true, laidLooks := .later }
def IngestCheckUptoCardSaid : Prop := Claim7.holds Tryd.pinned (.plain (OpenSpec.upto ingestCheckSpec)) ingestCheckUptoCard

/-- THE SECOND FORM's CARD OF 'logtidelaw28.IngestApply'. -/
def ingestApplyUptoCard : Claim7 := { stood := { row := ingestApplyUptoRow, standIns := [], harness := (true, "1bb97700078234381e2a1e3229c6c11bf5006a28d81a67a31d1e118bed8a144a"), looks := false }, kinds := [], alts := [], laidByText := true, laidKinds := [.called], laidTests := true, laidLooks := .later }
def IngestApplyUptoCardSaid : Prop := Claim7.holds Tryd.pinned (.plain (OpenSpec.upto ingestApplySpec)) ingestApplyUptoCard
end Rows
end Go.Proofs.YthaajlepgblimaaDoor
