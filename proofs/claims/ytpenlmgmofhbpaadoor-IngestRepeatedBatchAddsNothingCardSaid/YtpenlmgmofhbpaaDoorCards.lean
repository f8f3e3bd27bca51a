/-
  DERIVED. GIVEN WITH THE SEED: THE CARDS: each row of YtpenlmgmofhbpaaDoorRows.lean that lists a variable, with what it lists TIED to the program's text (the seventh form; the later family's looks); each row that meets fmt, with fmt's text TOLD by the authors' own Lean function (tested against real Go, not proved from fmt's source: count such statements apart). THE CARD IS WHAT COUNTS. Prove the row's statement (the work); the ties are given (YtpenlmgmofhbpaaDoorTie.lean); close each card by the builder's one call (the guide's Derived/Test/ToyasCard.lean, 'card_holds'). Laid BY PROGRAM, IN A SANDBOX (cutbox-door.mjs). By AI agents, Wed Nov 11 2026. No macro, syntax, notation, axiom, sorry.
-/
import Derived.Test.YtpenlmgmofhbpaaDoorRows
import GoSem.ClaimSeven
namespace Go.Proofs.YtpenlmgmofhbpaaDoor
namespace Rows

/-- THE TIED CARD OF 'logtidelaw28.IngestFilesAreIndependent'. -/
def ingestFilesAreIndependentCard : Claim7 := { stood := { row := ingestFilesAreIndependentRow, standIns := [], harness := (true, "8f524aab88612ba4217a43940eeb4e48eac0d647f0d8949342ca32577271c038"), looks := false }, kinds := [], alts := [], laidByText := true, laidKinds := [.called], laidTests := true, laidLooks := .later }
def IngestFilesAreIndependentCardSaid : Prop := Claim7.holds Tryd.pinned (.plain (OpenSpec.ofChange ingestFilesAreIndependentSpec)) ingestFilesAreIndependentCard

/-- THE TIED CARD OF 'logtidelaw28.IngestStoresEachLineOnce'. -/
def ingestStoresEachLineOnceCard : Claim7 := { stood := { row := ingestStoresEachLineOnceRow, standIns := [], harness := (true, "8f524aab88612ba4217a43940eeb4e48eac0d647f0d8949342ca32577271c038"), looks := false }, kinds := [], alts := [], laidByText := true, laidKinds := [.called], laidTests := true, laidLooks := .later }
def IngestStoresEachLineOnceCardSaid : Prop := Claim7.holds Tryd.pinned (.plain (OpenSpec.ofChange ingestStoresEachLineOnceSpec)) ingestStoresEachLineOnceCard

/-- THE TIED CARD OF 'logtidelaw28.IngestRepeatedBatchAddsNothing'. -/
def ingestRepeatedBatchAddsNothingCard : Claim7 := { stood := { row := ingestRepeatedBatchAddsNothingRow, standIns := [], harness := (true, "8f524aab88612ba4217a43940eeb4e48eac0d647f0d8949342ca32577271c038"), looks := false }, kinds := [], alts := [], laidByText := true, laidKinds := [.called], laidTests := true, laidLooks := .later }
def IngestRepeatedBatchAddsNothingCardSaid : Prop := Claim7.holds Tryd.pinned (.plain (OpenSpec.ofChange ingestRepeatedBatchAddsNothingSpec)) ingestRepeatedBatchAddsNothingCard

/-- THE SECOND FORM's CARD OF 'logtidelaw28.IngestFilesAreIndependent'. -/
def ingestFilesAreIndependentUptoCard : Claim7 := { stood := { row := ingestFilesAreIndependentUptoRow, standIns := [], harness := (true, "8f524aab88612ba4217a43940eeb4e48eac0d647f0d8949342ca32577271c038"), looks := false }, kinds := [], alts := [], laidByText := true, laidKinds := [.called], laidTests := true, laidLooks := .later }
def IngestFilesAreIndependentUptoCardSaid : Prop := Claim7.holds Tryd.pinned (.plain (OpenSpec.upto ingestFilesAreIndependentSpec)) ingestFilesAreIndependentUptoCard

/-- THE SECOND FORM's CARD OF 'logtidelaw28.IngestStoresEachLineOnce'. -/
def ingestStoresEachLineOnceUptoCard : Claim7 := { stood := { row := ingestStoresEachLineOnceUptoRow, standIns := [], harness := (true, "8f524aab88612ba4217a43940eeb4e48eac0d647f0d8949342ca32577271c038"), looks := false }, kinds := [], alts := [], laidByText := true, laidKinds := [.called], laidTests := true, laidLooks := .later }
def IngestStoresEachLineOnceUptoCardSaid : Prop := Claim7.holds Tryd.pinned (.plain (OpenSpec.upto ingestStoresEachLineOnceSpec)) ingestStoresEachLineOnceUptoCard

/-- THE SECOND FORM's CARD OF 'logtidelaw28.IngestRepeatedBatchAddsNothing'. -/
def ingestRepeatedBatchAddsNothingUptoCard : Claim7 := { stood := { row := ingestRepeatedBatchAddsNothingUptoRow, standIns := [], harness := (true, "8f524aab88612ba4217a43940eeb4e48eac0d647f0d8949342ca32577271c038"), looks := false }, kinds := [], alts := [], laidByText := true, laidKinds := [.called], laidTests := true, laidLooks := .later }
def IngestRepeatedBatchAddsNothingUptoCardSaid : Prop := Claim7.holds Tryd.pinned (.plain (OpenSpec.upto ingestRepeatedBatchAddsNothingSpec)) ingestRepeatedBatchAddsNothingUptoCard
end Rows
end Go.Proofs.YtpenlmgmofhbpaaDoor
