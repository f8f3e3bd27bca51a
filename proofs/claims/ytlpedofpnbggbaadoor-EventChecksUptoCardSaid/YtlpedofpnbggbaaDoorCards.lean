/-
  DERIVED. GIVEN WITH THE SEED: THE CARDS: each row of YtlpedofpnbggbaaDoorRows.lean that lists a variable, with what it lists TIED to the program's text (the seventh form; the later family's looks); each row that meets fmt, with fmt's text TOLD by the authors' own Lean function (tested against real Go, not proved from fmt's source: count such statements apart). THE CARD IS WHAT COUNTS. Prove the row's statement (the work); the ties are given (YtlpedofpnbggbaaDoorTie.lean); close each card by the builder's one call (the guide's Derived/Test/ToyasCard.lean, 'card_holds'). Laid BY PROGRAM, IN A SANDBOX (cutbox-door.mjs). By AI agents, Wed Nov 11 2026. No macro, syntax, notation, axiom, sorry.
-/
import Derived.Test.YtlpedofpnbggbaaDoorRows
import GoSem.ClaimSeven
namespace Go.Proofs.YtlpedofpnbggbaaDoor
namespace Rows

/-- THE TIED CARD OF 'logtidelaw12.EventChecks'. -/
def eventChecksCard : Claim7 := { stood := { row := eventChecksRow, standIns := [], harness := (true, "4a11329c0252baad4e5255a07df7abb4e749b6f46593086b0067420dff1f9643"), looks := false }, kinds := [], alts := [], laidByText := true, laidKinds := [.called], laidTests := true, laidLooks := .later }
def EventChecksCardSaid : Prop := Claim7.holds Tryd.pinned (.plain (OpenSpec.ofChange eventChecksSpec)) eventChecksCard

/-- THE TIED CARD OF 'logtidelaw12.EventCodes'. -/
def eventCodesCard : Claim7 := { stood := { row := eventCodesRow, standIns := [], harness := (true, "4a11329c0252baad4e5255a07df7abb4e749b6f46593086b0067420dff1f9643"), looks := false }, kinds := [], alts := [], laidByText := true, laidKinds := [.called], laidTests := true, laidLooks := .later }
def EventCodesCardSaid : Prop := Claim7.holds Tryd.pinned (.plain (OpenSpec.ofChange eventCodesSpec)) eventCodesCard

/-- THE TIED CARD OF 'logtidelaw12.EventReturns'. -/
def eventReturnsCard : Claim7 := { stood := { row := eventReturnsRow, standIns := [], harness := (true, "4a11329c0252baad4e5255a07df7abb4e749b6f46593086b0067420dff1f9643"), looks := false }, kinds := [], alts := [], laidByText := true, laidKinds := [.called], laidTests := true, laidLooks := .later }
def EventReturnsCardSaid : Prop := Claim7.holds Tryd.pinned (.plain (OpenSpec.ofChange eventReturnsSpec)) eventReturnsCard

/-- THE SECOND FORM's CARD OF 'logtidelaw12.EventChecks'. -/
def eventChecksUptoCard : Claim7 := { stood := { row := eventChecksUptoRow, standIns := [], harness := (true, "4a11329c0252baad4e5255a07df7abb4e749b6f46593086b0067420dff1f9643"), looks := false }, kinds := [], alts := [], laidByText := true, laidKinds := [.called], laidTests := true, laidLooks := .later }
def EventChecksUptoCardSaid : Prop := Claim7.holds Tryd.pinned (.plain (OpenSpec.upto eventChecksSpec)) eventChecksUptoCard

/-- THE SECOND FORM's CARD OF 'logtidelaw12.EventCodes'. -/
def eventCodesUptoCard : Claim7 := { stood := { row := eventCodesUptoRow, standIns := [], harness := (true, "4a11329c0252baad4e5255a07df7abb4e749b6f46593086b0067420dff1f9643"), looks := false }, kinds := [], alts := [], laidByText := true, laidKinds := [.called], laidTests := true, laidLooks := .later }
def EventCodesUptoCardSaid : Prop := Claim7.holds Tryd.pinned (.plain (OpenSpec.upto eventCodesSpec)) eventCodesUptoCard

/-- THE SECOND FORM's CARD OF 'logtidelaw12.EventReturns'. -/
def eventReturnsUptoCard : Claim7 := { stood := { row := eventReturnsUptoRow, standIns := [], harness := (true, "4a11329c0252baad4e5255a07df7abb4e749b6f46593086b0067420dff1f9643"), looks := false }, kinds := [], alts := [], laidByText := true, laidKinds := [.called], laidTests := true, laidLooks := .later }
def EventReturnsUptoCardSaid : Prop := Claim7.holds Tryd.pinned (.plain (OpenSpec.upto eventReturnsSpec)) eventReturnsUptoCard
end Rows
end Go.Proofs.YtlpedofpnbggbaaDoor
