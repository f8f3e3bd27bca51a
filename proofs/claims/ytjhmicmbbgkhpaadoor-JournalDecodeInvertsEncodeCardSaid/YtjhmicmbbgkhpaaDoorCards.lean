/-
  DERIVED. GIVEN WITH THE SEED: THE CARDS: each row of YtjhmicmbbgkhpaaDoorRows.lean that lists a variable, with what it lists TIED to the program's text (the seventh form; the later family's looks); each row that meets fmt, with fmt's text TOLD by the authors' own Lean function (tested against real Go, not proved from fmt's source: count such statements apart). THE CARD IS WHAT COUNTS. Prove the row's statement (the work); the ties are given (YtjhmicmbbgkhpaaDoorTie.lean); close each card by the builder's one call (the guide's Derived/Test/ToyasCard.lean, 'card_holds'). Laid BY PROGRAM, IN A SANDBOX (cutbox-door.mjs). By AI agents, Wed Nov 11 2026. No macro, syntax, notation, axiom, sorry.
-/
import Derived.Test.YtjhmicmbbgkhpaaDoorRows
import GoSem.ClaimSeven
namespace Go.Proofs.YtjhmicmbbgkhpaaDoor
namespace Rows

/-- THE TIED CARD OF 'logtidelaw29.JournalDecodeInvertsEncode'. -/
def journalDecodeInvertsEncodeCard : Claim7 := { stood := { row := journalDecodeInvertsEncodeRow, standIns := [], harness := (true, "b610c158489cd5a900f42283e6db68dec2dd76308a7d70cbaac0ca464de0a0c0"), looks := false }, kinds := [], alts := [], laidByText := true, laidKinds := [.called], laidTests := true, laidLooks := .later }
def JournalDecodeInvertsEncodeCardSaid : Prop := Claim7.holds Tryd.pinned (.plain (OpenSpec.ofChange journalDecodeInvertsEncodeSpec)) journalDecodeInvertsEncodeCard

/-- THE SECOND FORM's CARD OF 'logtidelaw29.JournalDecodeInvertsEncode'. -/
def journalDecodeInvertsEncodeUptoCard : Claim7 := { stood := { row := journalDecodeInvertsEncodeUptoRow, standIns := [], harness := (true, "b610c158489cd5a900f42283e6db68dec2dd76308a7d70cbaac0ca464de0a0c0"), looks := false }, kinds := [], alts := [], laidByText := true, laidKinds := [.called], laidTests := true, laidLooks := .later }
def JournalDecodeInvertsEncodeUptoCardSaid : Prop := Claim7.holds Tryd.pinned (.plain (OpenSpec.upto journalDecodeInvertsEncodeSpec)) journalDecodeInvertsEncodeUptoCard
end Rows
end Go.Proofs.YtjhmicmbbgkhpaaDoor
