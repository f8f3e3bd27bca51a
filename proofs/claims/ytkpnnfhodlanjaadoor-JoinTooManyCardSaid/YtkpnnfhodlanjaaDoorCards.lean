/-
  DERIVED. GIVEN WITH THE SEED: THE CARDS: each row of YtkpnnfhodlanjaaDoorRows.lean that lists a variable, with what it lists TIED to the program's text (the seventh form; the later family's looks); each row that meets fmt, with fmt's text TOLD by the authors' own Lean function (tested against real Go, not proved from fmt's source: count such statements apart). THE CARD IS WHAT COUNTS. Prove the row's statement (the work); the ties are given (YtkpnnfhodlanjaaDoorTie.lean); close each card by the builder's one call (the guide's Derived/Test/ToyasCard.lean, 'card_holds'). Laid BY PROGRAM, IN A SANDBOX (cutbox-door.mjs). By AI agents, Wed Nov 11 2026. No macro, syntax, notation, axiom, sorry.
-/
import Derived.Test.YtkpnnfhodlanjaaDoorRows
import GoSem.ClaimSeven
namespace Go.Proofs.YtkpnnfhodlanjaaDoor
namespace Rows

/-- THE TIED CARD OF 'logtidelaw38.JoinTooMany'. -/
def joinTooManyCard : Claim7 := { stood := { row := joinTooManyRow, standIns := [], harness := (true, "194f61a9abf8bea69c339c0bcd086f722e122e9e956e28284550014370e21f08"), looks := false }, kinds := [], alts := [], laidByText := true, laidKinds := [.data, .data, .data], laidTests := true, laidLooks := .later }
def JoinTooManyCardSaid : Prop := Claim7.holds Tryd.pinned (.plain (OpenSpec.ofChange joinTooManySpec)) joinTooManyCard

/-- THE SECOND FORM's CARD OF 'logtidelaw38.JoinTooMany'. -/
def joinTooManyUptoCard : Claim7 := { stood := { row := joinTooManyUptoRow, standIns := [], harness := (true, "194f61a9abf8bea69c339c0bcd086f722e122e9e956e28284550014370e21f08"), looks := false }, kinds := [], alts := [], laidByText := true, laidKinds := [.data, .data, .data], laidTests := true, laidLooks := .later }
def JoinTooManyUptoCardSaid : Prop := Claim7.holds Tryd.pinned (.plain (OpenSpec.upto joinTooManySpec)) joinTooManyUptoCard
end Rows
end Go.Proofs.YtkpnnfhodlanjaaDoor
