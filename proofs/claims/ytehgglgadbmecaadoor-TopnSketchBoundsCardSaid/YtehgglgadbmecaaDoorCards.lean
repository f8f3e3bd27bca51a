/-
  DERIVED. GIVEN WITH THE SEED: THE CARDS: each row of YtehgglgadbmecaaDoorRows.lean that lists a variable, with what it lists TIED to the program's text (the seventh form; the later family's looks); each row that meets fmt, with fmt's text TOLD by the authors' own Lean function (tested against real Go, not proved from fmt's source: count such statements apart). THE CARD IS WHAT COUNTS. Prove the row's statement (the work); the ties are given (YtehgglgadbmecaaDoorTie.lean); close each card by the builder's one call (the guide's Derived/Test/ToyasCard.lean, 'card_holds'). Laid BY PROGRAM, IN A SANDBOX (cutbox-door.mjs). By AI agents, Wed Nov 11 2026. No macro, syntax, notation, axiom, sorry.
-/
import Derived.Test.YtehgglgadbmecaaDoorRows
import GoSem.ClaimSeven
namespace Go.Proofs.YtehgglgadbmecaaDoor
namespace Rows

/-- THE TIED CARD OF 'logtidelaw39.TopnSketchBounds'. -/
def topnSketchBoundsCard : Claim7 := { stood := { row := topnSketchBoundsRow, standIns := [], harness := (true, "fc239bd04f87a16fd56f7ceb5416f7671d51e6d4510885007c633618a5cf447d"), looks := false }, kinds := [], alts := [], laidByText := true, laidKinds := [.data, .data, .data], laidTests := true, laidLooks := .later }
def TopnSketchBoundsCardSaid : Prop := Claim7.holds Tryd.pinned (.plain (OpenSpec.ofChange topnSketchBoundsSpec)) topnSketchBoundsCard

/-- THE SECOND FORM's CARD OF 'logtidelaw39.TopnSketchBounds'. -/
def topnSketchBoundsUptoCard : Claim7 := { stood := { row := topnSketchBoundsUptoRow, standIns := [], harness := (true, "fc239bd04f87a16fd56f7ceb5416f7671d51e6d4510885007c633618a5cf447d"), looks := false }, kinds := [], alts := [], laidByText := true, laidKinds := [.data, .data, .data], laidTests := true, laidLooks := .later }
def TopnSketchBoundsUptoCardSaid : Prop := Claim7.holds Tryd.pinned (.plain (OpenSpec.upto topnSketchBoundsSpec)) topnSketchBoundsUptoCard
end Rows
end Go.Proofs.YtehgglgadbmecaaDoor
