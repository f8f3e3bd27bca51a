/-
  DERIVED. GIVEN WITH THE SEED: THE CARDS: each row of YtehgglgadbmecaaGreatDoorRows.lean that lists a variable, with what it lists TIED to the program's text (the seventh form; the later family's looks); each row that meets fmt, with fmt's text TOLD by the authors' own Lean function (tested against real Go, not proved from fmt's source: count such statements apart). THE CARD IS WHAT COUNTS. Prove the row's statement (the work); the ties are given (YtehgglgadbmecaaGreatDoorTie.lean); close each card by the builder's one call (the guide's Derived/Test/ToyasCard.lean, 'card_holds'). Laid BY PROGRAM, IN A SANDBOX (cutbox-door.mjs). By AI agents, Wed Nov 11 2026. No macro, syntax, notation, axiom, sorry.
-/
import Derived.Test.YtehgglgadbmecaaGreatDoorRows
import GoSem.ClaimSeven
namespace Go.Proofs.YtehgglgadbmecaaGreatDoor
namespace Rows

/-- THE TIED CARD OF 'logtidelaw39.TopnSketchIsExactIfItFits'. -/
def topnSketchIsExactIfItFitsCard : Claim7 := { stood := { row := topnSketchIsExactIfItFitsRow, standIns := [], harness := (true, "6e8eeabc82ba34133941a1a3a6920312fe40076ce3bb4315ddbc1cd923b1575e"), looks := false }, kinds := [], alts := [], laidByText := true, laidKinds := [.data, .data, .data], laidTests := true, laidLooks := .later }
def TopnSketchIsExactIfItFitsCardSaid : Prop := Claim7.holds Tryz.pinned (.plain (OpenSpec.ofChange topnSketchIsExactIfItFitsSpec)) topnSketchIsExactIfItFitsCard

/-- THE TIED CARD OF 'logtidelaw39.TopnSketch'. -/
def topnSketchCard : Claim7 := { stood := { row := topnSketchRow, standIns := [], harness := (true, "6e8eeabc82ba34133941a1a3a6920312fe40076ce3bb4315ddbc1cd923b1575e"), looks := false }, kinds := [], alts := [], laidByText := true, laidKinds := [.data, .data, .data], laidTests := true, laidLooks := .later }
def TopnSketchCardSaid : Prop := Claim7.holds Tryz.pinned (.plain (OpenSpec.ofChange topnSketchSpec)) topnSketchCard

/-- THE SECOND FORM's CARD OF 'logtidelaw39.TopnSketchIsExactIfItFits'. -/
def topnSketchIsExactIfItFitsUptoCard : Claim7 := { stood := { row := topnSketchIsExactIfItFitsUptoRow, standIns := [], harness := (true, "6e8eeabc82ba34133941a1a3a6920312fe40076ce3bb4315ddbc1cd923b1575e"), looks := false }, kinds := [], alts := [], laidByText := true, laidKinds := [.data, .data, .data], laidTests := true, laidLooks := .later }
def TopnSketchIsExactIfItFitsUptoCardSaid : Prop := Claim7.holds Tryz.pinned (.plain (OpenSpec.upto topnSketchIsExactIfItFitsSpec)) topnSketchIsExactIfItFitsUptoCard

/-- THE SECOND FORM's CARD OF 'logtidelaw39.TopnSketch'. -/
def topnSketchUptoCard : Claim7 := { stood := { row := topnSketchUptoRow, standIns := [], harness := (true, "6e8eeabc82ba34133941a1a3a6920312fe40076ce3bb4315ddbc1cd923b1575e"), looks := false }, kinds := [], alts := [], laidByText := true, laidKinds := [.data, .data, .data], laidTests := true, laidLooks := .later }
def TopnSketchUptoCardSaid : Prop := Claim7.holds Tryz.pinned (.plain (OpenSpec.upto topnSketchSpec)) topnSketchUptoCard
end Rows
end Go.Proofs.YtehgglgadbmecaaGreatDoor
