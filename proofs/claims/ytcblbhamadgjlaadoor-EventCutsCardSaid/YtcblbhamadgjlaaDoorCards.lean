/-
  DERIVED. GIVEN WITH THE SEED: THE CARDS: each row of YtcblbhamadgjlaaDoorRows.lean that lists a variable, with what it lists TIED to the program's text (the seventh form; the later family's looks); each row that meets fmt, with fmt's text TOLD by the authors' own Lean function (tested against real Go, not proved from fmt's source: count such statements apart). THE CARD IS WHAT COUNTS. Prove the row's statement (the work); the ties are given (YtcblbhamadgjlaaDoorTie.lean); close each card by the builder's one call (the guide's Derived/Test/ToyasCard.lean, 'card_holds'). Laid BY PROGRAM, IN A SANDBOX (cutbox-door.mjs). By AI agents, Wed Nov 11 2026. No macro, syntax, notation, axiom, sorry.
-/
import Derived.Test.YtcblbhamadgjlaaDoorRows
import GoSem.ClaimSeven
namespace Go.Proofs.YtcblbhamadgjlaaDoor
namespace Rows

/-- THE TIED CARD OF 'logtidelaw12.EventOrders'. -/
def eventOrdersCard : Claim7 := { stood := { row := eventOrdersRow, standIns := [], harness := (true, "dae337b19932256540227ac653c2855260f34c6298f50050cb4e1985fa7a46ee"), looks := false }, kinds := [], alts := [], laidByText := true, laidKinds := [.called], laidTests := true, laidLooks := .later }
def EventOrdersCardSaid : Prop := Claim7.holds Tryd.pinned (.plain (OpenSpec.ofChange eventOrdersSpec)) eventOrdersCard

/-- THE TIED CARD OF 'logtidelaw12.EventCuts'. -/
def eventCutsCard : Claim7 := { stood := { row := eventCutsRow, standIns := [], harness := (true, "dae337b19932256540227ac653c2855260f34c6298f50050cb4e1985fa7a46ee"), looks := false }, kinds := [], alts := [], laidByText := true, laidKinds := [.called], laidTests := true, laidLooks := .later }
def EventCutsCardSaid : Prop := Claim7.holds Tryd.pinned (.plain (OpenSpec.ofChange eventCutsSpec)) eventCutsCard

/-- THE SECOND FORM's CARD OF 'logtidelaw12.EventOrders'. -/
def eventOrdersUptoCard : Claim7 := { stood := { row := eventOrdersUptoRow, standIns := [], harness := (true, "dae337b19932256540227ac653c2855260f34c6298f50050cb4e1985fa7a46ee"), looks := false }, kinds := [], alts := [], laidByText := true, laidKinds := [.called], laidTests := true, laidLooks := .later }
def EventOrdersUptoCardSaid : Prop := Claim7.holds Tryd.pinned (.plain (OpenSpec.upto eventOrdersSpec)) eventOrdersUptoCard

/-- THE SECOND FORM's CARD OF 'logtidelaw12.EventCuts'. -/
def eventCutsUptoCard : Claim7 := { stood := { row := eventCutsUptoRow, standIns := [], harness := (true, "dae337b19932256540227ac653c2855260f34c6298f50050cb4e1985fa7a46ee"), looks := false }, kinds := [], alts := [], laidByText := true, laidKinds := [.called], laidTests := true, laidLooks := .later }
def EventCutsUptoCardSaid : Prop := Claim7.holds Tryd.pinned (.plain (OpenSpec.upto eventCutsSpec)) eventCutsUptoCard
end Rows
end Go.Proofs.YtcblbhamadgjlaaDoor
