/-
  DERIVED. GIVEN WITH THE SEED: THE CARDS: each row of YtmbjebbjeaafgaaDoorRows.lean that lists a variable, with what it lists TIED to the program's text (the seventh form; the later family's looks); each row that meets fmt, with fmt's text TOLD by the authors' own Lean function (tested against real Go, not proved from fmt's source: count such statements apart). THE CARD IS WHAT COUNTS. Prove the row's statement (the work); the ties are given (YtmbjebbjeaafgaaDoorTie.lean); close each card by the builder's one call (the guide's Derived/Test/ToyasCard.lean, 'card_holds'). Laid BY PROGRAM, IN A SANDBOX (cutbox-door.mjs). By AI agents, Wed Nov 11 2026. No macro, syntax, notation, axiom, sorry.
-/
import Derived.Test.YtmbjebbjeaafgaaDoorRows
import GoSem.ClaimSeven
namespace Go.Proofs.YtmbjebbjeaafgaaDoor
namespace Rows

/-- THE TIED CARD OF 'logtidelaw18.RouteKeeps'. -/
def routeKeepsCard : Claim7 := { stood := { row := routeKeepsRow, standIns := [], harness := (true, "3ff4e5401252ff96c9e3d58a22bcf1b62519a8b4fd4957bc6f617a767b1f9fda"), looks := false }, kinds := [], alts := [], laidByText := true, laidKinds := [.called], laidTests := true, laidLooks := .later }
def RouteKeepsCardSaid : Prop := Claim7.holds Tryd.pinned (.plain (OpenSpec.ofChange routeKeepsSpec)) routeKeepsCard

/-- THE SECOND FORM's CARD OF 'logtidelaw18.RouteKeeps'. -/
def routeKeepsUptoCard : Claim7 := { stood := { row := routeKeepsUptoRow, standIns := [], harness := (true, "3ff4e5401252ff96c9e3d58a22bcf1b62519a8b4fd4957bc6f617a767b1f9fda"), looks := false }, kinds := [], alts := [], laidByText := true, laidKinds := [.called], laidTests := true, laidLooks := .later }
def RouteKeepsUptoCardSaid : Prop := Claim7.holds Tryd.pinned (.plain (OpenSpec.upto routeKeepsSpec)) routeKeepsUptoCard
end Rows
end Go.Proofs.YtmbjebbjeaafgaaDoor
