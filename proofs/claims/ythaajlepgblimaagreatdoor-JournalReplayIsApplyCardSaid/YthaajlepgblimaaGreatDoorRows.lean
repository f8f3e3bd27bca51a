/-
  NARROWER THAN 'FOR EVERY INPUT', by the rows' own cells (each row's printed sentence says how): JournalBatch: laid · JournalReplay: laid · JournalReplayIsApply: laid.
  DERIVED. THE GIVEN ROWS OF THIS SEAT. 3 by the template 'for every input the law returns true; each argument reads behind the call as it read before'; 0 by the template 'total and deterministic' (their statements: YthaajlepgblimaaGreatDoorTotals.lean).
  GIVEN WITH THE SEED: the statements are not yours to turn. If you find one false, say at which input.
  Laid BY PROGRAM, IN A SANDBOX (cutbox-rows.mjs): the forced cells as the released guide's own fill.sh prints them over the translation dddbfd611e9d13f3… (all of the seat's roots in one cut). By AI agents, Wed Nov 11 2026. No macro, syntax, notation, axiom, sorry.
-/
import Derived.Test.YthaajlepgblimaaGreatDoorChecked
import GoSem.Claim
import GoSem.ClaimJoined
import GoSem.ClaimMapViews
import Derived.JoinedTies
import Derived.KernelRfl
namespace Go.Proofs.YthaajlepgblimaaGreatDoor
/- THE CELL 'sum', in the pinned program and in every row, IS THE sha256 OF THE DUMP (.gsa) THAT YthaajlepgblimaaGreatDoorProg.lean LOADS. Nothing in Lean hashes anything: it is a label: what it is worth is what the hold of that sum in a sandbox is worth. -/
noncomputable def Tryz.pinned : Pinned := { name := "ythaajlepgblimaagreatdoor", sum := "dddbfd611e9d13f35f16590d7ec55d0bdea15c2c9d5a2bede8eb7ccd4a402059", checked := Tryz.checked }
namespace Rows
def none {H : Type} : Left H := { results := [], args := [] }

/- WHAT THE LISTED PACKAGE-LEVEL VARIABLES READ AS WHEN THE CALL BEGINS. Each datum BY PROGRAM (the guide's laid-datum.mjs) off the statement by which the dump's own 'gosem.cut.vars' lays the variable. In a bare row this is a premise. The card (YthaajlepgblimaaGreatDoorCards.lean) ties it to the program's text. -/
def laid_logtide_ascii_kinds {H : Type} : DataW H := .agg [.lit (.int .u8 0), .lit (.int .u8 0), .lit (.int .u8 0), .lit (.int .u8 0), .lit (.int .u8 0), .lit (.int .u8 0), .lit (.int .u8 0), .lit (.int .u8 0), .lit (.int .u8 0), .lit (.int .u8 4), .lit (.int .u8 0), .lit (.int .u8 0), .lit (.int .u8 0), .lit (.int .u8 0), .lit (.int .u8 0), .lit (.int .u8 0), .lit (.int .u8 0), .lit (.int .u8 0), .lit (.int .u8 0), .lit (.int .u8 0), .lit (.int .u8 0), .lit (.int .u8 0), .lit (.int .u8 0), .lit (.int .u8 0), .lit (.int .u8 0), .lit (.int .u8 0), .lit (.int .u8 0), .lit (.int .u8 0), .lit (.int .u8 0), .lit (.int .u8 0), .lit (.int .u8 0), .lit (.int .u8 0), .lit (.int .u8 4), .lit (.int .u8 0), .lit (.int .u8 0), .lit (.int .u8 0), .lit (.int .u8 0), .lit (.int .u8 0), .lit (.int .u8 0), .lit (.int .u8 0), .lit (.int .u8 0), .lit (.int .u8 0), .lit (.int .u8 0), .lit (.int .u8 0), .lit (.int .u8 0), .lit (.int .u8 0), .lit (.int .u8 0), .lit (.int .u8 0), .lit (.int .u8 1), .lit (.int .u8 1), .lit (.int .u8 1), .lit (.int .u8 1), .lit (.int .u8 1), .lit (.int .u8 1), .lit (.int .u8 1), .lit (.int .u8 1), .lit (.int .u8 1), .lit (.int .u8 1), .lit (.int .u8 0), .lit (.int .u8 0), .lit (.int .u8 0), .lit (.int .u8 0), .lit (.int .u8 0), .lit (.int .u8 0), .lit (.int .u8 0), .lit (.int .u8 2), .lit (.int .u8 2), .lit (.int .u8 2), .lit (.int .u8 2), .lit (.int .u8 2), .lit (.int .u8 2), .lit (.int .u8 2), .lit (.int .u8 2), .lit (.int .u8 2), .lit (.int .u8 2), .lit (.int .u8 2), .lit (.int .u8 2), .lit (.int .u8 2), .lit (.int .u8 2), .lit (.int .u8 2), .lit (.int .u8 2), .lit (.int .u8 2), .lit (.int .u8 2), .lit (.int .u8 2), .lit (.int .u8 2), .lit (.int .u8 2), .lit (.int .u8 2), .lit (.int .u8 2), .lit (.int .u8 2), .lit (.int .u8 2), .lit (.int .u8 2), .lit (.int .u8 0), .lit (.int .u8 0), .lit (.int .u8 0), .lit (.int .u8 0), .lit (.int .u8 0), .lit (.int .u8 0), .lit (.int .u8 2), .lit (.int .u8 2), .lit (.int .u8 2), .lit (.int .u8 2), .lit (.int .u8 2), .lit (.int .u8 2), .lit (.int .u8 2), .lit (.int .u8 2), .lit (.int .u8 2), .lit (.int .u8 2), .lit (.int .u8 2), .lit (.int .u8 2), .lit (.int .u8 2), .lit (.int .u8 2), .lit (.int .u8 2), .lit (.int .u8 2), .lit (.int .u8 2), .lit (.int .u8 2), .lit (.int .u8 2), .lit (.int .u8 2), .lit (.int .u8 2), .lit (.int .u8 2), .lit (.int .u8 2), .lit (.int .u8 2), .lit (.int .u8 2), .lit (.int .u8 2), .lit (.int .u8 0), .lit (.int .u8 0), .lit (.int .u8 0), .lit (.int .u8 0), .lit (.int .u8 0), .lit (.int .u8 0), .lit (.int .u8 0), .lit (.int .u8 0), .lit (.int .u8 0), .lit (.int .u8 0), .lit (.int .u8 0), .lit (.int .u8 0), .lit (.int .u8 0), .lit (.int .u8 0), .lit (.int .u8 0), .lit (.int .u8 0), .lit (.int .u8 0), .lit (.int .u8 0), .lit (.int .u8 0), .lit (.int .u8 0), .lit (.int .u8 0), .lit (.int .u8 0), .lit (.int .u8 0), .lit (.int .u8 0), .lit (.int .u8 0), .lit (.int .u8 0), .lit (.int .u8 0), .lit (.int .u8 0), .lit (.int .u8 0), .lit (.int .u8 0), .lit (.int .u8 0), .lit (.int .u8 0), .lit (.int .u8 0), .lit (.int .u8 0), .lit (.int .u8 0), .lit (.int .u8 0), .lit (.int .u8 0), .lit (.int .u8 0), .lit (.int .u8 0), .lit (.int .u8 0), .lit (.int .u8 0), .lit (.int .u8 0), .lit (.int .u8 0), .lit (.int .u8 0), .lit (.int .u8 0), .lit (.int .u8 0), .lit (.int .u8 0), .lit (.int .u8 0), .lit (.int .u8 0), .lit (.int .u8 0), .lit (.int .u8 0), .lit (.int .u8 0), .lit (.int .u8 0), .lit (.int .u8 0), .lit (.int .u8 0), .lit (.int .u8 0), .lit (.int .u8 0), .lit (.int .u8 0), .lit (.int .u8 0), .lit (.int .u8 0), .lit (.int .u8 0), .lit (.int .u8 0), .lit (.int .u8 0), .lit (.int .u8 0), .lit (.int .u8 0), .lit (.int .u8 0), .lit (.int .u8 0), .lit (.int .u8 0), .lit (.int .u8 0), .lit (.int .u8 0), .lit (.int .u8 0), .lit (.int .u8 0), .lit (.int .u8 0), .lit (.int .u8 0), .lit (.int .u8 0), .lit (.int .u8 0), .lit (.int .u8 0), .lit (.int .u8 0), .lit (.int .u8 0), .lit (.int .u8 0), .lit (.int .u8 0), .lit (.int .u8 0), .lit (.int .u8 0), .lit (.int .u8 0), .lit (.int .u8 0), .lit (.int .u8 0), .lit (.int .u8 0), .lit (.int .u8 0), .lit (.int .u8 0), .lit (.int .u8 0), .lit (.int .u8 0), .lit (.int .u8 0), .lit (.int .u8 0), .lit (.int .u8 0), .lit (.int .u8 0), .lit (.int .u8 0), .lit (.int .u8 0), .lit (.int .u8 0), .lit (.int .u8 0), .lit (.int .u8 0), .lit (.int .u8 0), .lit (.int .u8 0), .lit (.int .u8 0), .lit (.int .u8 0), .lit (.int .u8 0), .lit (.int .u8 0), .lit (.int .u8 0), .lit (.int .u8 0), .lit (.int .u8 0), .lit (.int .u8 0), .lit (.int .u8 0), .lit (.int .u8 0), .lit (.int .u8 0), .lit (.int .u8 0), .lit (.int .u8 0), .lit (.int .u8 0), .lit (.int .u8 0), .lit (.int .u8 0), .lit (.int .u8 0), .lit (.int .u8 0), .lit (.int .u8 0), .lit (.int .u8 0), .lit (.int .u8 0), .lit (.int .u8 0), .lit (.int .u8 0), .lit (.int .u8 0), .lit (.int .u8 0), .lit (.int .u8 0), .lit (.int .u8 0), .lit (.int .u8 0), .lit (.int .u8 0), .lit (.int .u8 0), .lit (.int .u8 0)]

/-- 'logtidelaw29.JournalBatch': WHATEVER THE INPUT: true; the input reads as it did. -/
def journalBatchSpec : ChangeSpec := { name := "journalBatch", fn := fun _ => fun
  | [d1, d2, d3, d4, d5] => { results := [.lit (.bool true)], args := [d1, d2, d3, d4, d5] }
  | _ => none }
def journalBatchRow : OpenClaim := { program := "ythaajlepgblimaagreatdoor", sum := "dddbfd611e9d13f35f16590d7ec55d0bdea15c2c9d5a2bede8eb7ccd4a402059", func := "logtide/logtidelaw29.JournalBatch", spec := "journalBatch", inPlace := ["internal/bytealg.abigen_runtime_cmpstring"], unfollowed := true, recurses := true, named := ["logtide/ascii.kinds"], apart := false, laid := [("logtide/ascii.kinds", laid_logtide_ascii_kinds)] }
def JournalBatchSaid : Prop := journalBatchRow.holds Tryz.pinned (OpenSpec.ofChange journalBatchSpec)

/-- ITS FALSE NEIGHBOUR: 'it returns false'. Refute it at one input. -/
def journalBatchWrong : ChangeSpec := { name := "journalBatch", fn := fun _ => fun
  | [d1, d2, d3, d4, d5] => { results := [.lit (.bool false)], args := [d1, d2, d3, d4, d5] }
  | _ => none }
def JournalBatchWrongFalsely : Prop := journalBatchRow.holds Tryz.pinned (OpenSpec.ofChange journalBatchWrong)

/-- 'logtidelaw29.JournalReplay': WHATEVER THE INPUT: true; the input reads as it did. -/
def journalReplaySpec : ChangeSpec := { name := "journalReplay", fn := fun _ => fun
  | [d1, d2, d3, d4] => { results := [.lit (.bool true)], args := [d1, d2, d3, d4] }
  | _ => none }
def journalReplayRow : OpenClaim := { program := "ythaajlepgblimaagreatdoor", sum := "dddbfd611e9d13f35f16590d7ec55d0bdea15c2c9d5a2bede8eb7ccd4a402059", func := "logtide/logtidelaw29.JournalReplay", spec := "journalReplay", inPlace := ["internal/bytealg.abigen_runtime_cmpstring", "slices.overlaps[logtide/api.Tally]", "slices.overlaps[logtide/api.Mark]"], unfollowed := true, recurses := true, named := ["logtide/ascii.kinds"], apart := false, laid := [("logtide/ascii.kinds", laid_logtide_ascii_kinds)] }
def JournalReplaySaid : Prop := journalReplayRow.holds Tryz.pinned (OpenSpec.ofChange journalReplaySpec)

/-- ITS FALSE NEIGHBOUR: 'it returns false'. Refute it at one input. -/
def journalReplayWrong : ChangeSpec := { name := "journalReplay", fn := fun _ => fun
  | [d1, d2, d3, d4] => { results := [.lit (.bool false)], args := [d1, d2, d3, d4] }
  | _ => none }
def JournalReplayWrongFalsely : Prop := journalReplayRow.holds Tryz.pinned (OpenSpec.ofChange journalReplayWrong)

/-- 'logtidelaw29.JournalReplayIsApply': WHATEVER THE INPUT: true; the input reads as it did. -/
def journalReplayIsApplySpec : ChangeSpec := { name := "journalReplayIsApply", fn := fun _ => fun
  | [d] => { results := [.lit (.bool true)], args := [d] }
  | _ => none }
def journalReplayIsApplyRow : OpenClaim := { program := "ythaajlepgblimaagreatdoor", sum := "dddbfd611e9d13f35f16590d7ec55d0bdea15c2c9d5a2bede8eb7ccd4a402059", func := "logtide/logtidelaw29.JournalReplayIsApply", spec := "journalReplayIsApply", inPlace := ["internal/bytealg.abigen_runtime_cmpstring", "slices.overlaps[logtide/api.Tally]", "slices.overlaps[logtide/api.Mark]"], unfollowed := true, recurses := true, named := ["logtide/ascii.kinds"], apart := false, laid := [("logtide/ascii.kinds", laid_logtide_ascii_kinds)] }
def JournalReplayIsApplySaid : Prop := journalReplayIsApplyRow.holds Tryz.pinned (OpenSpec.ofChange journalReplayIsApplySpec)

/-- ITS FALSE NEIGHBOUR: 'it returns false'. Refute it at one input. -/
def journalReplayIsApplyWrong : ChangeSpec := { name := "journalReplayIsApply", fn := fun _ => fun
  | [d] => { results := [.lit (.bool false)], args := [d] }
  | _ => none }
def JournalReplayIsApplyWrongFalsely : Prop := journalReplayIsApplyRow.holds Tryz.pinned (OpenSpec.ofChange journalReplayIsApplyWrong)

/- THE SECOND FORM. 'bulk': how many values and letters a reading holds, each counted each time it is reached (what is shared counts as often as it is met; a slice's spare places count too). A statement '..UptoSaid' is the law's where the arguments, and the package variables that the reading takes, are together of bulk at most 1048576: NARROWER than '..Said'. Prove '..Said' where nothing that the law and all that it calls make is longer than what came in: it says more and counts as full. Else prove '..UptoSaid'. A law counts once. -/
mutual
def uptoBulk {H : Type} : DataW H → Nat
  | .lit (.string bytes) => bytes.length + 1
  | .lit _ => 1
  | .nil => 1
  | .ptr d => uptoBulk d + 1
  | .slice elems spare => uptoBulkAll elems + uptoBulkAll spare + 1
  | .agg parts => uptoBulkAll parts + 1
  | .iface _ d => uptoBulk d + 1
  | .map entries => uptoBulkEntries entries + 1
  | .held _ => 1
def uptoBulkAll {H : Type} : List (DataW H) → Nat
  | [] => 0
  | d :: r => uptoBulk d + uptoBulkAll r
def uptoBulkEntries {H : Type} : List (Lit × DataW H) → Nat
  | [] => 0
  | x :: r => uptoBulkEntry x + uptoBulkEntries r
def uptoBulkEntry {H : Type} : Lit × DataW H → Nat
  | (.string bytes, d) => bytes.length + uptoBulk d + 1
  | (_, d) => uptoBulk d + 1
 end
def uptoSmall : (H : Type) → List (DataW H) → Bool := fun _ ds => decide (uptoBulkAll ds ≤ 1048576)
def OpenSpec.upto (s : _root_.Go.ChangeSpec) : _root_.Go.OpenSpec := { _root_.Go.OpenSpec.ofChange s with cond := some uptoSmall }

/-- 'logtidelaw29.JournalBatch', WHERE WHAT IT READS IS OF BULK AT MOST 1048576: true; the input reads as it did. -/
def journalBatchUptoRow : OpenClaim := { program := "ythaajlepgblimaagreatdoor", sum := "dddbfd611e9d13f35f16590d7ec55d0bdea15c2c9d5a2bede8eb7ccd4a402059", func := "logtide/logtidelaw29.JournalBatch", spec := "journalBatch", inPlace := ["internal/bytealg.abigen_runtime_cmpstring"], unfollowed := true, recurses := true, named := ["logtide/ascii.kinds"], apart := false, laid := [("logtide/ascii.kinds", laid_logtide_ascii_kinds)], narrowed := true }
def JournalBatchUptoSaid : Prop := journalBatchUptoRow.holds Tryz.pinned (OpenSpec.upto journalBatchSpec)

/-- 'logtidelaw29.JournalReplay', WHERE WHAT IT READS IS OF BULK AT MOST 1048576: true; the input reads as it did. -/
def journalReplayUptoRow : OpenClaim := { program := "ythaajlepgblimaagreatdoor", sum := "dddbfd611e9d13f35f16590d7ec55d0bdea15c2c9d5a2bede8eb7ccd4a402059", func := "logtide/logtidelaw29.JournalReplay", spec := "journalReplay", inPlace := ["internal/bytealg.abigen_runtime_cmpstring", "slices.overlaps[logtide/api.Tally]", "slices.overlaps[logtide/api.Mark]"], unfollowed := true, recurses := true, named := ["logtide/ascii.kinds"], apart := false, laid := [("logtide/ascii.kinds", laid_logtide_ascii_kinds)], narrowed := true }
def JournalReplayUptoSaid : Prop := journalReplayUptoRow.holds Tryz.pinned (OpenSpec.upto journalReplaySpec)

/-- 'logtidelaw29.JournalReplayIsApply', WHERE WHAT IT READS IS OF BULK AT MOST 1048576: true; the input reads as it did. -/
def journalReplayIsApplyUptoRow : OpenClaim := { program := "ythaajlepgblimaagreatdoor", sum := "dddbfd611e9d13f35f16590d7ec55d0bdea15c2c9d5a2bede8eb7ccd4a402059", func := "logtide/logtidelaw29.JournalReplayIsApply", spec := "journalReplayIsApply", inPlace := ["internal/bytealg.abigen_runtime_cmpstring", "slices.overlaps[logtide/api.Tally]", "slices.overlaps[logtide/api.Mark]"], unfollowed := true, recurses := true, named := ["logtide/ascii.kinds"], apart := false, laid := [("logtide/ascii.kinds", laid_logtide_ascii_kinds)], narrowed := true }
def JournalReplayIsApplyUptoSaid : Prop := journalReplayIsApplyUptoRow.holds Tryz.pinned (OpenSpec.upto journalReplayIsApplySpec)

end Rows
end Go.Proofs.YthaajlepgblimaaGreatDoor
