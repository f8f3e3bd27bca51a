/-
  No cell of these rows narrows 'for every input' (looked for: loops, veiled, ifaces, maps, wideKeys, modest, calm, conditions, laid).
  DERIVED. THE GIVEN ROWS OF THIS SEAT. 3 by the template 'for every input the law returns true; each argument reads behind the call as it read before'; 0 by the template 'total and deterministic' (their statements: YtdoppnhopjdhmaaTotals.lean).
  GIVEN WITH THE SEED: the statements are not yours to turn. If you find one false, say at which input.
  Laid BY PROGRAM, IN A SANDBOX (cutbox-rows.mjs): the forced cells as the released guide's own fill.sh prints them over the translation 0f7d7cf9c422ba19… (all of the seat's roots in one cut). By AI agents, Wed Nov 11 2026. No macro, syntax, notation, axiom, sorry.
-/
import Derived.Test.YtdoppnhopjdhmaaChecked
import GoSem.Claim
import GoSem.ClaimJoined
import GoSem.ClaimMapViews
import Derived.JoinedTies
import Derived.KernelRfl
namespace Go.Proofs.Ytdoppnhopjdhmaa
/- THE CELL 'sum', in the pinned program and in every row, IS THE sha256 OF THE DUMP (.gsa) THAT YtdoppnhopjdhmaaProg.lean LOADS. Nothing in Lean hashes anything: it is a label: what it is worth is what the hold of that sum in a sandbox is worth. -/
noncomputable def Try.pinned : Pinned := { name := "ytdoppnhopjdhmaa", sum := "0f7d7cf9c422ba19c09785da882a18fcc559b7e518ef86f1d995359e036dfd07", checked := Try.checked }
namespace Rows
def none {H : Type} : Left H := { results := [], args := [] }

/-- 'logtidelaw32.RetentionPurge': WHATEVER THE INPUT: true; the input reads as it did. -/
def retentionPurgeSpec : ChangeSpec := { name := "retentionPurge", fn := fun _ => fun
  | [d] => { results := [.lit (.bool true)], args := [d] }
  | _ => none }
def retentionPurgeRow : OpenClaim := { program := "ytdoppnhopjdhmaa", sum := "0f7d7cf9c422ba19c09785da882a18fcc559b7e518ef86f1d995359e036dfd07", func := "logtide/logtidelaw32.RetentionPurge", spec := "retentionPurge", inPlace := ["slices.overlaps[logtide/api.Tally]"], unfollowed := true, recurses := true, apart := false }
def RetentionPurgeSaid : Prop := retentionPurgeRow.holds Try.pinned (OpenSpec.ofChange retentionPurgeSpec)

/-- ITS FALSE NEIGHBOUR: 'it returns false'. Refute it at one input. -/
def retentionPurgeWrong : ChangeSpec := { name := "retentionPurge", fn := fun _ => fun
  | [d] => { results := [.lit (.bool false)], args := [d] }
  | _ => none }
def RetentionPurgeWrongFalsely : Prop := retentionPurgeRow.holds Try.pinned (OpenSpec.ofChange retentionPurgeWrong)

/-- 'logtidelaw32.RetentionIsMonotone': WHATEVER THE INPUT: true; the input reads as it did. -/
def retentionIsMonotoneSpec : ChangeSpec := { name := "retentionIsMonotone", fn := fun _ => fun
  | [d1, d2] => { results := [.lit (.bool true)], args := [d1, d2] }
  | _ => none }
def retentionIsMonotoneRow : OpenClaim := { program := "ytdoppnhopjdhmaa", sum := "0f7d7cf9c422ba19c09785da882a18fcc559b7e518ef86f1d995359e036dfd07", func := "logtide/logtidelaw32.RetentionIsMonotone", spec := "retentionIsMonotone", inPlace := ["slices.overlaps[logtide/api.Tally]"], unfollowed := true, recurses := true, apart := false }
def RetentionIsMonotoneSaid : Prop := retentionIsMonotoneRow.holds Try.pinned (OpenSpec.ofChange retentionIsMonotoneSpec)

/-- ITS FALSE NEIGHBOUR: 'it returns false'. Refute it at one input. -/
def retentionIsMonotoneWrong : ChangeSpec := { name := "retentionIsMonotone", fn := fun _ => fun
  | [d1, d2] => { results := [.lit (.bool false)], args := [d1, d2] }
  | _ => none }
def RetentionIsMonotoneWrongFalsely : Prop := retentionIsMonotoneRow.holds Try.pinned (OpenSpec.ofChange retentionIsMonotoneWrong)

/-- 'logtidelaw32.RetentionWhole': WHATEVER THE INPUT: true; the input reads as it did. -/
def retentionWholeSpec : ChangeSpec := { name := "retentionWhole", fn := fun _ => fun
  | [d1, d2] => { results := [.lit (.bool true)], args := [d1, d2] }
  | _ => none }
def retentionWholeRow : OpenClaim := { program := "ytdoppnhopjdhmaa", sum := "0f7d7cf9c422ba19c09785da882a18fcc559b7e518ef86f1d995359e036dfd07", func := "logtide/logtidelaw32.RetentionWhole", spec := "retentionWhole", inPlace := ["slices.overlaps[logtide/api.Tally]"], unfollowed := true, recurses := true, apart := false }
def RetentionWholeSaid : Prop := retentionWholeRow.holds Try.pinned (OpenSpec.ofChange retentionWholeSpec)

/-- ITS FALSE NEIGHBOUR: 'it returns false'. Refute it at one input. -/
def retentionWholeWrong : ChangeSpec := { name := "retentionWhole", fn := fun _ => fun
  | [d1, d2] => { results := [.lit (.bool false)], args := [d1, d2] }
  | _ => none }
def RetentionWholeWrongFalsely : Prop := retentionWholeRow.holds Try.pinned (OpenSpec.ofChange retentionWholeWrong)

/- THE SECOND FORM. 'bulk': how many values and letters a reading holds, each counted each time it is reached (what is shared counts as often as it is met; a slice's spare places count too). A statement '..UptoSaid' is the law's where the arguments, and the package variables that the reading takes, are together of bulk at most 1048576: NARROWER than '..Said'. Prove '..Said' where nothing that the law and all that it calls make is longer than what came in: it says more and counts as full. Else prove '..UptoSaid'. A law counts once. -/
mutual
def uptoBulk {H : Type} : DataW H → Nat
  | .lit (.string bytes) => bytes.length + 1
  | .lit _ => 1
  | .nil => 1
  | .ptr d => uptoBulk d + 1
  | .slice elems spare => uptoBulkAll elems + uptoBulkAll spare + 1
  | .agg parts => uptoBulkAll parts + 1
  | .iface _ d => uptoBulk d + 1
  | .map entries => uptoBulkEntries entries + 1
  | .held _ => 1
def uptoBulkAll {H : Type} : List (DataW H) → Nat
  | [] => 0
  | d :: r => uptoBulk d + uptoBulkAll r
def uptoBulkEntries {H : Type} : List (Lit × DataW H) → Nat
  | [] => 0
  | x :: r => uptoBulkEntry x + uptoBulkEntries r
def uptoBulkEntry {H : Type} : Lit × DataW H → Nat
  | (.string bytes, d) => bytes.length + uptoBulk d + 1
  | (_, d) => uptoBulk d + 1
 end
def uptoSmall : (H : Type) → List (DataW H) → Bool := fun _ ds => decide (uptoBulkAll ds ≤ 1048576)
def OpenSpec.upto (s : _root_.Go.ChangeSpec) : _root_.Go.OpenSpec := { _root_.Go.OpenSpec.ofChange s with cond := some uptoSmall }

/-- 'logtidelaw32.RetentionPurge', WHERE WHAT IT READS IS OF BULK AT MOST 1048576: true; the input reads as it did. -/
def retentionPurgeUptoRow : OpenClaim := { program := "ytdoppnhopjdhmaa", sum := "0f7d7cf9c422ba19c09785da882a18fcc559b7e518ef86f1d995359e036dfd07", func := "logtide/logtidelaw32.RetentionPurge", spec := "retentionPurge", inPlace := ["slices.overlaps[logtide/api.Tally]"], unfollowed := true, recurses := true, apart := false, narrowed := true }
def RetentionPurgeUptoSaid : Prop := retentionPurgeUptoRow.holds Try.pinned (OpenSpec.upto retentionPurgeSpec)

/-- 'logtidelaw32.RetentionIsMonotone', WHERE WHAT IT READS IS OF BULK AT MOST 1048576: true; the input reads as it did. -/
def retentionIsMonotoneUptoRow : OpenClaim := { program := "ytdoppnhopjdhmaa", sum := "0f7d7cf9c422ba19c09785da882a18fcc559b7e518ef86f1d995359e036dfd07", func := "logtide/logtidelaw32.RetentionIsMonotone", spec := "retentionIsMonotone", inPlace := ["slices.overlaps[logtide/api.Tally]"], unfollowed := true, recurses := true, apart := false, narrowed := true }
def RetentionIsMonotoneUptoSaid : Prop := retentionIsMonotoneUptoRow.holds Try.pinned (OpenSpec.upto retentionIsMonotoneSpec)

/-- 'logtidelaw32.RetentionWhole', WHERE WHAT IT READS IS OF BULK AT MOST 1048576: true; the input reads as it did. -/
def retentionWholeUptoRow : OpenClaim := { program := "ytdoppnhopjdhmaa", sum := "0f7d7cf9c422ba19c09785da882a18fcc559b7e518ef86f1d995359e036dfd07", func := "logtide/logtidelaw32.RetentionWhole", spec := "retentionWhole", inPlace := ["slices.overlaps[logtide/api.Tally]"], unfollowed := true, recurses := true, apart := false, narrowed := true }
def RetentionWholeUptoSaid : Prop := retentionWholeUptoRow.holds Try.pinned (OpenSpec.upto retentionWholeSpec)

end Rows
end Go.Proofs.Ytdoppnhopjdhmaa
