/-
  No cell of these rows narrows 'for every input' (looked for: loops, veiled, ifaces, maps, wideKeys, modest, calm, conditions, laid).
  DERIVED. THE GIVEN ROWS OF THIS SEAT. 6 by the template 'for every input the law returns true; each argument reads behind the call as it read before'; 0 by the template 'total and deterministic' (their statements: YtiamjjeflmcgoaaTotals.lean).
  GIVEN WITH THE SEED: the statements are not yours to turn. If you find one false, say at which input.
  Laid BY PROGRAM, IN A SANDBOX (cutbox-rows.mjs): the forced cells as the released guide's own fill.sh prints them over the translation 3e5ecd523f28e646… (all of the seat's roots in one cut). By AI agents, Wed Nov 11 2026. No macro, syntax, notation, axiom, sorry.
-/
import Derived.Test.YtiamjjeflmcgoaaChecked
import GoSem.Claim
import GoSem.ClaimJoined
import GoSem.ClaimMapViews
import Derived.JoinedTies
import Derived.KernelRfl
namespace Go.Proofs.Ytiamjjeflmcgoaa
/- THE CELL 'sum', in the pinned program and in every row, IS THE sha256 OF THE DUMP (.gsa) THAT YtiamjjeflmcgoaaProg.lean LOADS. Nothing in Lean hashes anything: it is a label: what it is worth is what the hold of that sum in a sandbox is worth. -/
noncomputable def Try.pinned : Pinned := { name := "ytiamjjeflmcgoaa", sum := "3e5ecd523f28e646b7f7702e79ca5f45ad40643e3270ff3c5dd7dbdab1f87a91", checked := Try.checked }
namespace Rows
def none {H : Type} : Left H := { results := [], args := [] }

/-- 'logtidelaw18.RouteFirst': WHATEVER THE INPUT: true; the input reads as it did. -/
def routeFirstSpec : ChangeSpec := { name := "routeFirst", fn := fun _ => fun
  | [d1, d2] => { results := [.lit (.bool true)], args := [d1, d2] }
  | _ => none }
def routeFirstRow : OpenClaim := { program := "ytiamjjeflmcgoaa", sum := "3e5ecd523f28e646b7f7702e79ca5f45ad40643e3270ff3c5dd7dbdab1f87a91", func := "logtide/logtidelaw18.RouteFirst", spec := "routeFirst", unfollowed := true, recurses := true, apart := false }
def RouteFirstSaid : Prop := routeFirstRow.holds Try.pinned (OpenSpec.ofChange routeFirstSpec)

/-- ITS FALSE NEIGHBOUR: 'it returns false'. Refute it at one input. -/
def routeFirstWrong : ChangeSpec := { name := "routeFirst", fn := fun _ => fun
  | [d1, d2] => { results := [.lit (.bool false)], args := [d1, d2] }
  | _ => none }
def RouteFirstWrongFalsely : Prop := routeFirstRow.holds Try.pinned (OpenSpec.ofChange routeFirstWrong)

/-- 'logtidelaw32.RetentionExpired': WHATEVER THE INPUT: true; the input reads as it did. -/
def retentionExpiredSpec : ChangeSpec := { name := "retentionExpired", fn := fun _ => fun
  | [d] => { results := [.lit (.bool true)], args := [d] }
  | _ => none }
def retentionExpiredRow : OpenClaim := { program := "ytiamjjeflmcgoaa", sum := "3e5ecd523f28e646b7f7702e79ca5f45ad40643e3270ff3c5dd7dbdab1f87a91", func := "logtide/logtidelaw32.RetentionExpired", spec := "retentionExpired", unfollowed := true, recurses := true, apart := false }
def RetentionExpiredSaid : Prop := retentionExpiredRow.holds Try.pinned (OpenSpec.ofChange retentionExpiredSpec)

/-- ITS FALSE NEIGHBOUR: 'it returns false'. Refute it at one input. -/
def retentionExpiredWrong : ChangeSpec := { name := "retentionExpired", fn := fun _ => fun
  | [d] => { results := [.lit (.bool false)], args := [d] }
  | _ => none }
def RetentionExpiredWrongFalsely : Prop := retentionExpiredRow.holds Try.pinned (OpenSpec.ofChange retentionExpiredWrong)

/-- 'logtidelaw32.RetentionChecks': WHATEVER THE INPUT: true; the input reads as it did. -/
def retentionChecksSpec : ChangeSpec := { name := "retentionChecks", fn := fun _ => fun
  | [d1, d2, d3, d4] => { results := [.lit (.bool true)], args := [d1, d2, d3, d4] }
  | _ => none }
def retentionChecksRow : OpenClaim := { program := "ytiamjjeflmcgoaa", sum := "3e5ecd523f28e646b7f7702e79ca5f45ad40643e3270ff3c5dd7dbdab1f87a91", func := "logtide/logtidelaw32.RetentionChecks", spec := "retentionChecks", unfollowed := true, recurses := true, apart := false }
def RetentionChecksSaid : Prop := retentionChecksRow.holds Try.pinned (OpenSpec.ofChange retentionChecksSpec)

/-- ITS FALSE NEIGHBOUR: 'it returns false'. Refute it at one input. -/
def retentionChecksWrong : ChangeSpec := { name := "retentionChecks", fn := fun _ => fun
  | [d1, d2, d3, d4] => { results := [.lit (.bool false)], args := [d1, d2, d3, d4] }
  | _ => none }
def RetentionChecksWrongFalsely : Prop := retentionChecksRow.holds Try.pinned (OpenSpec.ofChange retentionChecksWrong)

/-- 'logtidelaw32.RetentionPurge': WHATEVER THE INPUT: true; the input reads as it did. -/
def retentionPurgeSpec : ChangeSpec := { name := "retentionPurge", fn := fun _ => fun
  | [d] => { results := [.lit (.bool true)], args := [d] }
  | _ => none }
def retentionPurgeRow : OpenClaim := { program := "ytiamjjeflmcgoaa", sum := "3e5ecd523f28e646b7f7702e79ca5f45ad40643e3270ff3c5dd7dbdab1f87a91", func := "logtide/logtidelaw32.RetentionPurge", spec := "retentionPurge", inPlace := ["slices.overlaps[logtide/api.Tally]"], unfollowed := true, recurses := true, apart := false }
def RetentionPurgeSaid : Prop := retentionPurgeRow.holds Try.pinned (OpenSpec.ofChange retentionPurgeSpec)

/-- ITS FALSE NEIGHBOUR: 'it returns false'. Refute it at one input. -/
def retentionPurgeWrong : ChangeSpec := { name := "retentionPurge", fn := fun _ => fun
  | [d] => { results := [.lit (.bool false)], args := [d] }
  | _ => none }
def RetentionPurgeWrongFalsely : Prop := retentionPurgeRow.holds Try.pinned (OpenSpec.ofChange retentionPurgeWrong)

/-- 'logtidelaw32.RetentionIsMonotone': WHATEVER THE INPUT: true; the input reads as it did. -/
def retentionIsMonotoneSpec : ChangeSpec := { name := "retentionIsMonotone", fn := fun _ => fun
  | [d1, d2] => { results := [.lit (.bool true)], args := [d1, d2] }
  | _ => none }
def retentionIsMonotoneRow : OpenClaim := { program := "ytiamjjeflmcgoaa", sum := "3e5ecd523f28e646b7f7702e79ca5f45ad40643e3270ff3c5dd7dbdab1f87a91", func := "logtide/logtidelaw32.RetentionIsMonotone", spec := "retentionIsMonotone", inPlace := ["slices.overlaps[logtide/api.Tally]"], unfollowed := true, recurses := true, apart := false }
def RetentionIsMonotoneSaid : Prop := retentionIsMonotoneRow.holds Try.pinned (OpenSpec.ofChange retentionIsMonotoneSpec)

/-- ITS FALSE NEIGHBOUR: 'it returns false'. Refute it at one input. -/
def retentionIsMonotoneWrong : ChangeSpec := { name := "retentionIsMonotone", fn := fun _ => fun
  | [d1, d2] => { results := [.lit (.bool false)], args := [d1, d2] }
  | _ => none }
def RetentionIsMonotoneWrongFalsely : Prop := retentionIsMonotoneRow.holds Try.pinned (OpenSpec.ofChange retentionIsMonotoneWrong)

/-- 'logtidelaw32.RetentionWhole': WHATEVER THE INPUT: true; the input reads as it did. -/
def retentionWholeSpec : ChangeSpec := { name := "retentionWhole", fn := fun _ => fun
  | [d1, d2] => { results := [.lit (.bool true)], args := [d1, d2] }
  | _ => none }
def retentionWholeRow : OpenClaim := { program := "ytiamjjeflmcgoaa", sum := "3e5ecd523f28e646b7f7702e79ca5f45ad40643e3270ff3c5dd7dbdab1f87a91", func := "logtide/logtidelaw32.RetentionWhole", spec := "retentionWhole", inPlace := ["slices.overlaps[logtide/api.Tally]"], unfollowed := true, recurses := true, apart := false }
def RetentionWholeSaid : Prop := retentionWholeRow.holds Try.pinned (OpenSpec.ofChange retentionWholeSpec)

/-- ITS FALSE NEIGHBOUR: 'it returns false'. Refute it at one input. -/
def retentionWholeWrong : ChangeSpec := { name := "retentionWhole", fn := fun _ => fun
  | [d1, d2] => { results := [.lit (.bool false)], args := [d1, d2] }
  | _ => none }
def RetentionWholeWrongFalsely : Prop := retentionWholeRow.holds Try.pinned (OpenSpec.ofChange retentionWholeWrong)

/- THE SECOND FORM. 'bulk': how many values and letters a reading holds, each counted each time it is reached (what is shared counts as often as it is met; a slice's spare places count too). A statement '..UptoSaid' is the law's where the arguments, and the package variables that the reading takes, are together of bulk at most 1048576: NARROWER than '..Said'. Prove '..Said' where nothing that the law and all that it calls make is longer than what came in: it says more and counts as full. Else prove '..UptoSaid'. A law counts once. -/
mutual
def uptoBulk {H : Type} : DataW H → Nat
  | .lit (.string bytes) => bytes.length + 1
  | .lit _ => 1
  | .nil => 1
  | .ptr d => uptoBulk d + 1
  | .slice elems spare => uptoBulkAll elems + uptoBulkAll spare + 1
  | .agg parts => uptoBulkAll parts + 1
  | .iface _ d => uptoBulk d + 1
  | .map entries => uptoBulkEntries entries + 1
  | .held _ => 1
def uptoBulkAll {H : Type} : List (DataW H) → Nat
  | [] => 0
  | d :: r => uptoBulk d + uptoBulkAll r
def uptoBulkEntries {H : Type} : List (Lit × DataW H) → Nat
  | [] => 0
  | x :: r => uptoBulkEntry x + uptoBulkEntries r
def uptoBulkEntry {H : Type} : Lit × DataW H → Nat
  | (.string bytes, d) => bytes.length + uptoBulk d + 1
  | (_, d) => uptoBulk d + 1
 end
def uptoSmall : (H : Type) → List (DataW H) → Bool := fun _ ds => decide (uptoBulkAll ds ≤ 1048576)
def OpenSpec.upto (s : _root_.Go.ChangeSpec) : _root_.Go.OpenSpec := { _root_.Go.OpenSpec.ofChange s with cond := some uptoSmall }

/-- 'logtidelaw18.RouteFirst', WHERE WHAT IT READS IS OF BULK AT MOST 1048576: true; the input reads as it did. -/
def routeFirstUptoRow : OpenClaim := { program := "ytiamjjeflmcgoaa", sum := "3e5ecd523f28e646b7f7702e79ca5f45ad40643e3270ff3c5dd7dbdab1f87a91", func := "logtide/logtidelaw18.RouteFirst", spec := "routeFirst", unfollowed := true, recurses := true, apart := false, narrowed := true }
def RouteFirstUptoSaid : Prop := routeFirstUptoRow.holds Try.pinned (OpenSpec.upto routeFirstSpec)

/-- 'logtidelaw32.RetentionExpired', WHERE WHAT IT READS IS OF BULK AT MOST 1048576: true; the input reads as it did. -/
def retentionExpiredUptoRow : OpenClaim := { program := "ytiamjjeflmcgoaa", sum := "3e5ecd523f28e646b7f7702e79ca5f45ad40643e3270ff3c5dd7dbdab1f87a91", func := "logtide/logtidelaw32.RetentionExpired", spec := "retentionExpired", unfollowed := true, recurses := true, apart := false, narrowed := true }
def RetentionExpiredUptoSaid : Prop := retentionExpiredUptoRow.holds Try.pinned (OpenSpec.upto retentionExpiredSpec)

/-- 'logtidelaw32.RetentionChecks', WHERE WHAT IT READS IS OF BULK AT MOST 1048576: true; the input reads as it did. -/
def retentionChecksUptoRow : OpenClaim := { program := "ytiamjjeflmcgoaa", sum := "3e5ecd523f28e646b7f7702e79ca5f45ad40643e3270ff3c5dd7dbdab1f87a91", func := "logtide/logtidelaw32.RetentionChecks", spec := "retentionChecks", unfollowed := true, recurses := true, apart := false, narrowed := true }
def RetentionChecksUptoSaid : Prop := retentionChecksUptoRow.holds Try.pinned (OpenSpec.upto retentionChecksSpec)

/-- 'logtidelaw32.RetentionPurge', WHERE WHAT IT READS IS OF BULK AT MOST 1048576: true; the input reads as it did. -/
def retentionPurgeUptoRow : OpenClaim := { program := "ytiamjjeflmcgoaa", sum := "3e5ecd523f28e646b7f7702e79ca5f45ad40643e3270ff3c5dd7dbdab1f87a91", func := "logtide/logtidelaw32.RetentionPurge", spec := "retentionPurge", inPlace := ["slices.overlaps[logtide/api.Tally]"], unfollowed := true, recurses := true, apart := false, narrowed := true }
def RetentionPurgeUptoSaid : Prop := retentionPurgeUptoRow.holds Try.pinned (OpenSpec.upto retentionPurgeSpec)

/-- 'logtidelaw32.RetentionIsMonotone', WHERE WHAT IT READS IS OF BULK AT MOST 1048576: true; the input reads as it did. -/
def retentionIsMonotoneUptoRow : OpenClaim := { program := "ytiamjjeflmcgoaa", sum := "3e5ecd523f28e646b7f7702e79ca5f45ad40643e3270ff3c5dd7dbdab1f87a91", func := "logtide/logtidelaw32.RetentionIsMonotone", spec := "retentionIsMonotone", inPlace := ["slices.overlaps[logtide/api.Tally]"], unfollowed := true, recurses := true, apart := false, narrowed := true }
def RetentionIsMonotoneUptoSaid : Prop := retentionIsMonotoneUptoRow.holds Try.pinned (OpenSpec.upto retentionIsMonotoneSpec)

/-- 'logtidelaw32.RetentionWhole', WHERE WHAT IT READS IS OF BULK AT MOST 1048576: true; the input reads as it did. -/
def retentionWholeUptoRow : OpenClaim := { program := "ytiamjjeflmcgoaa", sum := "3e5ecd523f28e646b7f7702e79ca5f45ad40643e3270ff3c5dd7dbdab1f87a91", func := "logtide/logtidelaw32.RetentionWhole", spec := "retentionWhole", inPlace := ["slices.overlaps[logtide/api.Tally]"], unfollowed := true, recurses := true, apart := false, narrowed := true }
def RetentionWholeUptoSaid : Prop := retentionWholeUptoRow.holds Try.pinned (OpenSpec.upto retentionWholeSpec)

end Rows
end Go.Proofs.Ytiamjjeflmcgoaa
