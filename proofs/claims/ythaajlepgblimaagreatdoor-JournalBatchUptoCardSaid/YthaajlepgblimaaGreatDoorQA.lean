/- What came in, as data: truth values, whole numbers, strings, structs and slices of them. No program is named here. -/
import Derived.Test.YthaajlepgblimaaGreatDoorPiX
import Derived.Deep.Slices
set_option linter.unusedSimpArgs false
set_option linter.unusedVariables false
set_option linter.unnecessarySimpa false
namespace Go.Pi
open Go.Eng Go.ChangeShapes Go.WideShapes Go.ChangeAt Go.RowKit Go.Deep
def b9J (P : Program) : Nat → List Field → Nat → Bool
 | acc, [], n => Nat.beq acc n
 | acc, f :: r, n => Nat.beq f.offset acc && b9J P (acc + P.cellsOf f.type) r n
def c4r (P : Program) : Nat → TypeId → Bool
 | 0, _ => false
 | m + 1, t => match P.underlying t with
  | some .bool => true
  | some (.int _) => true
  | some .string => true
  | some (.slice e) => c4r P m e && Nat.ble 1 (P.cellsOf e)
  | some (.struct fs) => b9J P 0 fs.toList (P.cellsOf t) && fs.toList.all fun f => c4r P m f.type
  | _ => false
def ShG (P : Program) : Nat → TypeId → List D → Prop
 | 0, _, _ => False
 | m + 1, t, ds => match P.underlying t with
  | some .bool => ∃ b, ds = [.bool b]
  | some (.int k) => ∃ z, ds = [.int k z] ∧ (Lit.int k z).wf = true
  | some .string => ∃ s : List UInt8, ds = [.str s] ∧ s.length ≤ 9223372036854775807
  | some (.slice e) => ds = [.nils] ∨ ∃ rows, ds = [.sl (P.cellsOf e) false rows] ∧ rows.length ≤ 9223372036854775807 ∧ ∀ row ∈ rows, ShG P m e row
  | some (.struct fs) => ds.length = P.cellsOf t ∧ ∀ f ∈ fs.toList, ShG P m f.type ((ds.drop f.offset).take (P.cellsOf f.type))
  | _ => False
section
variable {H : Type} {enc : TypeId × Value → H} {P : Program} {W : World}
theorem a7b {t e : TypeId} {m : Nat} {x : D} (ht : P.underlying t = some (.slice e)) (h : ShG P (m + 1) t [x]) : x = .nils ∨ ∃ rows, x = .sl (P.cellsOf e) false rows ∧ rows.length ≤ 9223372036854775807 ∧ ∀ row ∈ rows, ShG P m e row := by
 unfold ShG at h
 rw [ht] at h
 rcases h with h | ⟨rows, h1, h2⟩
 ·left; simpa using h
 ·right; exact ⟨rows, by simpa using h1, h2⟩
theorem a6d {t : TypeId} {m : Nat} {ds : List D} (ht : P.underlying t = some .string) (h : ShG P (m + 1) t ds) : ∃ s : List UInt8, ds = [.str s] ∧ s.length ≤ 9223372036854775807 := by
 unfold ShG at h
 rw [ht] at h
 exact h
theorem a3s {t : TypeId} {k : IntKind} {m : Nat} {ds : List D} (ht : P.underlying t = some (.int k)) (h : ShG P (m + 1) t ds) : ∃ z, ds = [.int k z] ∧ (Lit.int k z).wf = true := by
 unfold ShG at h
 rw [ht] at h
 exact h
theorem a9O {t : TypeId} {fs : Array Field} {m : Nat} {ds : List D} (ht : P.underlying t = some (.struct fs)) (h : ShG P (m + 1) t ds) : ds.length = P.cellsOf t ∧ ∀ f ∈ fs.toList, ShG P m f.type ((ds.drop f.offset).take (P.cellsOf f.type)) := by
 unfold ShG at h
 rw [ht] at h
 exact h
end
end Go.Pi
