/- From a row's input to the facts of a walk. No program is named here. -/
import Derived.Test.YtfjbbeleejnbgaaEngH
import Derived.ProofKit
import Derived.OpenShut
import Derived.Below
set_option linter.unusedSimpArgs false
set_option linter.unusedVariables false
namespace Go.Eng
open Go.ChangeShapes Go.WideShapes Go.ChangeAt Go.RowKit
/-- The world of a call, in which all that came in is never written again. -/
def Gw.all (w : World) (N : Nat) : Gw := ⟨w, fun b => if b < w.heap.size then N else 0, fun b hb => by rw [if_neg (by omega)]⟩
theorem wf_byte {n : Int} (h : (Lit.int .u8 n).wf = true) : 0 ≤ n ∧ n < 256 := by
  simp only [Lit.wf, Bool.and_eq_true, decide_eq_true_eq] at h
  have h1 : IntKind.min .u8 = 0 := rfl
  have h2 : IntKind.max .u8 = 255 := rfl
  omega
theorem wf_word {n : Int} (h : (Lit.int .i64 n).wf = true) : -9223372036854775808 ≤ n ∧ n ≤ 9223372036854775807 := by
  simp only [Lit.wf, Bool.and_eq_true, decide_eq_true_eq] at h
  have h1 : IntKind.min .i64 = -9223372036854775808 := rfl
  have h2 : IntKind.max .i64 = 9223372036854775807 := rfl
  omega
section
variable {H : Type} {enc : TypeId × Value → H} {P : Program} {W : World}
/-- A slice of whole numbers that came in. -/
theorem open_row {t e : TypeId} {k : IntKind} {a : Option Addr} {n cap : Nat} {d : DataW H} {p : List MemPlace} (ht : P.underlying t = some (.slice e)) (he : P.underlying e = some (.int k)) (hc : P.cellsOf e = 1)
    (h : DataW.Trod enc P W 0 (fun _ => true) true t (.slice a n cap) d p) : ∃ (N : Nat) (zs : List Int), (∀ M, N ≤ M → FSf (Gw.all W M) a n cap 1 (fun z : Int => [Value.int k z]) zs) ∧ ∀ z ∈ zs, (Lit.int k z).wf = true := by
  obtain ⟨fuel, hf⟩ := h
  rcases open_ints ht he hc hf with ⟨hcs, _⟩ | ⟨x, l, c, zs, hcs, _, hl, hm, hz, _, hcell, hwz⟩
  · simp [Value.cells] at hcs
    obtain ⟨rfl, rfl, rfl⟩ := hcs
    exact ⟨0, [], fun M _ => FSf.nil _ _ _ _ _ (fun _ => rfl) (Nat.zero_le _), fun z hz => by cases hz⟩
  · simp [Value.cells] at hcs
    obtain ⟨rfl, rfl, rfl⟩ := hcs
    have hz' : zs.length = cap := by simpa using hz
    rcases Nat.eq_zero_or_pos n with hn | hn
    · subst hn
      exact ⟨0, [], fun M _ => FSf.nil _ _ _ _ _ (fun _ => rfl) (by simpa [maxLen] using hm), fun z hz => by cases hz⟩
    · obtain ⟨b, o, spot⟩ := x
      have hc0 := hcell 0 (by omega)
      have hspot : spot = none := by simpa [Addr.add] using World.cell?_spot hc0
      subst hspot
      refine ⟨o + n * 1, zs.take n, fun M hM => ⟨⟨?_, hl, by simpa [maxLen] using hm, fun _ => ⟨b, o, rfl, ?_, fun j v hj => ?_⟩⟩, by rw [List.length_take]; omega, fun _ => rfl⟩, fun z hz => hwz z (List.mem_of_mem_take hz)⟩
      · rw [length_flatMap_sz (f := fun z : Int => [Value.int k z]) (sz := 1) (fun _ => rfl), List.length_take]; omega
      · have hb : b < W.heap.size := by
          have : W.cell? ⟨b, o, none⟩ = some (.int k (zs.getD 0 0)) := by simpa [Addr.add] using hc0
          unfold World.cell? at this
          rcases Nat.lt_or_ge b W.heap.size with h | h
          · exact h
          · simp [Array.getElem?_eq_none h] at this
        simp only [Gw.all, if_pos hb]
        exact hM
      · have hflat : (zs.take n).flatMap (fun z : Int => [Value.int k z]) = (zs.take n).map (Value.int k) := by
          generalize zs.take n = l
          induction l with
          | nil => rfl
          | cons x r ih => simp [ih]
        rw [hflat, List.getElem?_map] at hj
        cases hq : (zs.take n)[j]? with
        | none => rw [hq] at hj; cases hj
        | some q =>
          rw [hq] at hj
          simp only [Option.map_some, Option.some.injEq] at hj
          subst hj
          have hjn : j < n := by
            have := (List.getElem?_eq_some_iff.1 hq).1
            rw [List.length_take] at this; omega
          rw [List.getElem?_take, if_pos hjn] at hq
          have := hcell j (by omega)
          simp only [Addr.add_lit] at this
          rw [show (Gw.all W M).w = W from rfl, this, List.getD_eq_getElem?_getD, hq]
          rfl
end
/-- What a walk shows, as the row wants it. -/
theorem row_of {P : Program} {f : FuncId} {args : Array Value} {W : World} {N : Nat} {u : Value} (h : CallsV P f args W (Ret Mno (Gw.all W N) fun v _ => v = u)) : Calls P f args W fun e w' => e = .returned u ∧ Below W.heap.size W w' :=
  Calls.mono h (by
    rintro e w' ⟨v, rfl, g', rfl, hv, rfl⟩
    exact ⟨rfl, hv.below⟩)
end Go.Eng
