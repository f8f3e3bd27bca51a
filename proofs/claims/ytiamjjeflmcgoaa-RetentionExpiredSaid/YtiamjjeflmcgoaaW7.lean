import Derived.Test.YtiamjjeflmcgoaaW6
set_option linter.unusedSimpArgs false
set_option linter.unusedVariables false
set_option linter.unnecessarySimpa false
namespace Go.Proofs.Ytiamjjeflmcgoaa
open Go.Eng Go.Pi
def lessE (a b : Ev) : Bool := if a.a5 = b.a5 then (if a.a0 = b.a0 then (if a.a1 = b.a1 then decide (a.a2 < b.a2) else decide (a.a1 < b.a1)) else decide (a.a0 < b.a0)) else decide (a.a5 < b.a5)
theorem s85 (a b : Ev) (h : Hp) : R 85 [.agg (evr a), .agg (evr b)] h = some (.bool (lessE a b), h) := by
  rw [e85]
  by_cases h5 : a.a5 = b.a5
  · by_cases h0 : a.a0 = b.a0
    · by_cases h1 : a.a1 = b.a1
      · simp [-Option.bind_some, F85, evr, lessE, h5, h0, h1]
      · simp [-Option.bind_some, F85, evr, lessE, h5, h0, h1]
    · simp [-Option.bind_some, F85, evr, lessE, h5, h0]
  · simp [-Option.bind_some, F85, evr, lessE, h5]
/-- Where it is inserted, among the first k. -/
def insPos (l : List Ev) (e : Ev) : Nat → Nat
  | 0 => 0
  | k + 1 => match l[k]? with
    | some x => if lessE e x = true then insPos l e k else k + 1
    | none => k + 1
def ins (l : List Ev) (e : Ev) : List Ev := l.take (insPos l e l.length) ++ [e] ++ l.drop (insPos l e l.length)
theorem insPos_le (l : List Ev) (e : Ev) : ∀ k, insPos l e k ≤ k
  | 0 => Nat.le_refl _
  | k + 1 => by
    unfold insPos
    cases l[k]? with
    | none => simp [-Option.bind_some]
    | some x =>
      by_cases h : lessE e x = true
      · simp [-Option.bind_some, h]; have := insPos_le l e k; omega
      · simp [-Option.bind_some, h]
theorem l72 (l : List Ev) (d : D) (e : Ev) (h : Hp) (hd : SlOf 10 evr l d) (hl : l.length ≤ 1000000000) : ∀ k, k ≤ l.length → ∀ a, ∃ b, loopW (F72_L0 d (.fptr (evr e))) [.int .i64 k, a] h = some (.ext 0, [.int .i64 (insPos l e k : Nat), b], h) := by
  intro k
  induction k with
  | zero =>
    intro _ a
    rw [loopW_eq]
    exact ⟨_, by simp [-Option.bind_some, F72_L0, insPos]; rfl⟩
  | succ k ih =>
    intro hk a
    have hg : l[k]? = some l[k] := List.getElem?_eq_getElem (by omega)
    have hp : (0 : Int) < (k : Int) + 1 := by omega
    have hw : IntKind.wrap .i64 (k : Int) = k := wrap_i64 (by omega) (by omega)
    rw [loopW_eq]
    by_cases hs : lessE e l[k] = true
    · obtain ⟨b, ih⟩ := ih (by omega) (.bool true)
      refine ⟨b, ?_⟩
      simp [-Option.bind_some, F72_L0, insPos, hg, hs, hp, hw, evL, ixs40 hd, s85]
      simpa [-Option.bind_some, F72_L0] using ih
    · exact ⟨_, by simp [-Option.bind_some, F72_L0, insPos, hg, hs, hp, hw, evL, ixs40 hd, s85]; rfl⟩
theorem evr_frz (n0 : Nat) (h : Hp) (n : Nat) (e : Ev) : ∀ d ∈ evr e, frz n0 h (n + 1) d = d := by
  intro d hd
  simp [-Option.bind_some, evr] at hd
  rcases hd with rfl | rfl | rfl | rfl | rfl | rfl | rfl | rfl | rfl | rfl
  all_goals first | exact slof_frz e.hld (fun a _ => linr_frz _ _ _ a) | exact slof_frz e.hfd (fun a _ => fld_frz _ _ _ a) | simp [-Option.bind_some]
theorem evr_ok (n : Nat) (e : Ev) : ∀ d ∈ evr e, Ok n d := by
  intro d hd
  simp [-Option.bind_some, evr] at hd
  rcases hd with rfl | rfl | rfl | rfl | rfl | rfl | rfl | rfl | rfl | rfl
  all_goals first | exact slof_ok e.hld (fun a _ => linr_ok _ a) | exact slof_ok e.hfd (fun a _ => fld_ok _ a) | constructor
theorem s72 (l : List Ev) (d : D) (e : Ev) (h : Hp) (hd : SlOf 10 evr l d) (hl : l.length ≤ 1000000000) : ∃ d', R 72 [d, .agg (evr e)] h = some (d', h) ∧ SlOf 10 evr (ins l e) d' := by
  suffices Wp (R 72 [d, .agg (evr e)] h) (fun p => p.2 = h ∧ SlOf 10 evr (ins l e) p.1) by
    obtain ⟨⟨x, h'⟩, h1, rfl, h2⟩ := this
    exact ⟨x, h1, h2⟩
  rw [e72]
  obtain ⟨b, hlp⟩ := l72 l d e h hd hl l.length (Nat.le_refl _) .any
  have hp := insPos_le l e l.length
  simp only [F72, pBoxF_agg, bs, Option.bind_assoc, lens40 hd, hlp, unblk_self, toEnd_nrm, nth_zero]
  obtain ⟨y1, hs1, hy1⟩ := slof_hi (T := tab) (t := 40) (i := ti40) (j := ti31) (id rfl) (id rfl) (id rfl) (id rfl) hd (k := .i64) (n := (insPos l e l.length : Nat)) (by omega) (by omega)
  obtain ⟨y2, hs2, hy2⟩ := slof_lo (T := tab) (t := 40) (i := ti40) (j := ti31) (id rfl) (id rfl) (id rfl) (id rfl) hd (k := .i64) (n := (insPos l e l.length : Nat)) (by omega) (by omega)
  rw [Int.toNat_natCast] at hy1 hy2
  simp only [hs1, hs2, bs]
  refine wap40 (n0 := h.length) (Nat.le_refl _) (Own.nils _ _ _ _) (slof_rows _ hy1) (by simp [-Option.bind_some]; omega) fun x1 h1 ow1 len1 bel1 _ _ => ?_
  have hb : pLitF tab 40 1 [0] [.agg (evr e)] = some (.sl 10 true [evr e]) := by simp [-Option.bind_some, evr]
  simp only [bs, evL, hb]
  refine wap40 (by omega) ow1 (rowsOf_sl _ _ _ _) (by simp [-Option.bind_some]; omega) fun x2 h2 ow2 len2 bel2 _ _ => ?_
  dsimp only
  refine wap40 (by omega) ow2 (slof_rows _ hy2) (by simp [-Option.bind_some]; omega) fun x3 h3 ow3 len3 bel3 _ _ => ?_
  simp only [bs, mkRes_one]
  rw [List.nil_append, show [evr e] = [e].map evr from rfl, ← List.map_append, ← List.map_append] at ow3
  have hsl := own_sl (n0 := h.length) (n := 3) ow3 (Nat.le_refl _) (fun a _ => evr_frz _ h3 2 a)
  rw [scope_eq rfl (slof_ok hsl fun a _ => evr_ok _ a) (by omega) (fun q hq => ((bel3 q hq).trans (bel2 q hq)).trans (bel1 q hq))]
  exact .some ⟨rfl, hsl⟩
end Go.Proofs.Ytiamjjeflmcgoaa
