import Derived.Test.YtiamjjeflmcgoaaS4
set_option linter.unusedSimpArgs false
set_option linter.unusedVariables false
set_option linter.unnecessarySimpa false
namespace Go.Proofs.Ytiamjjeflmcgoaa
open Go.Eng Go.Pi
theorem l21 (l : List Hld) (d : D) (e : Ev) (h : Hp) (hd : SlOf 5 hldr l d) (hl : l.length ≤ 9223372036854775807) {β : Type} (K : Out → Option β) (X : Bool → Option β)
   (hX : ∀ r, K (.ret, .bool true :: r, h) = X true) (hY : ∀ r, K (.ext 0, r, h) = X false) : ∀ (suf pre : List Hld), l = pre ++ suf → ∀ a b c,
   (loopW (F21_L0 d (.fptr (evr e))) [a, .int .i64 pre.length, b, c] h).bind K = X (suf.any (holds e)) := by
  intro suf
  induction suf with
  | nil =>
    rintro pre rfl a b c
    rw [loopW_eq]
    simp [-Option.bind_some, F21_L0, lens39 hd, hY]
  | cons p suf ih =>
    rintro pre rfl a b c
    have hw : IntKind.wrap .i64 ((pre.length : Int) + 1) = (pre ++ [p]).length := by
      rw [wrap_i64 (by omega) (by simp [-Option.bind_some] at hl; omega)]; simp [-Option.bind_some]
    have hlt : (pre.length : Int) < (pre ++ p :: suf).length := by simp [-Option.bind_some]; omega
    rw [loopW_eq]
    generalize hL : pre ++ p :: suf = L at *
    have hg : L[pre.length]? = some p := by rw [← hL]; exact get_mid _ _ _
    have step : ∀ q, q = holds e p → F21_L0 d (.fptr (evr e)) [a, .int .i64 pre.length, b, c] h = if q = true then some (.ret, [.bool true, .int .i64 pre.length, .bool true, .bool q], h) else some (.nrm, [a, .int .i64 ((pre ++ [p]).length : Int), .bool true, .bool q], h) := by
      rintro q rfl
      rw [← hw]
      by_cases ha : app p.f p.v e = true <;> by_cases h1 : p.fr ≤ e.a5 <;> by_cases h2 : e.a5 < p.to <;>
        simp [-Option.bind_some, F21_L0, lens39 hd, ixs39 hd, hlt, hg, evL, ev5, hldr, s53, holds, ha, h1, h2]
    rw [step _ rfl]
    by_cases hp : holds e p = true
    · simp [-Option.bind_some, hp, hX]
    · have := ih (pre ++ [p]) (by simp [-Option.bind_some, ← hL]) a (.bool true) (.bool (holds e p))
      simp only [hp, Bool.false_eq_true, if_false, bs, List.any_cons, Bool.false_or] at this ⊢
      simpa [-Option.bind_some, hp] using this
theorem s21 (l : List Hld) (d : D) (e : Ev) (h : Hp) (hd : SlOf 5 hldr l d) (hl : l.length ≤ 9223372036854775807) : R 21 [d, .agg (evr e)] h = some (.bool (held l e), h) := by
  rw [e21]
  simp only [F21, pBoxF_agg, bs, Option.bind_assoc]
  rw [show D.int .i64 0 = .int .i64 (([] : List Hld).length : Int) from rfl, l21 l d e h hd hl _ (fun v => some (.bool v, h)) (fun r => by simp [-Option.bind_some]) (fun r => by simp [-Option.bind_some]) l [] rfl]
  rfl
end Go.Proofs.Ytiamjjeflmcgoaa
