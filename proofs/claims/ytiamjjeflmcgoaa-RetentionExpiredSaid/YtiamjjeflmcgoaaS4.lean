import Derived.Test.YtiamjjeflmcgoaaS3
set_option linter.unusedSimpArgs false
set_option linter.unusedVariables false
set_option linter.unnecessarySimpa false
namespace Go.Proofs.Ytiamjjeflmcgoaa
open Go.Eng Go.Pi
def holds (e : Ev) (p : Hld) : Bool := decide (p.fr ≤ e.a5) && decide (e.a5 < p.to) && app p.f p.v e
theorem l77 (l : List Hld) (d : D) (fn : D) (pr : Hld → Bool) (h : Hp) (hd : SlOf 5 hldr l d) (hl : l.length ≤ 9223372036854775807) (hf : ∀ x, callV R fn [.agg (hldr x)] h = some (.bool (pr x), h)) {β : Type} (K : Out → Option β) (X : Int → Option β)
   (hX : ∀ v r, K (.ret, .int .i64 v :: r, h) = X v) (hY : ∀ r, K (.ext 0, r, h) = X (-1)) : ∀ (suf pre : List Hld), l = pre ++ suf → ∀ a b e f,
   (loopW (F77_L0 d fn (.int .i64 l.length)) [a, b, .int .i64 pre.length, e, f] h).bind K = X (idx pr pre.length suf) := by
  intro suf
  induction suf with
  | nil =>
    rintro pre rfl a b e f
    rw [loopW_eq]
    simp [-Option.bind_some, F77_L0, lens39 hd, hY, idx]
  | cons p suf ih =>
    rintro pre rfl a b e f
    have hw : IntKind.wrap .i64 ((pre.length : Int) + 1) = (pre ++ [p]).length := by
      rw [wrap_i64 (by omega) (by simp [-Option.bind_some] at hl; omega)]; simp [-Option.bind_some]
    have hlt : (pre.length : Int) < (pre ++ p :: suf).length := by simp [-Option.bind_some]; omega
    rw [loopW_eq]
    generalize hL : pre ++ p :: suf = L at *
    have hg : L[pre.length]? = some p := by rw [← hL]; exact get_mid _ _ _
    have hld : dLoad tab h 56 (.fptr (hldr p)) = some (.agg (hldr p)) := by simp [-Option.bind_some, hldr]
    by_cases hp : pr p = true
    · simp [-Option.bind_some, F77_L0, ixs39 hd, hlt, hg, hld, hf, hp, hX, idx]
    · have := ih (pre ++ [p]) (by simp [-Option.bind_some, ← hL]) a (.int .i64 pre.length) (.bool true) (.bool (pr p))
      simp only [← hw] at this
      simp [-Option.bind_some, F77_L0, ixs39 hd, hlt, hg, hld, hf, hp, idx]
      simp [-Option.bind_some, hp] at this
      exact this
theorem s77 (l : List Hld) (d : D) (fn : D) (pr : Hld → Bool) (h : Hp) (hd : SlOf 5 hldr l d) (hl : l.length ≤ 9223372036854775807) (hf : ∀ x, callV R fn [.agg (hldr x)] h = some (.bool (pr x), h)) :
   R 77 [d, fn] h = some (.int .i64 (idx pr 0 l), h) := by
  rw [e77]
  simp only [F77, bs, lens39 hd, Option.bind_assoc]
  rw [show (0 : Int) = (([] : List Hld).length : Int) from rfl, l77 l d fn pr h hd hl hf _ (fun v => some (.int .i64 v, h)) (fun v r => by simp [-Option.bind_some]) (fun r => by simp [-Option.bind_some]) l [] rfl]
  rfl
theorem idx_any {α : Type} (pr : α → Bool) : ∀ (l : List α) (k : Nat), decide (0 ≤ idx pr k l) = l.any pr
  | [], k => by simp [-Option.bind_some, idx]
  | x :: r, k => by
    unfold idx
    by_cases h : pr x = true
    · simp [-Option.bind_some, h]
    · simp [-Option.bind_some, h, idx_any pr r]
theorem ev5 (e : Ev) : dFieldAddr tab 31 5 (.fptr (evr e)) = some (.fptr [.int .i64 e.a5, .int .i64 e.a6, .str e.s7, .str e.s8, e.fd]) := by simp [-Option.bind_some, evr]
theorem evL (e : Ev) (h : Hp) : dLoad tab h 31 (.fptr (evr e)) = some (.agg (evr e)) := by simp [-Option.bind_some, evr]
theorem sHold (p : Hld) (e : Ev) (h : Hp) : R 55 [.agg (hldr p), .fptr (evr e)] h = some (.bool (holds e p), h) := by
  rw [e55]
  by_cases h1 : p.fr ≤ e.a5
  · by_cases h2 : e.a5 < p.to
    · simp [-Option.bind_some, F55, hldr, evL, ev5, s52, sApp, holds, h1, h2]
    · simp [-Option.bind_some, F55, hldr, evL, ev5, s52, sApp, holds, h1, h2]
  · simp [-Option.bind_some, F55, hldr, evL, ev5, s52, sApp, holds, h1]
def held (l : List Hld) (e : Ev) : Bool := l.any (holds e)
theorem s20 (l : List Hld) (d : D) (e : Ev) (h : Hp) (hd : SlOf 5 hldr l d) (hl : l.length ≤ 9223372036854775807) : R 20 [d, .agg (evr e)] h = some (.bool (held l e), h) := by
  rw [e20]
  simp only [F20, pBoxF_agg, bs]
  rw [e54]
  simp only [F54, bs]
  rw [s77 l d _ (holds e) h hd hl (fun x => by simp [-Option.bind_some, sHold])]
  simp [-Option.bind_some, held, idx_any]
end Go.Proofs.Ytiamjjeflmcgoaa
