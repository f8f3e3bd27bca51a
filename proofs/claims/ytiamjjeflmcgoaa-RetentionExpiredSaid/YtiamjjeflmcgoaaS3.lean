import Derived.Test.YtiamjjeflmcgoaaS2
set_option linter.unusedSimpArgs false
set_option linter.unusedVariables false
set_option linter.unnecessarySimpa false
namespace Go.Proofs.Ytiamjjeflmcgoaa
open Go.Eng Go.Pi
structure Pol where
  n : Str
  f : Str
  v : Str
  age : Int
def polr (p : Pol) : List D := [.str p.n, .str p.f, .str p.v, .int .i64 p.age]
structure Hld where
  n : Str
  f : Str
  v : Str
  fr : Int
  to : Int
def hldr (p : Hld) : List D := [.str p.n, .str p.f, .str p.v, .int .i64 p.fr, .int .i64 p.to]
/-- The first place, or -1. -/
def idx {α : Type} (pr : α → Bool) : Nat → List α → Int
  | _, [] => -1
  | k, x :: r => if pr x = true then k else idx pr (k + 1) r
theorem l50 (l : List Pol) (d : D) (fn : D) (pr : Pol → Bool) (h : Hp) (hd : SlOf 4 polr l d) (hl : l.length ≤ 9223372036854775807) (hf : ∀ x, callV R fn [.agg (polr x)] h = some (.bool (pr x), h)) {β : Type} (K : Out → Option β) (X : Int → Option β)
   (hX : ∀ v r, K (.ret, .int .i64 v :: r, h) = X v) (hY : ∀ r, K (.ext 0, r, h) = X (-1)) : ∀ (suf pre : List Pol), l = pre ++ suf → ∀ a b e f,
   (loopW (F50_L0 d fn (.int .i64 l.length)) [a, b, .int .i64 pre.length, e, f] h).bind K = X (idx pr pre.length suf) := by
  intro suf
  induction suf with
  | nil =>
    rintro pre rfl a b e f
    rw [loopW_eq]
    simp [-Option.bind_some, F50_L0, lens38 hd, hY, idx]
  | cons p suf ih =>
    rintro pre rfl a b e f
    have hw : IntKind.wrap .i64 ((pre.length : Int) + 1) = (pre ++ [p]).length := by
      rw [wrap_i64 (by omega) (by simp [-Option.bind_some] at hl; omega)]; simp [-Option.bind_some]
    have hlt : (pre.length : Int) < (pre ++ p :: suf).length := by simp [-Option.bind_some]; omega
    rw [loopW_eq]
    generalize hL : pre ++ p :: suf = L at *
    have hg : L[pre.length]? = some p := by rw [← hL]; exact get_mid _ _ _
    have hld : dLoad tab h 53 (.fptr (polr p)) = some (.agg (polr p)) := by simp [-Option.bind_some, polr]
    by_cases hp : pr p = true
    · simp [-Option.bind_some, F50_L0, ixs38 hd, hlt, hg, hld, hf, hp, hX, idx]
    · have := ih (pre ++ [p]) (by simp [-Option.bind_some, ← hL]) a (.int .i64 pre.length) (.bool true) (.bool (pr p))
      simp only [← hw] at this
      simp [-Option.bind_some, F50_L0, ixs38 hd, hlt, hg, hld, hf, hp, idx]
      simp [-Option.bind_some, hp] at this
      exact this
theorem s50 (l : List Pol) (d : D) (fn : D) (pr : Pol → Bool) (h : Hp) (hd : SlOf 4 polr l d) (hl : l.length ≤ 9223372036854775807) (hf : ∀ x, callV R fn [.agg (polr x)] h = some (.bool (pr x), h)) :
   R 50 [d, fn] h = some (.int .i64 (idx pr 0 l), h) := by
  rw [e50]
  simp only [F50, bs, lens38 hd, Option.bind_assoc]
  rw [show (0 : Int) = (([] : List Pol).length : Int) from rfl, l50 l d fn pr h hd hl hf _ (fun v => some (.int .i64 v, h)) (fun v r => by simp [-Option.bind_some]) (fun r => by simp [-Option.bind_some]) l [] rfl]
  rfl
def polI (l : List Pol) (e : Ev) : Int := idx (fun p => app p.f p.v e) 0 l
theorem s18 (l : List Pol) (d : D) (e : Ev) (h : Hp) (hd : SlOf 4 polr l d) (hl : l.length ≤ 9223372036854775807) : R 18 [d, .agg (evr e)] h = some (.int .i64 (polI l e), h) := by
  rw [e18]
  simp only [F18, pBoxF_agg, bs]
  rw [s50 l d _ (fun p => app p.f p.v e) h hd hl (fun x => by
    have hld : dLoad tab h 31 (.fptr (evr e)) = some (.agg (evr e)) := by simp [-Option.bind_some, evr]
    simp [-Option.bind_some, e51, F51, polr, s52, sApp, hld])]
  rfl
theorem l19 (l : List Pol) (d : D) (e : Ev) (h : Hp) (hd : SlOf 4 polr l d) (hl : l.length ≤ 9223372036854775807) {β : Type} (K : Out → Option β) (X : Int → Option β)
   (hX : ∀ v r, K (.ret, .int .i64 v :: r, h) = X v) (hY : ∀ r, K (.ext 0, r, h) = X (-1)) : ∀ (suf pre : List Pol), l = pre ++ suf → ∀ a b c,
   (loopW (F19_L0 d (.fptr (evr e))) [a, .int .i64 pre.length, b, c] h).bind K = X (idx (fun p => app p.f p.v e) pre.length suf) := by
  intro suf
  have hle : dLoad tab h 31 (.fptr (evr e)) = some (.agg (evr e)) := by simp [-Option.bind_some, evr]
  induction suf with
  | nil =>
    rintro pre rfl a b c
    rw [loopW_eq]
    simp [-Option.bind_some, F19_L0, lens38 hd, hY, idx]
  | cons p suf ih =>
    rintro pre rfl a b c
    have hw : IntKind.wrap .i64 ((pre.length : Int) + 1) = (pre ++ [p]).length := by
      rw [wrap_i64 (by omega) (by simp [-Option.bind_some] at hl; omega)]; simp [-Option.bind_some]
    have hlt : (pre.length : Int) < (pre ++ p :: suf).length := by simp [-Option.bind_some]; omega
    rw [loopW_eq]
    generalize hL : pre ++ p :: suf = L at *
    have hg : L[pre.length]? = some p := by rw [← hL]; exact get_mid _ _ _
    by_cases hp : app p.f p.v e = true
    · simp [-Option.bind_some, F19_L0, lens38 hd, ixs38 hd, hlt, hg, hle, polr, s53, hp, hX, idx]
    · have := ih (pre ++ [p]) (by simp [-Option.bind_some, ← hL]) a (.bool true) (.bool (app p.f p.v e))
      simp only [← hw] at this
      simp [-Option.bind_some, F19_L0, lens38 hd, ixs38 hd, hlt, hg, hle, polr, s53, hp, idx]
      simp [-Option.bind_some, hp] at this
      exact this
theorem s19 (l : List Pol) (d : D) (e : Ev) (h : Hp) (hd : SlOf 4 polr l d) (hl : l.length ≤ 9223372036854775807) : R 19 [d, .agg (evr e)] h = some (.int .i64 (polI l e), h) := by
  rw [e19]
  simp only [F19, pBoxF_agg, bs, Option.bind_assoc]
  rw [show D.int .i64 0 = .int .i64 (([] : List Pol).length : Int) from rfl, l19 l d e h hd hl _ (fun v => some (.int .i64 v, h)) (fun v r => by simp [-Option.bind_some]) (fun r => by simp [-Option.bind_some]) l [] rfl]
  rfl
end Go.Proofs.Ytiamjjeflmcgoaa
