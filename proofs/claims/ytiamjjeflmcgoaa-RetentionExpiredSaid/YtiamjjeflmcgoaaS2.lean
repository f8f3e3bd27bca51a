import Derived.Test.YtiamjjeflmcgoaaS1
set_option linter.unusedSimpArgs false
set_option linter.unusedVariables false
set_option linter.unnecessarySimpa false
namespace Go.Proofs.Ytiamjjeflmcgoaa
open Go.Eng Go.Pi
theorem l76 (l : List (Str × Str)) (d : D) (n : Str) (h : Hp) (hd : SlOf 2 fld l d) (hl : l.length ≤ 9223372036854775807) {β : Type} (K : Out → Option β) (X : Str → Option β) (Y : Option β)
   (hX : ∀ v r, K (.ret, .str v :: .bool true :: r, h) = X v) (hY : ∀ r, K (.ext 0, r, h) = Y) : ∀ (suf pre : List (Str × Str)), l = pre ++ suf → ∀ a b e f,
   (loopW (F76_L0 d (.str n)) [a, b, .int .i64 pre.length, e, f] h).bind K = match getF suf n with | some v => X v | none => Y := by
  intro suf
  induction suf with
  | nil =>
    rintro pre rfl a b e f
    rw [loopW_eq]
    simp [-Option.bind_some, F76_L0, lens29 hd, hY, getF]
  | cons p suf ih =>
    rintro pre rfl a b e f
    have hw : IntKind.wrap .i64 ((pre.length : Int) + 1) = (pre ++ [p]).length := by
      rw [wrap_i64 (by omega) (by simp [-Option.bind_some] at hl; omega)]; simp [-Option.bind_some]
    have hlt : (pre.length : Int) < (pre ++ p :: suf).length := by simp [-Option.bind_some]; omega
    rw [loopW_eq]
    generalize hL : pre ++ p :: suf = L at *
    have hg : L[pre.length]? = some p := by rw [← hL]; exact get_mid _ _ _
    by_cases hp : p.1 = n
    · simp [-Option.bind_some, F76_L0, lens29 hd, ixs29 hd, hlt, hg, fld, hp, hX, getF]
    · have := ih (pre ++ [p]) (by simp [-Option.bind_some, ← hL]) a b (.bool true) (.bool (p.1 == n))
      simp only [← hw] at this
      simp [-Option.bind_some, F76_L0, lens29 hd, ixs29 hd, hlt, hg, fld, hp, getF]
      simp [-Option.bind_some, fld, getF] at this
      exact this
theorem s76 (l : List (Str × Str)) (d : D) (n : Str) (h : Hp) (hd : SlOf 2 fld l d) (hl : l.length ≤ 9223372036854775807) : R 76 [d, .str n] h = some (getD' l n, h) := by
  rw [e76]
  simp only [F76, bs, lens29 hd, Option.bind_assoc]
  rw [show (0 : Int) = (([] : List (Str × Str)).length : Int) from rfl, l76 l d n h hd hl _ (fun v => some (.tup [.str v, .bool true], h)) (some (.tup [.str [], .bool false], h)) (fun v r => by simp [-Option.bind_some]) (fun r => by simp [-Option.bind_some]) l [] rfl]
  unfold getD'
  cases getF l n <;> rfl
/-- A line. -/
structure Lin where
  off : Int
  len : Int
  txt : Str
def linr (l : Lin) : List D := [.int .i64 l.off, .int .i64 l.len, .str l.txt]
/-- An event. -/
structure Ev where
  a0 : Int
  a1 : Int
  a2 : Int
  a3 : Int
  ls : List Lin
  ld : D
  a5 : Int
  a6 : Int
  s7 : Str
  s8 : Str
  fs : List (Str × Str)
  fd : D
  hfd : SlOf 2 fld fs fd
  hl : fs.length ≤ 9223372036854775807
  hld : SlOf 3 linr ls ld
  hll : ls.length ≤ 9223372036854775807
def evr (e : Ev) : List D := [.int .i64 e.a0, .int .i64 e.a1, .int .i64 e.a2, .int .i64 e.a3, e.ld, .int .i64 e.a5, .int .i64 e.a6, .str e.s7, .str e.s8, e.fd]
/-- Does a field of this value apply? -/
def app (f v : Str) (e : Ev) : Bool := f == [] || getF e.fs f == some v
theorem s53 (f v : Str) (e : Ev) (h : Hp) : R 53 [.str f, .str v, .agg (evr e)] h = some (.bool (app f v e), h) := by
  rw [e53]
  simp [-Option.bind_some, F53, evr, s76 _ _ _ _ e.hfd e.hl, getD', app]
  by_cases h0 : f = []
  · simp [-Option.bind_some, h0]
  · cases hg : getF e.fs f <;> simp [-Option.bind_some, h0]
theorem s75 (n : Str) (e : Ev) (h : Hp) : R 75 [.agg (evr e), .str n] h = some (getD' e.fs n, h) := by
  rw [e75]
  simp [-Option.bind_some, F75, evr, s70 _ _ _ _ e.hfd e.hl, getD']
def appFn (f v : Str) : D := if f = [] then .fn (.func 73) [] [] else .fn (.func 74) [] [.fptr [.str f], .fptr [.str v]]
theorem s52 (f v : Str) (h : Hp) : R 52 [.str f, .str v] h = some (appFn f v, h) := by
  rw [e52]
  simp [-Option.bind_some, F52, appFn]
  by_cases h0 : f = [] <;> simp [-Option.bind_some, h0]
theorem sApp (f v : Str) (e : Ev) (h : Hp) : callV R (appFn f v) [.agg (evr e)] h = some (.bool (app f v e), h) := by
  unfold appFn app
  by_cases h0 : f = []
  · simp [-Option.bind_some, h0, e73, F73]
  · simp [-Option.bind_some, h0, e74, F74]
    have hld : dLoad tab h 31 (.fptr (evr e)) = some (.agg (evr e)) := by simp [-Option.bind_some, evr]
    rw [hld]
    simp [-Option.bind_some, s75, getD']
    cases hg : getF e.fs f <;> simp [-Option.bind_some, h0]
end Go.Proofs.Ytiamjjeflmcgoaa
