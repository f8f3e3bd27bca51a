import Derived.Test.YtiamjjeflmcgoaaT9
set_option linter.unusedSimpArgs false
set_option linter.unusedVariables false
set_option linter.unnecessarySimpa false
namespace Go.Proofs.Ytiamjjeflmcgoaa
open Go.Eng Go.Pi
abbrev Str := List UInt8
def fld (p : Str × Str) : List D := [.str p.1, .str p.2]
/-- The value of the first field of a name. -/
def getF (l : List (Str × Str)) (n : Str) : Option Str := (l.find? fun p => p.1 == n).map (·.2)
def getD' (l : List (Str × Str)) (n : Str) : D := .tup [.str ((getF l n).getD []), .bool (getF l n).isSome]
theorem l70 (l : List (Str × Str)) (d : D) (n : Str) (h : Hp) (hd : SlOf 2 fld l d) (hl : l.length ≤ 9223372036854775807) {β : Type} (K : Out → Option β) (X : Str → Option β) (Y : Option β)
   (hX : ∀ v r, K (.ret, .str v :: .bool true :: r, h) = X v) (hY : ∀ r, K (.ext 0, r, h) = Y) : ∀ (suf pre : List (Str × Str)), l = pre ++ suf → ∀ a b c e f,
   (loopW (F70_L0 (.str n) d (.int .i64 l.length)) [a, b, c, .int .i64 pre.length, e, f] h).bind K = match getF suf n with | some v => X v | none => Y := by
  intro suf
  induction suf with
  | nil =>
    rintro pre rfl a b c e f
    rw [loopW_eq]
    simp [-Option.bind_some, F70_L0, hY, getF]
  | cons p suf ih =>
    rintro pre rfl a b c e f
    have hw : IntKind.wrap .i64 ((pre.length : Int) + 1) = (pre ++ [p]).length := by
      rw [wrap_i64 (by omega) (by simp [-Option.bind_some] at hl; omega)]; simp [-Option.bind_some]
    have hlt : (pre.length : Int) < (pre ++ p :: suf).length := by simp [-Option.bind_some]; omega
    rw [loopW_eq]
    generalize hL : pre ++ p :: suf = L at *
    have hg : L[pre.length]? = some p := by rw [← hL]; exact get_mid _ _ _
    by_cases hp : p.1 = n
    · simp [-Option.bind_some, F70_L0, ixs29 hd, hlt, hg, fld, hp, hX, getF]
    · have := ih (pre ++ [p]) (by simp [-Option.bind_some, ← hL]) a b (.fptr (fld p)) (.bool true) (.bool (p.1 == n))
      simp only [← hw] at this
      simp [-Option.bind_some, F70_L0, ixs29 hd, hlt, hg, fld, hp, getF]
      simp [-Option.bind_some, fld, getF] at this
      exact this
theorem s70 (l : List (Str × Str)) (d : D) (n : Str) (h : Hp) (hd : SlOf 2 fld l d) (hl : l.length ≤ 9223372036854775807) : R 70 [d, .str n] h = some (getD' l n, h) := by
  rw [e70]
  simp only [F70, bs, lens29 hd, Option.bind_assoc]
  rw [show (0 : Int) = (([] : List (Str × Str)).length : Int) from rfl, l70 l d n h hd hl _ (fun v => some (.tup [.str v, .bool true], h)) (some (.tup [.str [], .bool false], h)) (fun v r => by simp [-Option.bind_some]) (fun r => by simp [-Option.bind_some]) l [] rfl]
  unfold getD'
  cases getF l n <;> rfl
end Go.Proofs.Ytiamjjeflmcgoaa
