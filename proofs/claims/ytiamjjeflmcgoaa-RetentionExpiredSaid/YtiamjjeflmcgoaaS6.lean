import Derived.Test.YtiamjjeflmcgoaaS5
set_option linter.unusedSimpArgs false
set_option linter.unusedVariables false
set_option linter.unnecessarySimpa false
namespace Go.Proofs.Ytiamjjeflmcgoaa
open Go.Eng Go.Pi
theorem s49 (n : Int) (h : Hp) : R 49 [.int .i64 n] h = some (.bool (decide (0 ≤ n ∧ n ≤ 253402300799999)), h) := by
  rw [e49]; simp [-Option.bind_some, F49]
  by_cases h0 : 0 ≤ n <;> simp [-Option.bind_some, h0]
theorem idx_get {α : Type} (pr : α → Bool) : ∀ (l : List α) (k : Nat), idx pr k l = -1 ∨ ∃ j, j < l.length ∧ idx pr k l = ((k + j : Nat) : Int)
  | [], k => .inl rfl
  | x :: r, k => by
    unfold idx
    by_cases h : pr x = true
    · right; exact ⟨0, by simp [-Option.bind_some], by simp [-Option.bind_some, h]⟩
    · rcases idx_get pr r (k + 1) with h1 | ⟨j, h1, h2⟩
      · left; simp [-Option.bind_some, h, h1]
      · right; exact ⟨j + 1, by simp [-Option.bind_some]; omega, by simp [-Option.bind_some, h, h2]; omega⟩
/-- What expires. -/
def expi (ps : List Pol) (hs : List Hld) (now : Int) (e : Ev) : Option Str := match ps[(polI ps e).toNat]? with
  | some p => if 0 ≤ polI ps e ∧ 0 ≤ now ∧ now ≤ 253402300799999 ∧ ¬ (IntKind.wrap .i64 (now - p.age) ≤ e.a5) ∧ held hs e = false then some p.n else none
  | none => none
def expD (o : Option Str) : D := .tup [.str (o.getD []), .bool o.isSome]
theorem s16 (ps : List Pol) (dp : D) (hs : List Hld) (dh : D) (now : Int) (e : Ev) (h : Hp) (hdp : SlOf 4 polr ps dp) (hlp : ps.length ≤ 9223372036854775807) (hdh : SlOf 5 hldr hs dh) (hlh : hs.length ≤ 9223372036854775807) :
    R 16 [dp, dh, .int .i64 now, .agg (evr e)] h = some (expD (expi ps hs now e), h) := by
  rw [e16]
  rcases idx_get (fun p => app p.f p.v e) ps 0 with hi | ⟨j, hj, hi⟩
  · replace hi : polI ps e = -1 := hi
    simp [-Option.bind_some, F16, evL, s18 ps dp e h hdp hlp, hi, expi, expD]
    cases ps[0]? <;> simp [-Option.bind_some]
  · replace hi : polI ps e = ((j : Nat) : Int) := by rw [show polI ps e = _ from hi]; simp [-Option.bind_some]
    have hg : ps[j]? = some ps[j] := List.getElem?_eq_getElem hj
    generalize ps[j] = p at hg
    have hn : ¬ ((j : Int) < 0) := by omega
    by_cases h0 : 0 ≤ now <;> by_cases h1 : now ≤ 253402300799999 <;> by_cases h2 : IntKind.wrap .i64 (now - p.age) ≤ e.a5 <;> cases h3 : held hs e <;>
      simp [-Option.bind_some, F16, evL, ev5, s18 ps dp e h hdp hlp, s49, s20 hs dh e h hdh hlh, ixs38 hdp, hi, hg, polr, expi, expD, h0, h1, h2, h3, hn]
theorem s17 (ps : List Pol) (dp : D) (hs : List Hld) (dh : D) (now : Int) (e : Ev) (h : Hp) (hdp : SlOf 4 polr ps dp) (hlp : ps.length ≤ 9223372036854775807) (hdh : SlOf 5 hldr hs dh) (hlh : hs.length ≤ 9223372036854775807) :
    R 17 [dp, dh, .int .i64 now, .agg (evr e)] h = some (expD (expi ps hs now e), h) := by
  rw [e17]
  rcases idx_get (fun p => app p.f p.v e) ps 0 with hi | ⟨j, hj, hi⟩
  · replace hi : polI ps e = -1 := hi
    by_cases h0 : now < 0 <;> by_cases h1 : 253402300799999 < now <;>
      simp [-Option.bind_some, F17, evL, s19 ps dp e h hdp hlp, hi, expi, expD, h0, h1] <;> cases ps[0]? <;> simp [-Option.bind_some]
  · replace hi : polI ps e = ((j : Nat) : Int) := by rw [show polI ps e = _ from hi]; simp [-Option.bind_some]
    have hg : ps[j]? = some ps[j] := List.getElem?_eq_getElem hj
    generalize ps[j] = p at hg
    have hn : ¬ ((j : Int) < 0) := by omega
    by_cases h0 : now < 0
    · have h0' : ¬ 0 ≤ now := by omega
      simp [-Option.bind_some, F17, evL, ev5, s19 ps dp e h hdp hlp, s21 hs dh e h hdh hlh, ixs38 hdp, hi, hg, polr, expi, expD, h0, h0', hn]
    · have h0' : 0 ≤ now := by omega
      by_cases h1 : now ≤ 253402300799999
      · have h1' : ¬ 253402300799999 < now := by omega
        by_cases h2 : IntKind.wrap .i64 (now - p.age) ≤ e.a5 <;> cases h3 : held hs e <;>
          simp [-Option.bind_some, F17, evL, ev5, s19 ps dp e h hdp hlp, s21 hs dh e h hdh hlh, ixs38 hdp, hi, hg, polr, expi, expD, h0, h0', h1, h1', h2, h3, hn]
      · have h1' : 253402300799999 < now := by omega
        simp [-Option.bind_some, F17, evL, ev5, s19 ps dp e h hdp hlp, s21 hs dh e h hdh hlh, ixs38 hdp, hi, hg, polr, expi, expD, h0, h0', h1, h1', hn]
end Go.Proofs.Ytiamjjeflmcgoaa
