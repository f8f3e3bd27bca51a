/- Laws, on plain data, about functions that the statement reaches. -/
import Derived.Test.YtjhmicmbbgkhpaaDoorL3
set_option linter.unusedSimpArgs false
set_option linter.unusedVariables false
set_option linter.unnecessarySimpa false
set_option maxRecDepth 100000
namespace Go.Proofs.YtjhmicmbbgkhpaaDoor
open Go.Eng Go.Pi
theorem s1043 (e : Ev) (h : Hp) (hf : e.fs.length ≤ 20) : R fn1043 [.agg (evr e)] h = some (.int .i64 (evE e), h) := by
  suffices Wp (R fn1043 [.agg (evr e)] h) (fun p => p = (.int .i64 (evE e), h)) by
    obtain ⟨p, h1, rfl⟩ := this
    exact h1
  have sc : ∀ (g : Hp) (v : Int), h.length ≤ g.length → (∀ q, q < h.length → g[q]? = h[q]?) → scope h g (.int .i64 v) = some (.int .i64 v, h) := fun g v h1 h2 => scope_eq (by simp [-Option.bind_some]) (.int _ _) h1 h2
  have k1 := s1051 e.a5 0 253402300799999 h
  rw [e1043]
  simp only [F1043, pBoxF_agg, bs, Option.bind_assoc, evL, s1047, mkRes_one]
  have q5 : dFieldAddr tab ty31 5 (.fptr (evr e)) = some (.fptr [.int .i64 e.a5, .int .i64 e.a6, .str e.s7, .str e.s8, e.fd]) := id rfl
  have q6 : dFieldAddr tab ty31 6 (.fptr (evr e)) = some (.fptr [.int .i64 e.a6, .str e.s7, .str e.s8, e.fd]) := id rfl
  have q7 : dFieldAddr tab ty31 7 (.fptr (evr e)) = some (.fptr [.str e.s7, .str e.s8, e.fd]) := id rfl
  have q8 : dFieldAddr tab ty31 8 (.fptr (evr e)) = some (.fptr [.str e.s8, e.fd]) := id rfl
  have q9 : dFieldAddr tab ty31 9 (.fptr (evr e)) = some (.fptr [e.fd]) := id rfl
  unfold evE
  generalize hb1 : plB e = b1
  generalize hb2 : (decide (0 ≤ e.a5) && decide (e.a5 ≤ 253402300799999)) = b2 at k1 ⊢
  have first : ∀ {β : Type} (f : D → D × Hp → D → Option β) (Q : β → Prop), (∀ x p t, p.2 = h → t = .bool (!b1 || !b2) → Wp (f x p t) Q) → Wp ((dUn .not (.bool b1)).bind fun t9 => (gd t9 false (some (.fptr [.int .i64 e.a5, .int .i64 e.a6, .str e.s7, .str e.s8, e.fd]))).bind fun t11 => (gd t9 false (dLoad tab h ty3 t11)).bind fun t12 => (gdW t9 false h (R fn1051 [t12, .int .i64 0, .int .i64 253402300799999] h)).bind fun p13 => (gd t9 false (dUn .not p13.1)).bind fun t14 => (dPick t9 (.bool true) t14).bind fun t15 => f t9 p13 t15) Q := fun f Q hk => by
    cases b1
    · simp only [dUn_not, Bool.not_false, bs, gd_bool, gdW_bool, reduceCtorEq, if_false, dPick_bool, if_true]
      exact hk _ _ _ rfl rfl
    · simp only [dUn_not, Bool.not_true, bs, gd_bool, gdW_bool, if_true, ld3, k1, dPick_bool, Bool.false_eq_true, if_false]
      exact hk _ _ _ rfl (by simp [-Option.bind_some])
  simp only [q5, q6, q7, q8, q9]
  refine first _ _ fun x p t hp ht => ?_
  subst ht
  obtain ⟨px, p⟩ := p
  simp only at hp
  subst hp
  clear first
  simp only [dIf_bool]
  by_cases c1 : (!b1 || !b2) = true
  · simp only [c1, if_true, sc _ _ (Nat.le_refl _) (fun _ _ => rfl)]
    exact .some rfl
  simp only [c1, if_false, Bool.false_eq_true, ld3, ld9, ld29, bs, dBin_lss, len9, dBin_gtr, dBin_rem, dBin_neq]
  by_cases c2 : e.a6 < 1
  · simp only [c2, true_or, decide_true, if_true, gd_bool, reduceCtorEq, if_false, Bool.true_eq_false, bs, dPick_bool, dIf_bool, sc _ _ (Nat.le_refl _) (fun _ _ => rfl)]
    exact .some rfl
  have c20 : ¬ e.a6 = 0 := by omega
  by_cases c3n : ¬ Int.tmod 5040 e.a6 = 0
  · have c3 := c3n
    simp only [c2, c20, c3, ne_eq, not_false_eq_true, or_true, decide_true, decide_false, if_true, gd_bool, if_false, Bool.false_eq_true, bs, dPick_bool, dIf_bool, ld3, dBin_rem, dBin_neq, sc _ _ (Nat.le_refl _) (fun _ _ => rfl)]
    exact .some rfl
  have c3 : Int.tmod 5040 e.a6 = 0 := Decidable.not_not.1 c3n
  simp only [c2, c20, c3, ne_eq, not_true, or_self, decide_false, if_true, gd_bool, if_false, Bool.false_eq_true, bs, dPick_bool, dIf_bool, ld3, dBin_rem, dBin_neq, s1048]
  generalize hL : linesE e 2000 = L
  by_cases c4n : ¬ L = 0
  · have c4 := c4n
    simp only [c4, ne_eq, not_false_eq_true, decide_true, if_true, sc _ _ (Nat.le_refl _) (fun _ _ => rfl)]
    exact .some rfl
  have c4 : L = 0 := Decidable.not_not.1 c4n
  subst c4
  simp only [ne_eq, not_true, decide_false, Bool.false_eq_true, if_false, if_true]
  by_cases c5 : 32 < e.s7.length
  · have c5' : (32 : Int) < (e.s7.length : Int) := by omega
    simp only [c5, c5', true_or, decide_true, if_true, gd_bool, reduceCtorEq, if_false, Bool.true_eq_false, bs, dPick_bool, dIf_bool, sc _ _ (Nat.le_refl _) (fun _ _ => rfl)]
    exact .some rfl
  have c5' : ¬ (32 : Int) < (e.s7.length : Int) := by omega
  by_cases c6 : 32 < e.s8.length
  · have c6' : (32 : Int) < (e.s8.length : Int) := by omega
    simp only [c5, c5', c6, c6', or_true, decide_true, decide_false, if_true, gd_bool, if_false, Bool.false_eq_true, bs, ld9, len9, dBin_gtr, dPick_bool, sc _ _ (Nat.le_refl _) (fun _ _ => rfl)]
    exact .some rfl
  have c6' : ¬ (32 : Int) < (e.s8.length : Int) := by omega
  obtain ⟨d', h', hs, hl', hb', hr'⟩ := s1052 e.fs e.fd p e.hfd hf
  simp only [c5, c5', c6, c6', or_self, decide_false, if_true, gd_bool, if_false, Bool.false_eq_true, bs, ld9, len9, dBin_gtr, dPick_bool, dIf_bool, hs, dExtract_tup, List.getElem?_cons_zero, List.getElem?_cons_succ]
  have hsl := sortF_len e.fs
  generalize hS : sortF e.fs = S at hs hr' hsl
  obtain ⟨v, s⟩ := S
  simp only at hr' hsl ⊢
  by_cases c7n : ¬ v = 0
  · have c7 := c7n
    simp only [c7, ne_eq, not_false_eq_true, decide_true, if_true, sc _ _ hl' hb', dIf_bool, dBin_neq, bs]
    exact .some rfl
  have c7 : v = 0 := Decidable.not_not.1 c7n
  subst c7
  have hr := hr' rfl
  have hfd : RdF h' e.fs e.fd := .inl e.hfd
  simp only [ne_eq, not_true, decide_false, Bool.false_eq_true, if_false, dIf_bool, dBin_neq, s1053 s e.fs d' e.fd h' hr hfd (by omega), bs, dUn_not, s1054 s d' h' hr (by omega)]
  by_cases c8n : ¬ s = e.fs
  · have c8 := c8n
    simp only [c8, not_false_eq_true, decide_false, Bool.not_false, if_true, sc _ _ hl' hb', dIf_bool, dBin_neq, bs]
    exact .some rfl
  have c8 : s = e.fs := Decidable.not_not.1 c8n
  subst c8
  simp only [not_true, decide_true, Bool.not_true, if_false, Bool.false_eq_true, sc _ _ hl' hb', dIf_bool, dBin_neq, bs]
  split
  · exact .some rfl
  · exact .some rfl
/-- What CheckItem of package event gives. -/
def itE (i : It) : Int :=
  if i.r = [] then evE i.e
  else if 32 < i.r.length then 3
  else if plB i.e = false then 2
  else if linesE i.e 60000 = 9 ∨ linesE i.e 60000 = 4 ∨ linesE i.e 60000 = 19 then linesE i.e 60000
  else if i.e.a5 ≠ 0 ∨ i.e.a6 ≠ 0 ∨ i.e.s7 ≠ [] ∨ i.e.s8 ≠ [] ∨ i.e.fs.length ≠ 0 ∨ (i.e.ls.any fun p => !(p.txt == [])) = true then 19 else 0
theorem s1042 (i : It) (h : Hp) (hf : i.e.fs.length ≤ 20) : R fn1042 [.agg (itr i)] h = some (.int .i64 (itE i), h) := by
  have hbx : boxN 10 (.agg (evr i.e)) = some (.fptr (evr i.e)) := boxN_agg 10 _ rfl
  have q4 : dFieldAddr tab ty31 4 (.fptr (evr i.e)) = some (.fptr [i.e.ld, .int .i64 i.e.a5, .int .i64 i.e.a6, .str i.e.s7, .str i.e.s8, i.e.fd]) := id rfl
  have q5 : dFieldAddr tab ty31 5 (.fptr (evr i.e)) = some (.fptr [.int .i64 i.e.a5, .int .i64 i.e.a6, .str i.e.s7, .str i.e.s8, i.e.fd]) := id rfl
  have q6 : dFieldAddr tab ty31 6 (.fptr (evr i.e)) = some (.fptr [.int .i64 i.e.a6, .str i.e.s7, .str i.e.s8, i.e.fd]) := id rfl
  have q7 : dFieldAddr tab ty31 7 (.fptr (evr i.e)) = some (.fptr [.str i.e.s7, .str i.e.s8, i.e.fd]) := id rfl
  have q8 : dFieldAddr tab ty31 8 (.fptr (evr i.e)) = some (.fptr [.str i.e.s8, i.e.fd]) := id rfl
  have q9 : dFieldAddr tab ty31 9 (.fptr (evr i.e)) = some (.fptr [i.e.fd]) := id rfl
  rw [e1042]
  simp only [F1042, pBoxF_agg, bs, itF0, itF1, itL0, evL, hbx, dBin_seql, mkRes_one]
  unfold itE
  by_cases c0 : i.r = []
  · simp only [c0, beq_self_eq_true, dIf_bool, if_true, s1043 i.e h hf, bs]
  have c0' : (i.r == []) = false := by simpa [-Option.bind_some] using c0
  simp only [c0, c0', dIf_bool, Bool.false_eq_true, if_false, len9, bs, dBin_gtr]
  by_cases c1 : 32 < i.r.length
  · have c1' : (32 : Int) < (i.r.length : Int) := by omega
    simp only [c1, c1', decide_true, if_true]
  have c1' : ¬ (32 : Int) < (i.r.length : Int) := by omega
  simp only [c1, c1', decide_false, Bool.false_eq_true, if_false, s1047, bs, dUn_not]
  cases hb : plB i.e
  · simp only [Bool.not_false, dIf_bool, if_true]
  simp only [Bool.not_true, dIf_bool, Bool.false_eq_true, Bool.true_eq_false, if_false, s1048, bs, dBin_eql]
  generalize linesE i.e 60000 = L
  by_cases c2 : L = 9
  · subst c2
    simp [-Option.bind_some]
  by_cases c3 : L = 4
  · subst c3
    simp [-Option.bind_some]
  by_cases c4 : L = 19
  · subst c4
    simp [-Option.bind_some]
  simp only [c2, c3, c4, or_self, decide_false, gd_bool, if_true, bs, dPick_bool, dIf_bool, Bool.false_eq_true, if_false, q5, q6, q7, q8, q9, q4, ld3, ld9, ld29, ld28, dBin_neq]
  have hfl : (i.e.fs.length : Int) = 0 ↔ i.e.fs.length = 0 := by omega
  have h49 := s1049 i.e.ls i.e.ld h i.e.hld i.e.hll
  generalize (i.e.ls.any fun p => !(p.txt == [])) = bb at h49 ⊢
  by_cases d1n : ¬ i.e.a5 = 0
  · simp only [c2, c3, c4, dBin_eql, d1n, ne_eq, not_true, not_false_eq_true, true_or, or_true, false_or, or_false, decide_true, decide_false, gd_bool, gdW_bool, gd_und, gdW_und, reduceCtorEq, if_true, if_false, Bool.false_eq_true, Bool.true_eq_false, bs, dPick_bool, dIf_bool, ld3, ld9, ld29, ld28, dBin_neq, dBin_sneq, lens29 i.e.hfd, hfl, h49, beq_self_eq_true, Bool.not_true, Bool.not_false, or_self]
  have d1 : i.e.a5 = 0 := Decidable.not_not.1 d1n
  by_cases d2n : ¬ i.e.a6 = 0
  · simp only [c2, c3, c4, dBin_eql, d1, d2n, ne_eq, not_true, not_false_eq_true, true_or, or_true, false_or, or_false, decide_true, decide_false, gd_bool, gdW_bool, gd_und, gdW_und, reduceCtorEq, if_true, if_false, Bool.false_eq_true, Bool.true_eq_false, bs, dPick_bool, dIf_bool, ld3, ld9, ld29, ld28, dBin_neq, dBin_sneq, lens29 i.e.hfd, hfl, h49, beq_self_eq_true, Bool.not_true, Bool.not_false, or_self]
  have d2 : i.e.a6 = 0 := Decidable.not_not.1 d2n
  by_cases d3n : ¬ i.e.s7 = []
  · have d3b : (i.e.s7 == []) = false := by simpa [-Option.bind_some] using d3n
    simp only [c2, c3, c4, dBin_eql, d1, d2, d3n, d3b, ne_eq, not_true, not_false_eq_true, true_or, or_true, false_or, or_false, decide_true, decide_false, gd_bool, gdW_bool, gd_und, gdW_und, reduceCtorEq, if_true, if_false, Bool.false_eq_true, Bool.true_eq_false, bs, dPick_bool, dIf_bool, ld3, ld9, ld29, ld28, dBin_neq, dBin_sneq, lens29 i.e.hfd, hfl, h49, beq_self_eq_true, Bool.not_true, Bool.not_false, or_self]
  have d3 : i.e.s7 = [] := Decidable.not_not.1 d3n
  by_cases d4n : ¬ i.e.s8 = []
  · have d4b : (i.e.s8 == []) = false := by simpa [-Option.bind_some] using d4n
    simp only [c2, c3, c4, dBin_eql, d1, d2, d3, d4n, d4b, ne_eq, not_true, not_false_eq_true, true_or, or_true, false_or, or_false, decide_true, decide_false, gd_bool, gdW_bool, gd_und, gdW_und, reduceCtorEq, if_true, if_false, Bool.false_eq_true, Bool.true_eq_false, bs, dPick_bool, dIf_bool, ld3, ld9, ld29, ld28, dBin_neq, dBin_sneq, lens29 i.e.hfd, hfl, h49, beq_self_eq_true, Bool.not_true, Bool.not_false, or_self]
  have d4 : i.e.s8 = [] := Decidable.not_not.1 d4n
  by_cases d5n : ¬ i.e.fs.length = 0
  · simp only [c2, c3, c4, dBin_eql, d1, d2, d3, d4, d5n, ne_eq, not_true, not_false_eq_true, true_or, or_true, false_or, or_false, decide_true, decide_false, gd_bool, gdW_bool, gd_und, gdW_und, reduceCtorEq, if_true, if_false, Bool.false_eq_true, Bool.true_eq_false, bs, dPick_bool, dIf_bool, ld3, ld9, ld29, ld28, dBin_neq, dBin_sneq, lens29 i.e.hfd, hfl, h49, beq_self_eq_true, Bool.not_true, Bool.not_false, or_self]
  have d5 : i.e.fs.length = 0 := Decidable.not_not.1 d5n
  simp only [c2, c3, c4, dBin_eql, d1, d2, d3, d4, d5, ne_eq, not_true, not_false_eq_true, true_or, or_true, false_or, or_false, decide_true, decide_false, gd_bool, gdW_bool, gd_und, gdW_und, reduceCtorEq, if_true, if_false, Bool.false_eq_true, Bool.true_eq_false, bs, dPick_bool, dIf_bool, ld3, ld9, ld29, ld28, dBin_neq, dBin_sneq, lens29 i.e.hfd, hfl, h49, beq_self_eq_true, Bool.not_true, Bool.not_false, or_self]
  cases bb <;> simp [-Option.bind_some, h49]
theorem cmpB_neg : ∀ (a b : Str), Lib.compareBytes a b = - Lib.compareBytes b a
  | [], [] => rfl
  | [], _ :: _ => rfl
  | _ :: _, [] => rfl
  | x :: a, y :: b => by
    have ih := cmpB_neg a b
    simp only [Lib.compareBytes]
    by_cases h1 : x < y
    · have h2 : ¬ y < x := by
        have := UInt8.lt_iff_toNat_lt.1 h1
        intro hh
        have := UInt8.lt_iff_toNat_lt.1 hh
        omega
      simp [-Option.bind_some, h1, h2]
    · by_cases h2 : y < x
      · simp [-Option.bind_some, h1, h2]
      · simp [-Option.bind_some, h1, h2, ih]
theorem asc_srt {l : List (Str × Str)} (h : Asc l) : srt l = l := by
  have hd : ∀ j, dn cF 0 j l = l := fun j => by
    cases j with
    | zero => rfl
    | succ j =>
      unfold dn
      split
      · rename_i x y hx hy
        split
        · rename_i hc
          exfalso
          have h1 := (h j y x hy hx).1
          have h2 := (cmpB_lt y.1 x.1).2 h1
          have h3 := cmpB_neg x.1 y.1
          have h4 := hc.2
          unfold cF at h4
          omega
        · rfl
      · rfl
  have hi : ∀ n i, isr cF 0 i n l = l := fun n => by
    induction n with
    | zero => intro i; rfl
    | succ n ih => intro i; unfold isr; rw [hd]; exact ih _
  exact hi _ _
theorem asc_adj : ∀ {l : List (Str × Str)}, Asc l → adjB l = false
  | [], _ => rfl
  | [_], _ => rfl
  | x :: y :: r, h => by
    unfold adjB
    have h0 := (h 0 x y rfl rfl).2
    have h1 : (y.1 == x.1) = false := by simp [-Option.bind_some]; exact fun hh => h0 hh.symm
    rw [h1, Bool.false_or]
    exact asc_adj fun i p q hp hq => h (i + 1) p q hp hq
theorem asc_sort {l : List (Str × Str)} (h : Asc l) (hl : l.length ≤ 32) (hn : ∀ p ∈ l, fnameOK p.1 = true) : sortF l = (0, l) := by
  have h32 : ¬ 32 < l.length := by omega
  have ha : l.all (fun p => fnameOK p.1) = true := List.all_eq_true.2 hn
  simp only [sortF, h32, if_false, ha, if_true, asc_srt h, asc_adj h, Bool.false_eq_true]
/-- A tally. -/
structure Tal where
  h : Int
  r : Str
  n : Int
/-- All of the first occur in the second, in order. -/
def gr : List Ev → List Ev → Bool
  | [], _ => true
  | _ :: _, [] => false
  | x :: a, y :: b => if sameE x y = true then gr a b else gr (x :: a) b
/-- A sum over tallies. -/
def sm (f : Tal → Int) : List Tal → Int
  | [] => 0
  | t :: r => f t + sm f r
theorem it_good {hst fil fr : Int} {i : It} (hi : ItOK hst fil fr i) (h0 : 0 ≤ hst) (h9 : hst ≤ 999) (f0 : 0 ≤ fil) (f9 : fil ≤ 1000) (r0 : 0 ≤ fr) (r9 : fr ≤ 50000) : (i.r = [] ∧ EvGood i.e) ∨ SkGood i := by
  have c1 := chain_le _ _ _ hi.ch
  have hn3 := hi.n3
  have hn1 := hi.n1
  have pl : PlOK i.e := ⟨by rw [hi.host]; exact h0, by rw [hi.host]; exact h9, by rw [hi.file]; exact f0, by rw [hi.file]; omega, by rw [hi.fr]; omega, by rw [hi.fr]; omega, by omega⟩
  have ch : chain i.e.a2 i.e.ls i.e.a3 := by rw [hi.fr]; exact hi.ch
  by_cases hr : i.r = []
  · left
    obtain ⟨e1, e2, e3, e4, e5, e6, e7, e8⟩ := hi.ev hr
    have hfl : i.e.fs.length ≤ 4 := by
      have := e7.1.length_le
      simpa [-Option.bind_some] using this
    exact ⟨hr, pl, e1, e2, e3, e4, hi.wt hr, hn1, by omega, ch, (show ∀ s ∈ lt98_5, s.length ≤ 32 by decide) _ e5, (show ∀ s ∈ lt98_6, s.length ≤ 32 by decide) _ e6, by omega, fn_of e7.1, asc_of e7.1, fun p hp => by have := e7.2 p hp; omega⟩
  · right
    obtain ⟨e1, e2, e3, e4, e5, e6, e7⟩ := hi.sk hr
    exact ⟨hr, (show ∀ s ∈ lt98_4, s.length ≤ 32 by decide) _ e1, pl, hn1, by omega, ch, e2, e3, e4, e5, e6, e7⟩
/-- What an item of a batch that is drawn looks like. -/
structure BIt (hst : Int) (i : It) : Prop where
  host : i.e.a0 = hst
  f5 : 5 ≤ i.e.a1
  f7 : i.e.a1 ≤ 7
  r0 : 0 ≤ i.e.a2
  r9 : i.e.a2 ≤ 50000
  ch : chain i.e.a2 i.e.ls i.e.a3
  n1 : 1 ≤ i.e.ls.length
  n6 : i.e.ls.length ≤ 6
  rule : i.r = [] ∨ i.r ∈ lt98_4
  fs : i.e.fs.length ≤ 4
  good : (i.r = [] ∧ EvGood i.e) ∨ SkGood i
theorem bit_of {hst fil fr : Int} {i : It} (hi : ItOK hst fil fr i) (h0 : 0 ≤ hst) (h9 : hst ≤ 999) (f5 : 5 ≤ fil) (f7 : fil ≤ 7) (r0 : 0 ≤ fr) (r9 : fr ≤ 50000) : BIt hst i := by
  have hn3 := hi.n3
  refine ⟨hi.host, by rw [hi.file]; exact f5, by rw [hi.file]; exact f7, by rw [hi.fr]; exact r0, by rw [hi.fr]; exact r9, by rw [hi.fr]; exact hi.ch, hi.n1, by omega, ?_, ?_, it_good hi h0 h9 (by omega) (by omega) r0 r9⟩
  · by_cases hr : i.r = []
    · exact .inl hr
    · exact .inr (hi.sk hr).1
  · by_cases hr : i.r = []
    · have := (hi.ev hr).2.2.2.2.2.2.1.1.length_le
      simpa [-Option.bind_some] using this
    · rw [(hi.sk hr).2.2.2.2.2.1]; simp [-Option.bind_some]
/-- Two items in one. -/
structure TogOf (a b j : It) : Prop where
  r : j.r = b.r
  a0 : j.e.a0 = b.e.a0
  a1 : j.e.a1 = b.e.a1
  a2 : j.e.a2 = a.e.a2
  a3 : j.e.a3 = b.e.a3
  a5 : j.e.a5 = b.e.a5
  a6 : j.e.a6 = b.e.a6
  s7 : j.e.s7 = b.e.s7
  s8 : j.e.s8 = b.e.s8
  ls : j.e.ls = if b.r = [] then a.e.ls ++ b.e.ls else (a.e.ls ++ b.e.ls).map blank
  fs : j.e.fs = b.e.fs
theorem chain_app : ∀ (ls rs : List Lin) (a b c : Int), chain a ls b → chain b rs c → chain a (ls ++ rs) c
  | [], rs, a, b, c, h, k => by simp only [chain] at h; subst h; exact k
  | x :: ls, rs, a, b, c, h, k => ⟨h.1, h.2.1, h.2.2.1, h.2.2.2.1, chain_app ls rs _ b c h.2.2.2.2 k⟩
theorem bit_tog {hst fil fr fb : Int} {a b j : It} (ha : ItOK hst fil fr a) (hb : ItOK hst fil fb b) (hab : a.e.a3 = fb) (h0 : 0 ≤ hst) (h9 : hst ≤ 999) (f5 : 5 ≤ fil) (f7 : fil ≤ 7) (r0 : 0 ≤ fr) (r9 : fr ≤ 40000) (hj : TogOf a b j) : BIt hst j := by
  have na1 := ha.n1
  have na3 := ha.n3
  have nb1 := hb.n1
  have nb3 := hb.n3
  have ca := chain_le _ _ _ ha.ch
  have cb := chain_le _ _ _ hb.ch
  have hll : j.e.ls.length = a.e.ls.length + b.e.ls.length := by
    rw [hj.ls]; split <;> simp [-Option.bind_some]
  have ch0 : chain a.e.a2 (a.e.ls ++ b.e.ls) b.e.a3 := by
    rw [ha.fr]
    exact chain_app _ _ _ _ _ ha.ch (by rw [hab]; exact hb.ch)
  have ch : chain j.e.a2 j.e.ls j.e.a3 := by
    rw [hj.a2, hj.a3, hj.ls]
    split
    · exact ch0
    · exact chain_blank _ _ _ ch0
  have pl : PlOK j.e := ⟨by rw [hj.a0, hb.host]; exact h0, by rw [hj.a0, hb.host]; exact h9, by rw [hj.a1, hb.file]; omega, by rw [hj.a1, hb.file]; omega, by rw [hj.a2, ha.fr]; omega, by rw [hj.a2, hj.a3, ha.fr]; omega, by rw [hj.a3]; omega⟩
  have hbb := bit_of hb h0 h9 f5 f7 (by omega) (by omega)
  refine ⟨by rw [hj.a0, hb.host], by rw [hj.a1, hb.file]; exact f5, by rw [hj.a1, hb.file]; exact f7, by rw [hj.a2, ha.fr]; exact r0, by rw [hj.a2, ha.fr]; omega, ch, by omega, by omega, by rw [hj.r]; exact hbb.rule, by rw [hj.fs]; exact hbb.fs, ?_⟩
  by_cases hr : b.r = []
  · left
    obtain ⟨e1, e2, e3, e4, e5, e6, e7, e8⟩ := hb.ev hr
    have hfl := hbb.fs
    exact ⟨by rw [hj.r, hr], pl, by rw [hj.a5]; exact e1, by rw [hj.a5]; exact e2, by rw [hj.a6]; exact e3, by rw [hj.a6]; exact e4, by rw [hj.a6]; exact hb.wt hr, by omega, by omega, ch, by rw [hj.s7]; exact (show ∀ s ∈ lt98_5, s.length ≤ 32 by decide) _ e5, by rw [hj.s8]; exact (show ∀ s ∈ lt98_6, s.length ≤ 32 by decide) _ e6, by rw [hj.fs]; omega, by rw [hj.fs]; exact fn_of e7.1, by rw [hj.fs]; exact asc_of e7.1, by rw [hj.fs]; exact fun p hp => by have := e7.2 p hp; omega⟩
  · right
    obtain ⟨e1, e2, e3, e4, e5, e6, e7⟩ := hb.sk hr
    exact ⟨by rw [hj.r]; exact hr, by rw [hj.r]; exact (show ∀ s ∈ lt98_4, s.length ≤ 32 by decide) _ e1, pl, by omega, by omega, ch, by rw [hj.a5]; exact e2, by rw [hj.a6]; exact e3, by rw [hj.s7]; exact e4, by rw [hj.s8]; exact e5, by rw [hj.fs]; exact e6, by
      rw [hj.ls, if_neg hr]
      intro l hl
      obtain ⟨x, _, rfl⟩ := List.mem_map.1 hl
      rfl⟩
theorem items_get (hst fil : Int) : ∀ (l : List It) (a b : Int), items hst fil a l b → ∀ (k : Nat) (i : It), l[k]? = some i → ∃ f, ItOK hst fil f i ∧ a ≤ f ∧ f ≤ a + 108 * k ∧ ∀ j, l[k + 1]? = some j → ItOK hst fil i.e.a3 j
  | [], _, _, _, k, i, hi => by simp [-Option.bind_some] at hi
  | x :: r, a, b, h, 0, i, hi => by
    simp [-Option.bind_some] at hi
    subst hi
    refine ⟨a, h.1, by omega, by omega, fun j hj => ?_⟩
    cases r with
    | nil => simp [-Option.bind_some] at hj
    | cons y r => simp [-Option.bind_some] at hj; subst hj; exact h.2.1
  | x :: r, a, b, h, k + 1, i, hi => by
    obtain ⟨f, h1, h2, h3, h4⟩ := items_get hst fil r _ b h.2 k i (by simpa [-Option.bind_some] using hi)
    have c := chain_le _ _ _ h.1.ch
    have := h.1.n3
    exact ⟨f, h1, by omega, by push_cast; omega, fun j hj => h4 j (by simpa [-Option.bind_some] using hj)⟩
/-- The lines that an item of two ends with, so far. -/
def togR (b : Bool) (l : List Lin) (k : Nat) : List Lin := if b = true then (l.take k).map blank ++ l.drop k else l
theorem togR_len (b : Bool) (l : List Lin) (k : Nat) (hk : k ≤ l.length) : (togR b l k).length = l.length := by
  unfold togR
  split
  · simp [-Option.bind_some]; omega
  · rfl
theorem s1093 (a b : It) (h : Hp) (hla : a.e.ls.length ≤ 1000) (hlb : b.e.ls.length ≤ 1000) (hn : 1 ≤ a.e.ls.length) : ∃ j, R fn1093 [.agg (itr a), .agg (itr b)] h = some (.agg (itr j), h) ∧ TogOf a b j := by
  suffices Wp (R fn1093 [.agg (itr a), .agg (itr b)] h) (fun p => p.2 = h ∧ ∃ j, p.1 = .agg (itr j) ∧ TogOf a b j) by
    obtain ⟨⟨x, h'⟩, h1, rfl, j, rfl, h2⟩ := this
    exact ⟨j, h1, h2⟩
  rw [e1093]
  have q4 : ∀ i : It, dFieldAddr tab ty31 4 (.fptr (evr i.e)) = some (.fptr [i.e.ld, .int .i64 i.e.a5, .int .i64 i.e.a6, .str i.e.s7, .str i.e.s8, i.e.fd]) := fun i => id rfl
  have q2 : ∀ i : It, dFieldAddr tab ty31 2 (.fptr (evr i.e)) = some (.fptr [.int .i64 i.e.a2, .int .i64 i.e.a3, i.e.ld, .int .i64 i.e.a5, .int .i64 i.e.a6, .str i.e.s7, .str i.e.s8, i.e.fd]) := fun i => id rfl
  generalize hZ : ([.str [], .int .i64 0, .int .i64 0, .int .i64 0, .int .i64 0, .nils, .int .i64 0, .int .i64 0, .str [], .str [], .nils] : List D) = Z
  have hZl : Z.length = 11 := by subst hZ; rfl
  simp only [F1093, bs, pBoxF_agg, ldIt, hZ, Option.bind_assoc, itF1, q2, q4, ld3, ld28]
  have hl0 : (dNew h ty74 11 [Z]).length = h.length + 1 := by simp [-Option.bind_some, dNew]
  have p8 : (dNew (dNew h ty74 11 [Z]) ty74 11 [Z])[h.length]? = some (.row ty74 11 [Z]) := by
    rw [dNew_old _ _ _ _ (by omega)]; exact dNew_get _ _ _ _
  have p9 : (dNew (dNew h ty74 11 [Z]) ty74 11 [Z])[h.length + 1]? = some (.row ty74 11 [Z]) := by
    rw [← hl0]; exact dNew_get _ _ _ _
  have hb : ∀ q, q < h.length → (dNew (dNew h ty74 11 [Z]) ty74 11 [Z])[q]? = h[q]? := fun q hq => by
    rw [dNew_old _ _ _ _ (by omega), dNew_old _ _ _ _ hq]
  have hgl : (dNew (dNew h ty74 11 [Z]) ty74 11 [Z]).length = h.length + 2 := by simp [-Option.bind_some, dNew]
  rw [hl0]
  generalize dNew (dNew h ty74 11 [Z]) ty74 11 [Z] = g0 at p8 p9 hb hgl
  refine wst74 p9 (by rfl) (by rfl) (by rw [hZl]; exact Nat.le_refl _) (by rfl) fun g1 k9 s1 => ?_
  replace k9 : g1[h.length + 1]? = some (.row ty74 11 [itr b]) := by
    rw [k9]; subst hZ; rfl
  simp only [fap74_1, fap31_2, fap31_4, Nat.zero_add, bs]
  refine wst3 k9 (by rfl) (by rfl) (by simp [-Option.bind_some, itr, evr]) (by rfl) fun g2 k9 s2 => ?_
  try simp only [bs]
  refine wst28 k9 (by rfl) (by rfl) (by simp [-Option.bind_some, itr, evr, spl, cells1]) (by rfl) fun g3 k9 s3 => ?_
  replace k9 : g3[h.length + 1]? = some (.row ty74 11 [[.str b.r, .int .i64 b.e.a0, .int .i64 b.e.a1, .int .i64 a.e.a2, .int .i64 b.e.a3, .nils, .int .i64 b.e.a5, .int .i64 b.e.a6, .str b.e.s7, .str b.e.s8, b.e.fd]]) := k9
  have s13 := (s1.trans s2).trans s3
  replace p8 := (s13.2 h.length (by omega)).trans p8
  replace hb : ∀ q, q < h.length → g3[q]? = h[q]? := fun q hq => (s13.2 q (by omega)).trans (hb q hq)
  have hgl3 : g3.length = h.length + 2 := by rw [s13.1, hgl]
  clear s1 s2 s3 s13 p9 hgl
  try simp only [bs]
  refine wap28 (n0 := h.length + 2) (by omega) (Own.nils _ _ _ _) (slof_rows _ a.e.hld) (by simp [-Option.bind_some]; omega) fun x1 g4 ow1 len1 bel1 _ _ => ?_
  rw [List.nil_append] at ow1
  try simp only [bs]
  refine wap28 (n0 := h.length + 2) (by omega) ow1 (slof_rows _ b.e.hld) (by simp [-Option.bind_some]; omega) fun x2 g5 ow2 len2 bel2 _ _ => ?_
  rw [← List.map_append] at ow2
  have hbel : ∀ q, q < h.length + 2 → g5[q]? = g3[q]? := fun q hq => (bel2 q hq).trans (bel1 q hq)
  replace k9 := (hbel _ (by omega)).trans k9
  replace p8 := (hbel _ (by omega)).trans p8
  replace hb : ∀ q, q < h.length → g5[q]? = h[q]? := fun q hq => (hbel q (by omega)).trans (hb q hq)
  have hgl5 : h.length + 2 ≤ g5.length := by omega
  clear hbel bel1 bel2 ow1 len1 len2
  generalize hL : a.e.ls ++ b.e.ls = L at ow2
  have hLl : L.length = a.e.ls.length + b.e.ls.length := by rw [← hL]; simp [-Option.bind_some]
  obtain ⟨ob, hob, rfl, hgo⟩ := own_ix ow2 (i := 0) (by simp [-Option.bind_some]; omega)
  simp only [List.length_map] at *
  refine Wp.chk trivial ?_
  try simp only [bs, Option.bind_assoc]
  generalize hB : (!(b.r == ([] : Str))) = B
  refine Wp.loop (fun n ds g => ∃ (k : Nat) (u v y : D), ds = [.int .i64 k, u, v] ∧ n + k = L.length ∧ h.length + 2 ≤ g.length ∧ (∀ q, q < h.length → g[q]? = h[q]?) ∧ g[h.length]? = some (.row ty74 11 [Z]) ∧
      g[h.length + 1]? = some (.row ty74 11 [[.str b.r, .int .i64 b.e.a0, .int .i64 b.e.a1, .int .i64 a.e.a2, .int .i64 b.e.a3, y, .int .i64 b.e.a5, .int .i64 b.e.a6, .str b.e.s7, .str b.e.s8, b.e.fd]]) ∧
      g[ob]? = some (.row ty78 3 ((togR B L k).map linr)) ∧ Own g (h.length + 2) ty78 3 (((togR B L k).take k).map linr) y ∧ ¬ y.inOb ob)
    (fun r => r.1 = .ext 0 ∧ ∃ y, h.length + 2 ≤ r.2.2.length ∧ (∀ q, q < h.length → r.2.2[q]? = h[q]?) ∧ r.2.2[h.length]? = some (.row ty74 11 [Z]) ∧
      r.2.2[h.length + 1]? = some (.row ty74 11 [[.str b.r, .int .i64 b.e.a0, .int .i64 b.e.a1, .int .i64 a.e.a2, .int .i64 b.e.a3, y, .int .i64 b.e.a5, .int .i64 b.e.a6, .str b.e.s7, .str b.e.s8, b.e.fd]]) ∧
      Own r.2.2 (h.length + 2) ty78 3 ((togR B L L.length).map linr) y) L.length
    ⟨0, _, _, .nils, rfl, rfl, hgl5, hb, p8, k9, by rw [hgo]; unfold togR; split <;> simp [-Option.bind_some], by simpa [-Option.bind_some] using Own.nils _ _ _ _, by rintro ⟨_, _, hh⟩; cases hh⟩ ?_ ?_
  · rintro n ds g ⟨k, u, v, y, rfl, hk, hgl, hb, p8, k9, ho, ow, hny⟩
    have hlen : (togR B L k).length = L.length := togR_len _ _ _ (by omega)
    simp only [F1093_L0, nth_zero, nth_succ, bs, Option.bind_assoc, lenm28, dBin_lss, itF0, itL0, dBin_sneq, hB]
    refine Wp.dif ?_ ?_
    · intro h0
      have h0 : k < L.length := by have : (k : Int) < L.length := by simpa [-Option.bind_some] using h0
                                   omega
      have hkl : (0 : Int) ≤ (k : Int) ∧ (k : Int) < (L.length : Int) := by omega
      have hw : IntKind.wrap .i64 ((k : Int) + 1) = ((k + 1 : Nat) : Int) := by
        rw [wrap_i64 (by omega) (by omega)]; omega
      refine Wp.join (P := fun r => ∃ g', r = (.nrm, [], g') ∧ h.length + 2 ≤ g'.length ∧ (∀ q, q < h.length → g'[q]? = h[q]?) ∧ g'[h.length]? = some (.row ty74 11 [Z]) ∧
        g'[h.length + 1]? = some (.row ty74 11 [[.str b.r, .int .i64 b.e.a0, .int .i64 b.e.a1, .int .i64 a.e.a2, .int .i64 b.e.a3, y, .int .i64 b.e.a5, .int .i64 b.e.a6, .str b.e.s7, .str b.e.s8, b.e.fd]]) ∧
        g'[ob]? = some (.row ty78 3 ((togR B L (k + 1)).map linr)) ∧ Own g' (h.length + 2) ty78 3 (((togR B L k).take k).map linr) y) ?_ ?_ ?_
      · intro hbt
        subst hbt
        have hT : ∀ k, togR true L k = (L.take k).map blank ++ L.drop k := fun k => rfl
        simp only [ixm28, hkl, and_self, if_true, bs, fap78_2, Nat.zero_add, Int.toNat_natCast]
        refine wst9 ho (by rw [hT]; exact get_blank L k h0) (by rfl) (by simp [-Option.bind_some, linr]) (by rfl) fun g' q s => ?_
        have hset : ((togR true L k).map linr).set k (spl (linr L[k]) 2 (cells1 (.str []))) = (togR true L (k + 1)).map linr := by
          rw [hT, hT]; exact set_blank L k h0
        rw [hset] at q
        exact .some ⟨g', rfl, by have := s.1; omega, fun q hq => (s.2 q (by omega)).trans (hb q hq), (s.2 _ (by omega)).trans p8, (s.2 _ (by omega)).trans k9, q, ow.keep fun q hq hin => s.2 q fun hh => hny (hh ▸ hin)⟩
      · intro hbf
        subst hbf
        exact .some ⟨g, rfl, hgl, hb, p8, k9, ho, ow⟩
      rintro _ ⟨g', rfl, hgl, hb, p8, k9, ho, ow⟩
      have hx : (togR B L (k + 1))[k]? = some ((togR B L (k + 1))[k]'(by rw [togR_len _ _ _ (by omega)]; omega)) := List.getElem?_eq_getElem _
      generalize (togR B L (k + 1))[k]'(by rw [togR_len _ _ _ (by omega)]; omega) = x at hx
      have hxr : ((togR B L (k + 1)).map linr)[k]? = some (linr x) := by rw [List.getElem?_map, hx]; rfl
      have hld : dLoad tab g' ty78 (.ptr ob k 0) = some (.agg (linr x)) := by
        rw [ldp78, row_of ho, hxr]; rfl
      have hbs : pLitF tab ty28 1 [0] [.agg (linr x)] = some (.sl 3 true [linr x]) := id rfl
      simp only [toEnd_nrm, fap74_1, fap31_4, Nat.zero_add, ldp28, row_of k9, List.getElem?_cons_zero, bs, List.drop_succ_cons, List.drop_zero, List.head?_cons, ixm28, hkl, and_self, if_true, Int.toNat_natCast, hld, hbs]
      have htl : ((togR B L k).take k).length ≤ 2000 := by simp [-Option.bind_some]; omega
      refine wap28 (n0 := h.length + 2) hgl ow (rowsOf_sl _ _ _ _) (by simp [-Option.bind_some] at htl ⊢; omega) fun y' g'' ow' len' bel' keep' fre' => ?_
      try simp only [bs]
      have oc := one_cells (own_one ow')
      refine wst28 ((bel' (h.length + 1) (by omega)).trans k9) (by rfl) (by rw [oc.1]; rfl) (by simp [-Option.bind_some]) oc.2 fun g3 q3 t3 => ?_
      rw [oc.1] at q3
      have holt := (List.getElem?_eq_some_iff.1 ho).1
      have ho2 : h.length + 2 ≤ ob := hob
      have htk : ((togR B L k).take k).map linr ++ [linr x] = ((togR B L (k + 1)).take (k + 1)).map linr := by
        have e1 : (togR B L k).take k = (togR B L (k + 1)).take k := by
          unfold togR
          split
          · rw [List.take_append_of_le_length (by simp [-Option.bind_some]; omega), List.take_append_of_le_length (by simp [-Option.bind_some]; omega), ← List.map_take, ← List.map_take, List.take_take, List.take_take]
            congr 2; omega
          · rfl
        rw [e1, List.take_add_one, hx]
        simp [-Option.bind_some]
      rw [htk] at ow'
      simp only [bs, dBin_add, hw]
      refine .some (.inl ⟨rfl, n - 1, by omega, k + 1, _, _, y', rfl, by omega, by have := t3.1; show h.length + 2 ≤ g3.length; omega, fun q hq => (t3.2 q (by omega)).trans ((bel' q (by omega)).trans (hb q hq)), (t3.2 _ (by omega)).trans ((bel' _ (by omega)).trans p8), q3, (t3.2 _ (by omega)).trans ((keep' ob holt hny).trans ho), ow'.keep fun q hq _ => t3.2 q (by omega), fun hin => ?_⟩)
      rcases fre' ob hin with hh | hh
      · exact hny hh
      · omega
    · intro h0
      have h0 : k = L.length := by have : ¬ (k : Int) < L.length := by simpa [-Option.bind_some] using h0
                                   omega
      subst h0
      refine .some (.inr ⟨by simp [-Option.bind_some], rfl, y, hgl, hb, p8, k9, ?_⟩)
      rw [List.take_of_length_le (by omega)] at ow
      exact ow
  · rintro ⟨ex, ds, g⟩ ⟨q1, y, hgl, hb, p8, k9, ow⟩
    simp only at q1 hgl hb p8 k9 ow
    subst q1
    simp only [unblk_self, toEnd_nrm, bs]
    have hlen : (togR B L L.length).length = L.length := togR_len _ _ _ (Nat.le_refl _)
    have hsl := own_sl (n0 := h.length) (n := 2) ow (by omega) (fun a _ => linr_frz _ g _ a)
    have hcs : ([.str b.r, .int .i64 b.e.a0, .int .i64 b.e.a1, .int .i64 a.e.a2, .int .i64 b.e.a3, y, .int .i64 b.e.a5, .int .i64 b.e.a6, .str b.e.s7, .str b.e.s8, b.e.fd] : List D).length = 11 := rfl
    simp only [ldob11 k9 hcs, bs]
    have hok : (D.agg [.str b.r, .int .i64 b.e.a0, .int .i64 b.e.a1, .int .i64 a.e.a2, .int .i64 b.e.a3, y, .int .i64 b.e.a5, .int .i64 b.e.a6, .str b.e.s7, .str b.e.s8, b.e.fd]).okv = true := by
      have h1 := own_one ow
      have h2 := slof_one b.e.hfd
      generalize b.e.fd = fd at h2
      cases y <;> first | (cases fd <;> first | rfl | (simp [-Option.bind_some, D.one] at h2)) | (simp [-Option.bind_some, D.one] at h1)
    refine wst74 p8 (by rfl) (by rfl) (by rw [hZl]; exact Nat.le_refl _) hok fun g2 q8 t2 => ?_
    replace q8 : g2[h.length]? = some (.row ty74 11 [[.str b.r, .int .i64 b.e.a0, .int .i64 b.e.a1, .int .i64 a.e.a2, .int .i64 b.e.a3, y, .int .i64 b.e.a5, .int .i64 b.e.a6, .str b.e.s7, .str b.e.s8, b.e.fd]]) := by
      rw [q8]; subst hZ; rfl
    simp only [ldob11 q8 hcs, bs, mkRes_one]
    have ow2 := ow.keep (h' := g2) fun q hq _ => t2.2 q (by omega)
    have hsl := own_sl (n0 := h.length) (n := 2) ow2 (by omega) (fun a _ => linr_frz _ g2 _ a)
    refine ⟨(.agg (itr ⟨b.r, ⟨b.e.a0, b.e.a1, a.e.a2, b.e.a3, togR B L L.length, frz h.length g2 3 y, b.e.a5, b.e.a6, b.e.s7, b.e.s8, b.e.fs, b.e.fd, b.e.hfd, b.e.hl, hsl, by omega⟩⟩), h), scope_eq ?_ (itr_ok _ _) (by have := t2.1; omega) (fun q hq => (t2.2 q (by omega)).trans (hb q hq)), rfl, _, rfl, ⟨rfl, rfl, rfl, rfl, rfl, rfl, rfl, rfl, rfl, ?_, rfl⟩⟩
    · have hf := slof_frz (n0 := h.length) (h := g2) (n := 2) b.e.hfd (fun a _ => fld_frz _ g2 _ a)
      simp only [frz_agg, List.map_cons, List.map_nil, frz_int, frz_str, hf]
      rfl
    · show togR B L L.length = _
      by_cases hr : b.r = []
      · rw [if_pos hr]
        have : B = false := by rw [← hB, hr]; rfl
        subst this
        exact hL.symm
      · rw [if_neg hr]
        have : B = true := by rw [← hB]; simp [-Option.bind_some, hr]
        subst this
        rw [hL]
        simp [-Option.bind_some, togR]
def bRow (host : Int) (p : List It × D × Int) : List D := [.int .i64 host, .int .i64 p.2.2, p.2.1]
def atR (n : Nat) : List D := [.int .i64 (n : Int)]
/-- Batches so far. -/
structure BtI (h : Hp) (o : Nat) (host : Int) (ps : List (List It × D)) (qa : Nat) (g : Hp) (x : D) (bt : List (List It × D × Int)) (ats : List Nat) : Prop where
  len : h.length ≤ g.length
  gr : ∀ q, q < h.length → q ≠ o → g[q]? = h[q]?
  cd : CD g o
  qa0 : h.length ≤ qa
  at_ : g[qa]? = some (.row ty3 1 (ats.map atR))
  al : ats.length = ps.length
  ab : ∀ (f : Nat) (n : Nat) p, ats[f]? = some n → ps[f]? = some p → n ≤ p.1.length
  out : Own g h.length ty1064 3 (bt.map (bRow host)) x
  its : ∀ p ∈ bt, Own g h.length ty74 11 (p.1.map itr) p.2.1 ∧ p.1.length ≤ 3 ∧ (∀ i ∈ p.1, BIt host i) ∧ 0 ≤ p.2.2 ∧ p.2.2 ≤ 12
/-- Nothing else reaches behind pb. -/
structure BtL (h : Hp) (o : Nat) (qa pb : Nat) (x : D) (bt : List (List It × D × Int)) : Prop where
  hh : h.length ≤ pb
  ho : o < h.length
  hqa : qa < pb
  hx : ∀ q, x.inOb q → q < pb
  hbs : ∀ p ∈ bt, ∀ q, p.2.1.inOb q → q < pb
theorem BtI.keep {h : Hp} {o : Nat} {host : Int} {ps : List (List It × D)} {qa : Nat} {g g' : Hp} {x : D} {bt : List (List It × D × Int)} {ats : List Nat} {pb : Nat} (B : BtI h o host ps qa g x bt ats) (L : BtL h o qa pb x bt) (hcd : CD g' o) (hlen : g.length ≤ g'.length) (hk : ∀ q, q < pb → q ≠ o → g'[q]? = g[q]?) : BtI h o host ps qa g' x bt ats := by
  have h1 := L.hh
  have h2 := L.ho
  have h3 := L.hqa
  have h4 := B.qa0
  refine ⟨Nat.le_trans B.len hlen, fun q hq hn => (hk q (by omega) hn).trans (B.gr q hq hn), hcd, B.qa0, (hk qa h3 (by omega)).trans B.at_, B.al, B.ab, B.out.keep fun q hq hin => hk q (L.hx q hin) (by omega), fun p hp => ⟨(B.its p hp).1.keep fun q hq hin => hk q (L.hbs p hp q hin) (by omega), (B.its p hp).2⟩⟩
/-- A batch so far. -/
structure BnI (h : Hp) (o : Nat) (host : Int) (ps : List (List It × D)) (qa : Nat) (x : D) (bt : List (List It × D × Int)) (pb : Nat) (nu : Int) (g : Hp) (ats : List Nat) (its : List It) (y : D) : Prop where
  B : BtI h o host ps qa g x bt ats
  pg : pb < g.length
  pr : g[pb]? = some (.row ty1064 3 [[.int .i64 host, .int .i64 nu, y]])
  ow : Own g (pb + 1) ty74 11 (its.map itr) y
  ok : ∀ i ∈ its, BIt host i
section
variable {h : Hp} {o : Nat} {host : Int} {ps : List (List It × D)} {qa : Nat} {x : D} {bt : List (List It × D × Int)} {pb : Nat} {nu : Int}
theorem BnI.keep {g g' : Hp} {ats : List Nat} {its : List It} {y : D} (b : BnI h o host ps qa x bt pb nu g ats its y) (L : BtL h o qa pb x bt) (hcd : CD g' o) (hlen : g.length ≤ g'.length) (hk : ∀ q, q ≤ pb → q ≠ o → g'[q]? = g[q]?) (hy : ∀ q, y.inOb q → g'[q]? = g[q]?) : BnI h o host ps qa x bt pb nu g' ats its y := by
  have := L.hh
  have := L.ho
  exact ⟨b.B.keep L hcd hlen fun q hq hn => hk q (by omega) hn, by have := b.pg; omega, (hk pb (Nat.le_refl _) (by omega)).trans b.pr, b.ow.keep fun q _ hin => hy q hin, b.ok⟩
theorem BnI.next {g g' : Hp} {ats : List Nat} {its : List It} {y : D} (b : BnI h o host ps qa x bt pb nu g ats its y) (L : BtL h o qa pb x bt) (hcd : CD g' o) (hs : Same o g g') : BnI h o host ps qa x bt pb nu g' ats its y :=
  b.keep L hcd (Nat.le_of_eq hs.1.symm) (fun q _ hn => hs.2 q hn) fun q hin => hs.2 q (by have := (b.ow.lt hin).1; have := L.hh; have := L.ho; omega)
theorem BnI.put {g g' : Hp} {ats : List Nat} {its : List It} {y : D} {z : Nat} (b : BnI h o host ps qa x bt pb nu g ats its y) (L : BtL h o qa pb x bt) (hz : pb < z) (hzy : ¬ y.inOb z) (hs : Same z g g') : BnI h o host ps qa x bt pb nu g' ats its y :=
  b.keep L (b.B.cd.keep (hs.2 o (by have := L.hh; have := L.ho; omega))) (Nat.le_of_eq hs.1.symm) (fun q hq _ => hs.2 q (by omega)) fun q hin => hs.2 q fun hh => hzy (hh ▸ hin)
theorem BnI.new {g g' : Hp} {ats : List Nat} {its : List It} {y : D} (b : BnI h o host ps qa x bt pb nu g ats its y) (L : BtL h o qa pb x bt) (hl : g.length ≤ g'.length) (hk : ∀ q, q < g.length → g'[q]? = g[q]?) : BnI h o host ps qa x bt pb nu g' ats its y := by
  have h1 := b.pg
  have h2 := L.hh
  have h3 := L.ho
  exact b.keep L (b.B.cd.keep (hk o (by omega))) hl (fun q hq _ => hk q (by omega)) fun q hin => hk q (b.ow.lt hin).2
theorem ix_at {g : Hp} {ats : List Nat} {n f a : Nat} (hg : g[qa]? = some (.row ty3 1 (ats.map atR))) (hn : ats.length = n) (hf : ats[f]? = some a) : dIndexAddr tab ty82 (.msl 1 qa 0 n) (.int .i64 (f : Int)) = some (.ptr qa f 0) ∧ dLoad tab g ty3 (.ptr qa f 0) = some (.int .i64 a) := by
  have := (List.getElem?_eq_some_iff.1 hf).1
  have hh : (0 : Int) ≤ (f : Int) ∧ (f : Int) < (n : Int) := by omega
  constructor
  · rw [ixm82, if_pos hh]; simp [-Option.bind_some]
  · rw [ldp3, row_of hg, List.getElem?_map, hf]; rfl
end
theorem ldIt0 {g : Hp} {z : Nat} {i : It} (hz : g[z]? = some (.row ty74 11 [itr i])) : dLoad tab g ty74 (.ptr z 0 0) = some (.agg (itr i)) := ldob11 hz rfl
theorem itr_okv (i : It) : (D.agg (itr i)).okv = true := by
  have h1 := slof_one i.e.hld
  have h2 := slof_one i.e.hfd
  have h3 : (D.agg (itr i)) = .agg [.str i.r, .int .i64 i.e.a0, .int .i64 i.e.a1, .int .i64 i.e.a2, .int .i64 i.e.a3, i.e.ld, .int .i64 i.e.a5, .int .i64 i.e.a6, .str i.e.s7, .str i.e.s8, i.e.fd] := rfl
  rw [h3]
  generalize i.e.ld = a at h1
  generalize i.e.fd = b at h2
  cases a <;> first | (cases b <;> first | rfl | (simp [-Option.bind_some, D.one] at h2)) | (simp [-Option.bind_some, D.one] at h1)
theorem put_it {g : Hp} {z : Nat} {row : List D} {i : It} (hz : g[z]? = some (.row ty74 11 [row])) (hr : row.length = 11) {β : Type} {f : Hp → Option β} {Q : β → Prop}
    (k : ∀ g', g'[z]? = some (.row ty74 11 [itr i]) → Same z g g' → Wp (f g') Q) : Wp ((dStore tab g ty74 (.ptr z 0 0) (.agg (itr i))).bind f) Q := by
  refine wst74 hz (by rfl) (by rfl) (by rw [hr]; exact Nat.le_refl _) (itr_okv i) fun g' q s => k g' ?_ s
  have : spl row 0 (cells1 (.agg (itr i))) = itr i := by
    show row.take 0 ++ itr i ++ row.drop (0 + (itr i).length) = itr i
    rw [List.drop_of_length_le (by rw [hr]; exact Nat.le_refl _)]
    simp [-Option.bind_some]
  rw [q, this]
  rfl
/-- An item goes into the batch. -/
theorem app_it {h : Hp} {o : Nat} {host : Int} {ps : List (List It × D)} {qa : Nat} {x : D} {bt : List (List It × D × Int)} {pb : Nat} {nu : Int} {g : Hp} {ats : List Nat} {its : List It} {y : D} {i : It} {z : Nat} {β : Type} {f : Hp → Option β} {Q : β → Prop}
    (b : BnI h o host ps qa x bt pb nu g ats its y) (L : BtL h o qa pb x bt) (hl : its.length ≤ 1000) (hz : g[z]? = some (.row ty74 11 [itr i])) (hi : BIt host i)
    (k : ∀ g' y', BnI h o host ps qa x bt pb nu g' ats (its ++ [i]) y' → Wp (f g') Q) :
    Wp ((dFieldAddr tab ty1064 2 (.ptr pb 0 0)).bind fun t => (dLoad tab g ty113 t).bind fun t103 => (dLoad tab g ty74 (.ptr z 0 0)).bind fun t104 => (pLitF tab ty113 1 [0] [t104]).bind fun t105 => (dAppend tab g ty113 ty113 t103 t105).bind fun p => (dFieldAddr tab ty1064 2 (.ptr pb 0 0)).bind fun t107 => (dStore tab p.2 ty113 t107 p.1).bind f) Q := by
  have h1 := b.pg
  have h2 := L.hh
  have h3 := L.ho
  simp only [fap1064_2, ldp113, row_of b.pr, List.getElem?_cons_zero, bs, List.drop_succ_cons, List.drop_zero, List.head?_cons, Nat.zero_add, ldIt0 hz, bsIt]
  refine wap113 (n0 := pb + 1) h1 b.ow (rowsOf_sl _ _ _ _) (by simp [-Option.bind_some]; omega) fun y' g' ow len bel keep fre => ?_
  simp only [bs]
  have oc := one_cells (own_one ow)
  refine wst113 ((bel pb (by omega)).trans b.pr) (by rfl) (by rw [oc.1]; rfl) (by simp [-Option.bind_some]) oc.2 fun g2 q2 s2 => ?_
  rw [oc.1] at q2
  have h4 := s2.1
  refine k g2 y' ⟨b.B.keep L (b.B.cd.keep ((s2.2 o (by omega)).trans (bel o (by omega)))) (by omega) (fun q hq _ => (s2.2 q (by omega)).trans (bel q (by omega))), by omega, q2, ?_, fun j hj => ?_⟩
  · rw [List.map_append]
    exact ow.keep fun q hq _ => s2.2 q (by omega)
  · rcases List.mem_append.1 hj with hj | hj
    · exact b.ok j hj
    · simp [-Option.bind_some] at hj; subst hj; exact hi
theorem b1088 {h : Hp} {o : Nat} {host most : Int} {ps : List (List It × D)} {qa : Nat} {x dps : D} {bt : List (List It × D × Int)} {pb : Nat} {nu : Int} {g : Hp} {ats : List Nat} {its : List It} {y : D} (L : BtL h o qa pb x bt)
    (hps : SlOf 1 (fun p : List It × D => [p.2]) ps dps) (hf : FilesOK host most (SlOf 11 itr) ps) (hn1 : 1 ≤ ps.length) (hn3 : ps.length ≤ 3) (hm : most ≤ 100) (h0 : 0 ≤ host) (h9 : host ≤ 999)
    (b : BnI h o host ps qa x bt pb nu g ats its y) (hl : its.length ≤ 100) (p11 : D × Hp) (hp : p11.1 = .ptr pb 0 0) (k : Nat) (hk : 0 < k) (hk2 : k ≤ 100) (a1 a2 a3 a4 a5 a6 a7 a8 a9 : D) :
    Wp (F1088_L1 (.ptr o 0 0) dps (.msl 1 qa 0 ps.length) p11 [.int .i64 k, a1, a2, a3, a4, a5, a6, a7, a8, a9] g) (fun r => ∃ g' ats' its' y' c1 c2 c3 c4 c5 c6 c7 c8 c9, r = (.nrm, [.int .i64 ((k - 1 : Nat) : Int), c1, c2, c3, c4, c5, c6, c7, c8, c9], g') ∧ BnI h o host ps qa x bt pb nu g' ats' its' y' ∧ its'.length ≤ its.length + 1) := by
  have hk' : (0 : Int) < (k : Int) := by omega
  have hw : IntKind.wrap .i64 ((k : Int) - 1) = ((k - 1 : Nat) : Int) := by
    rw [wrap_i64 (by omega) (by omega)]; omega
  simp only [F1088_L1, nth_zero, nth_succ, bs, Option.bind_assoc, dBin_gtr, hk', decide_true, dIf_bool, if_true, lens111 hps, hp]
  obtain ⟨v, g1, e1, c1, s1, v0, v1⟩ := next_b b.B.cd ps.length (by omega) (by omega)
  refine Wp.step e1 ?_
  have b1 := b.next L c1 s1
  obtain ⟨f, rfl⟩ := Int.eq_ofNat_of_zero_le v0
  have hfl : f < ps.length := by omega
  obtain ⟨a, ha⟩ : ∃ a, ats[f]? = some a := ⟨_, List.getElem?_eq_getElem (by rw [b.B.al]; exact hfl)⟩
  obtain ⟨p, hpf⟩ : ∃ p, ps[f]? = some p := ⟨_, List.getElem?_eq_getElem hfl⟩
  obtain ⟨hpd, hpl, po, hit⟩ := hf f p hpf
  have hab := b.B.ab f a p ha hpf
  have ix := ix_at (qa := qa) (n := ps.length) b1.B.at_ b1.B.al ha
  have hmem : dIndexAddr tab ty111 dps (.int .i64 (f : Int)) = some (.fptr [p.2]) := by rw [ixs111 hps]; simp [-Option.bind_some, hpf]
  simp only [ix.1, ix.2, hmem, ld113, lens113 hpd, bs, dBin_geq]
  refine Wp.join (P := fun r => ∃ g' ats' its' y' c1 c2 c3 c4 c5 c6 c7 c8, r = (.nrm, [c1, c2, c3, c4, c5, c6, c7, c8], g') ∧ BnI h o host ps qa x bt pb nu g' ats' its' y' ∧ its'.length ≤ its.length + 1) ?_ ?_ ?_
  · intro _
    exact .some ⟨g1, ats, its, y, _, _, _, _, _, _, _, _, rfl, b1, by omega⟩
  · intro hlt
    have hlt : a < p.1.length := by have : ¬ (p.1.length : Int) ≤ (a : Int) := by simpa [-Option.bind_some] using hlt
                                    omega
    obtain ⟨i, hi⟩ : ∃ i, p.1[a]? = some i := ⟨_, List.getElem?_eq_getElem hlt⟩
    obtain ⟨fr, hio, hfr0, hfr1, _⟩ := items_get host _ p.1 0 po hit a i hi
    have hBi : BIt host i := bit_of hio h0 h9 (by omega) (by omega) hfr0 (by omega)
    have hii : dIndexAddr tab ty113 p.2 (.int .i64 (a : Int)) = some (.fptr (itr i)) := by rw [ixs113 hpd]; simp [-Option.bind_some, hi]
    simp only [hii, ldIt, bs]
    generalize hZ : ([.str [], .int .i64 0, .int .i64 0, .int .i64 0, .int .i64 0, .nils, .int .i64 0, .int .i64 0, .str [], .str [], .nils] : List D) = Z
    have hZl : Z.length = 11 := by subst hZ; rfl
    have hold : ∀ q, q < g1.length → (dNew g1 ty74 11 [Z])[q]? = g1[q]? := fun q hq => dNew_old _ _ _ _ hq
    have hzz : (dNew g1 ty74 11 [Z])[g1.length]? = some (.row ty74 11 [Z]) := dNew_get _ _ _ _
    have hzl : (dNew g1 ty74 11 [Z]).length = g1.length + 1 := by simp [-Option.bind_some, dNew]
    have b2 := b1.new L (g' := dNew g1 ty74 11 [Z]) (by omega) hold
    have hzy : ¬ y.inOb g1.length := fun hh => by have := (b1.ow.lt hh).2; omega
    have hzp : pb < g1.length := b1.pg
    generalize dNew g1 ty74 11 [Z] = g2 at hzz hzl b2
    generalize hzg : List.length g1 = z at hzz hzl hzy hzp
    clear hold
    have ix2 := ix_at (qa := qa) (n := ps.length) b2.B.at_ b2.B.al ha
    simp only [ix2.2]
    refine Wp.chk trivial (Wp.chk trivial (Wp.chk trivial ?_))
    refine put_it hzz hZl fun g3 hz3 s3 => ?_
    have b3 := b2.put L hzp hzy s3
    have hl3 : g3.length = z + 1 := by rw [s3.1, hzl]
    try simp only [bs]
    obtain ⟨u, g4, e4, c4, s4, u0, u1⟩ := next_b b3.B.cd 8 (by omega) (by omega)
    refine Wp.step e4 ?_
    have b4 := b3.next L c4 s4
    have hoz : z ≠ o := by have := L.hh; have := L.ho; omega
    have hz4 := (s4.2 z hoz).trans hz3
    have hl4 : g4.length = z + 1 := by rw [s4.1, hl3]
    have ix4 := ix_at (qa := qa) (n := ps.length) b4.B.at_ b4.B.al ha
    simp only [dBin_eql, bs]
    refine Wp.join (P := fun r => (∃ g' i' c1 c2, r = (.nrm, [c1, c2], g') ∧ BnI h o host ps qa x bt pb nu g' ats its y ∧ g'[z]? = some (.row ty74 11 [itr i']) ∧ BIt host i' ∧ g'.length = z + 1) ∨ (∃ g' i' y' c1 c2, r = (.ext 3, [c1, c2], g') ∧ BnI h o host ps qa x bt pb nu g' ats (its ++ [i']) y')) ?_ ?_ ?_
    · intro _
      simp only [ix4.1, ix4.2, bs, dBin_gtr]
      refine Wp.join (P := fun r => ∃ g' i', r = (.nrm, [], g') ∧ BnI h o host ps qa x bt pb nu g' ats its y ∧ g'[z]? = some (.row ty74 11 [itr i']) ∧ BIt host i' ∧ g'.length = z + 1) ?_ ?_ ?_
      · intro ha0
        have ha0 : 0 < a := by have : (0 : Int) < (a : Int) := by simpa [-Option.bind_some] using ha0
                               omega
        have hw2 : IntKind.wrap .i64 ((a : Int) - 1) = ((a - 1 : Nat) : Int) := by
          rw [wrap_i64 (by omega) (by omega)]; omega
        obtain ⟨ib, hib⟩ : ∃ i, p.1[a - 1]? = some i := ⟨_, List.getElem?_eq_getElem (by omega)⟩
        obtain ⟨fb, hbo, hfb0, hfb1, hnx⟩ := items_get host _ p.1 0 po hit (a - 1) ib hib
        have hio2 := hnx i (by rw [show a - 1 + 1 = a by omega]; exact hi)
        have hib2 : dIndexAddr tab ty113 p.2 (.int .i64 ((a - 1 : Nat) : Int)) = some (.fptr (itr ib)) := by rw [ixs113 hpd]; simp [-Option.bind_some, hib]
        have n1 := hbo.n1
        have n3 := hbo.n3
        have n5 := hio2.n3
        obtain ⟨j, ej, hj⟩ := s1093 ib i g4 (by omega) (by omega) n1
        have hBj : BIt host j := bit_tog hbo hio2 rfl h0 h9 (by omega) (by omega) hfb0 (by omega) hj
        simp only [dBin_sub, hw2, bs, hib2, ldIt, ldIt0 hz4, hmem, ld113]
        refine Wp.step ej ?_
        simp only [bs]
        refine put_it hz4 rfl fun g5 hz5 s5 => ?_
        try simp only [bs]
        exact .some ⟨g5, j, rfl, b4.put L hzp hzy s5, hz5, hBj, by rw [s5.1, hl4]⟩
      · intro _
        exact .some ⟨g4, i, rfl, b4, hz4, hBi, hl4⟩
      rintro _ ⟨g', i', rfl, b', hz', hB', hl'⟩
      simp only [bs]
      exact .some (.inl ⟨g', i', _, _, rfl, b', hz', hB', hl'⟩)
    · intro _
      refine Wp.dif ?_ ?_
      · intro _
        have hw2 : IntKind.wrap .i64 ((a : Int) + 1) = ((a + 1 : Nat) : Int) := by
          rw [wrap_i64 (by omega) (by omega)]; omega
        have hw3 : IntKind.wrap .i64 ((p.1.length : Int) - 1) = ((p.1.length - 1 : Nat) : Int) := by
          rw [wrap_i64 (by omega) (by omega)]; omega
        obtain ⟨c, hmc, hc⟩ : ∃ c : Nat, dMin (.int .i64 ((a + 1 : Nat) : Int)) (.int .i64 ((p.1.length - 1 : Nat) : Int)) = some (.int .i64 c) ∧ c < p.1.length := by
          rw [dMin_int]
          split
          · exact ⟨a + 1, rfl, by omega⟩
          · exact ⟨p.1.length - 1, rfl, by omega⟩
        obtain ⟨ib, hib⟩ : ∃ i, p.1[c]? = some i := ⟨_, List.getElem?_eq_getElem hc⟩
        obtain ⟨fb, hbo, hfb0, hfb1, hnx⟩ := items_get host _ p.1 0 po hit c ib hib
        have hBb : BIt host ib := bit_of hbo h0 h9 (by omega) (by omega) hfb0 (by omega)
        have hib2 : dIndexAddr tab ty113 p.2 (.int .i64 (c : Int)) = some (.fptr (itr ib)) := by rw [ixs113 hpd]; simp [-Option.bind_some, hib]
        simp only [ix4.1, ix4.2, bs, hmem, ld113, lens113 hpd, dBin_add, dBin_sub, hw2, hw3, hmc, hib2, ldIt]
        refine put_it hz4 rfl fun g5 hz5 s5 => ?_
        have b5 := b4.put L hzp hzy s5
        try simp only [bs]
        refine app_it b5 L (by omega) hz5 hBb fun g6 y6 b6 => ?_
        try simp only [bs]
        exact .some (.inr ⟨g6, ib, y6, _, _, rfl, b6⟩)
      · intro _
        exact .some (.inl ⟨g4, i, _, _, rfl, b4, hz4, hBi, hl4⟩)
    rintro _ (⟨g', i', d1, d2, rfl, b', hz', hB', hl'⟩ | ⟨g', i', y', d1, d2, rfl, b'⟩)
    · simp only [unblk_nrm, toEnd_nrm, nth_zero, nth_succ, Option.bind_assoc, bs]
      refine app_it b' L (by omega) hz' hB' fun g6 y6 b6 => ?_
      try simp only [bs]
      obtain ⟨w, g7, e7, c7, s7, w0, w1⟩ := next_b b6.B.cd 4 (by omega) (by omega)
      refine Wp.step e7 ?_
      have b7 := b6.next L c7 s7
      simp only [dBin_gtr, bs]
      refine Wp.join (P := fun r => ∃ g' ats', r = (.nrm, [], g') ∧ BnI h o host ps qa x bt pb nu g' ats' (its ++ [i']) y6) ?_ ?_ ?_
      · intro _
        have ix7 := ix_at (qa := qa) (n := ps.length) b7.B.at_ b7.B.al ha
        have hw2 : IntKind.wrap .i64 ((a : Int) + 1) = ((a + 1 : Nat) : Int) := by
          rw [wrap_i64 (by omega) (by omega)]; omega
        simp only [ix7.1, ix7.2, bs, dBin_add, hw2, Option.bind_assoc]
        have hrow : (ats.map atR)[f]? = some (atR a) := by rw [List.getElem?_map, ha]; rfl
        refine wst3 b7.B.at_ hrow (by rfl) (by simp [-Option.bind_some, atR]) (by rfl) fun g8 q8 s8 => ?_
        have hset : (ats.map atR).set f (spl (atR a) 0 (cells1 (.int .i64 ((a + 1 : Nat) : Int)))) = (ats.set f (a + 1)).map atR := by
          rw [List.map_set]; rfl
        rw [hset] at q8
        try simp only [bs]
        have lh := L.hh
        have lo := L.ho
        have lq := L.hqa
        have q0 := b7.B.qa0
        refine .some ⟨g8, ats.set f (a + 1), rfl, ⟨⟨by have := b7.B.len; have := s8.1; omega, fun q hq hn => (s8.2 q (by omega)).trans (b7.B.gr q hq hn), b7.B.cd.keep (s8.2 o (by omega)), q0, q8, by rw [List.length_set]; exact b7.B.al, fun f' n' p' hn' hp' => ?_, b7.B.out.keep fun q hq hin => s8.2 q ?_, fun p' hp' => ⟨(b7.B.its p' hp').1.keep fun q hq hin => s8.2 q ?_, (b7.B.its p' hp').2⟩⟩, by have := b7.pg; have := s8.1; omega, (s8.2 pb (by omega)).trans b7.pr, b7.ow.keep fun q hq hin => s8.2 q (by omega), b7.ok⟩⟩
        · rw [List.getElem?_set] at hn'
          split at hn'
          · rename_i hff
            subst hff
            split at hn'
            · injection hn' with hn'
              rw [hpf] at hp'
              injection hp' with hp'
              subst hp'
              omega
            · cases hn'
          · exact b7.B.ab f' n' p' hn' hp'
        · rcases b7.B.out with ⟨hx, _⟩ | ⟨ob, _, hx, hg⟩
          · rw [hx] at hin; obtain ⟨_, _, hin⟩ := hin; cases hin
          · rw [hx] at hin
            obtain ⟨_, _, hin⟩ := hin
            injection hin with _ hin
            subst hin
            rintro rfl
            have e := hg.symm.trans b7.B.at_
            injection e with e
            injection e with e
            exact absurd e (by decide)
        · rcases (b7.B.its p' hp').1 with ⟨hx, _⟩ | ⟨ob, _, hx, hg⟩
          · rw [hx] at hin; obtain ⟨_, _, hin⟩ := hin; cases hin
          · rw [hx] at hin
            obtain ⟨_, _, hin⟩ := hin
            injection hin with _ hin
            subst hin
            rintro rfl
            have e := hg.symm.trans b7.B.at_
            injection e with e
            injection e with e
            exact absurd e (by decide)
      · intro _
        exact .some ⟨g7, ats, rfl, b7⟩
      rintro _ ⟨g', ats', rfl, b'⟩
      simp only [unblk_nrm]
      exact .some ⟨g', ats', _, y6, _, _, _, _, _, _, _, _, rfl, b', by simp [-Option.bind_some]⟩
    · have hu : unblk 4 (.ext 3) = .ext 3 := by simp [-Option.bind_some, unblk]
      simp only [hu, toEnd_ext, unblk_self, nth_zero, nth_succ]
      exact .some ⟨g', ats, _, y', _, _, _, _, _, _, _, _, rfl, b', by simp [-Option.bind_some]⟩
  rintro _ ⟨g', ats', its', y', d1, d2, d3, d4, d5, d6, d7, d8, rfl, b', hl'⟩
  simp only [toEnd_nrm, nth_zero, nth_succ, dBin_sub, bs, hw]
  exact .some ⟨g', ats', its', y', _, _, _, _, _, _, _, _, _, rfl, b', hl'⟩
/-- A batch. -/
structure Bat where
  hs : Int
  nu : Int
  its : List It
  d : D
  hd : SlOf 11 itr its d
def batr (b : Bat) : List D := [.int .i64 b.hs, .int .i64 b.nu, b.d]
structure BatOK (host : Int) (b : Bat) : Prop where
  hs : b.hs = host
  n3 : b.its.length ≤ 3
  it : ∀ i ∈ b.its, BIt host i
  nu0 : 0 ≤ b.nu
  nu9 : b.nu ≤ 12
theorem batr_oks (n : Nat) (b : Bat) : ∀ d ∈ batr b, Ok n d := by
  intro d hd
  simp [-Option.bind_some, batr] at hd
  rcases hd with rfl | rfl | rfl
  · constructor
  · constructor
  · exact slof_ok b.hd fun i _ => itr_oks _ i
/-- Objects of rows of different things are different. -/
theorem row_ne {g : Hp} {a b T z T' z' : Nat} {r r' : List (List D)} (ha : g[a]? = some (.row T z r)) (hb : g[b]? = some (.row T' z' r')) (hn : T ≠ T') : a ≠ b := by
  rintro rfl
  have e := ha.symm.trans hb
  injection e with e
  injection e with e
  exact hn e
theorem own_ne {g : Hp} {b n e z T' z' : Nat} {rows r' : List (List D)} {d : D} (ha : Own g n e z rows d) (hb : g[b]? = some (.row T' z' r')) (hn : e ≠ T') : ¬ d.inOb b := by
  rintro ⟨z1, n1, hin⟩
  rcases ha with ⟨hx, _⟩ | ⟨ob, _, hx, hg⟩
  · rw [hx] at hin; cases hin
  · rw [hx] at hin
    injection hin with _ hin
    exact row_ne hg hb hn hin
theorem app_bt {h : Hp} {o : Nat} {host : Int} {ps : List (List It × D)} {qa : Nat} {g : Hp} {x : D} {bt : List (List It × D × Int)} {ats : List Nat} (B : BtI h o host ps qa g x bt ats) (ho : o < h.length) (hl : bt.length ≤ 1000) (p : List It × D × Int)
    (hp : Own g h.length ty74 11 (p.1.map itr) p.2.1 ∧ p.1.length ≤ 3 ∧ (∀ i ∈ p.1, BIt host i) ∧ 0 ≤ p.2.2 ∧ p.2.2 ≤ 12) {β : Type} {f : D × Hp → Option β} {Q : β → Prop} (k : ∀ x' g', BtI h o host ps qa g' x' (bt ++ [p]) ats → (∀ q, x'.inOb q → x.inOb q ∨ g.length ≤ q) → g.length ≤ g'.length → Wp (f (x', g')) Q) :
    Wp ((dAppend tab g ty1059 ty1059 x (.sl 3 true [bRow host p])).bind f) Q := by
  refine wap1059 B.len B.out (rowsOf_sl _ _ _ _) (by simp [-Option.bind_some]; omega) fun x' g' ow len bel keep fre => k x' g' ?_ fre len
  have qal := (List.getElem?_eq_some_iff.1 B.at_).1
  refine ⟨Nat.le_trans B.len len, fun q hq hn => (bel q hq).trans (B.gr q hq hn), B.cd.keep (bel o ho), B.qa0, (keep qa qal (own_ne B.out B.at_ (by decide))).trans B.at_, B.al, B.ab, ?_, fun p' hp' => ?_⟩
  · rw [List.map_append]; exact ow
  · have kp : ∀ p' : List It × D × Int, Own g h.length ty74 11 (p'.1.map itr) p'.2.1 → Own g' h.length ty74 11 (p'.1.map itr) p'.2.1 := fun p' w => w.keep fun q hq hin => keep q (w.lt hin).2 (own_dis w B.out (by decide) hin)
    rcases List.mem_append.1 hp' with hm | hm
    · exact ⟨kp _ (B.its p' hm).1, (B.its p' hm).2⟩
    · simp only [List.mem_singleton] at hm
      subst hm
      exact ⟨kp _ hp.1, hp.2⟩
theorem BtI.same {h : Hp} {o : Nat} {host : Int} {ps : List (List It × D)} {qa : Nat} {g g' : Hp} {x : D} {bt : List (List It × D × Int)} {ats : List Nat} (B : BtI h o host ps qa g x bt ats) (ho : o < h.length) (hcd : CD g' o) (hs : Same o g g') : BtI h o host ps qa g' x bt ats := by
  have h1 := B.qa0
  exact ⟨by rw [hs.1]; exact B.len, fun q hq hn => (hs.2 q hn).trans (B.gr q hq hn), hcd, B.qa0, (hs.2 qa (by omega)).trans B.at_, B.al, B.ab, B.out.same hs ho, fun p hp => ⟨(B.its p hp).1.same hs ho, (B.its p hp).2⟩⟩
theorem bats_of {h g : Hp} {host : Int} : ∀ (bt : List (List It × D × Int)), (∀ p ∈ bt, Own g h.length ty74 11 (p.1.map itr) p.2.1 ∧ p.1.length ≤ 3 ∧ (∀ i ∈ p.1, BIt host i) ∧ 0 ≤ p.2.2 ∧ p.2.2 ≤ 12) →
    ∃ l : List Bat, l.map batr = (bt.map (bRow host)).map (fun row => row.map (frz h.length g 3)) ∧ l.length = bt.length ∧ ∀ b ∈ l, BatOK host b
  | [], _ => ⟨[], rfl, rfl, by simp [-Option.bind_some]⟩
  | p :: r, hp => by
    obtain ⟨l, h1, h2, h3⟩ := bats_of r fun q hq => hp q (by simp [-Option.bind_some, hq])
    obtain ⟨ow, hl, hi, hu0, hu9⟩ := hp p (by simp [-Option.bind_some])
    have hsl := own_sl (n0 := h.length) (n := 2) ow (Nat.le_refl _) (fun a _ => itr_frz _ g 1 a)
    refine ⟨⟨host, p.2.2, p.1, _, hsl⟩ :: l, ?_, by simp [-Option.bind_some, h2], fun b hb => ?_⟩
    · simp only [List.map_cons, h1]
      simp [-Option.bind_some, batr, bRow]
    · rcases List.mem_cons.1 hb with rfl | hb
      · exact ⟨rfl, hl, hi, hu0, hu9⟩
      · exact h3 b hb
theorem mk82 (g : Hp) (n : Nat) (hn : n ≤ 100) : dMake tab g ty82 (.int .i64 n) (.int .i64 n) = some (.msl 1 g.length 0 n, dNew g ty3 1 ((List.replicate n 0).map atR)) := by
  have h1 : tab ty82 = some ti82 := id rfl
  have h2 : ti82.td = .sl ty3 := id rfl
  have h3 : tab ty3 = some ti3 := id rfl
  have h4 : ti3.sz = 1 := id rfl
  have h5 : ti3.zero = atR 0 := id rfl
  have h6 : lim n ti3.by_ = true := lim_ok (by have : ti3.by_ = 8 := rfl; rw [this]; omega) (by omega)
  have h7 : (0 : Int) ≤ (n : Int) := by omega
  simp [-Option.bind_some, dMake, h1, h2, h3, h4, h5, h6]
end Go.Proofs.YtjhmicmbbgkhpaaDoor
